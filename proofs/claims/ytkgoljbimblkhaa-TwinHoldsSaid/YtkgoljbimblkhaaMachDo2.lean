/- The machine's steps, third part: the contract of do. -/
import Derived.Test.YtkgoljbimblkhaaMachDo
namespace Go.Proofs.Ytkgoljbimblkhaa.B
open Go.RowKit Go.Proofs.Ytkgoljbimblkhaa.Mine Go.Proofs.Ytkgoljbimblkhaa.Sep Go.Proofs.YtkgoljbimblkhaaW.PrintWords Go.Proofs.YtkgoljbimblkhaaW.PrintLast Go.Proofs.YtkgoljbimblkhaaW.PrintMore
set_option linter.unusedVariables false
set_option linter.unusedSimpArgs false

def doF {M : Type} (f : MF M) (i : S56) (s : St) (m : M) : St × M × List S66 :=
  if i.f0 = 1 then ({ s with regs := s.regs.set i.f1.toNat i.f5, pc := wrap64 (s.pc + 1) }, m, [])
  else if i.f0 = 2 then ({ s with regs := s.regs.set i.f1.toNat (rd s.regs i.f2), pc := wrap64 (s.pc + 1) }, m, [])
  else if i.f0 = 3 then
    if (doW i.f4 (rd s.regs i.f2) (rd s.regs i.f3)).2 = true then
      ({ s with regs := s.regs.set i.f1.toNat (doW i.f4 (rd s.regs i.f2) (rd s.regs i.f3)).1, pc := wrap64 (s.pc + 1) }, m, if i.f4 = 4 ∨ i.f4 = 5 then [⟨4, rd s.regs i.f2, rd s.regs i.f3⟩] else [])
    else (stopF s 2, m, (if i.f4 = 4 ∨ i.f4 = 5 then [⟨4, rd s.regs i.f2, rd s.regs i.f3⟩] else []) ++ [⟨5, 2, 0⟩])
  else if i.f0 = 4 ∨ i.f0 = 5 then reachF f i s m
  else if i.f0 = 6 then ({ s with pc := i.f5 }, m, [])
  else if i.f0 = 7 then if rd s.regs i.f2 = 0 then ({ s with pc := wrap64 (s.pc + 1) }, m, [⟨3, 0, 0⟩]) else ({ s with pc := i.f5 }, m, [⟨3, 1, 0⟩])
  else if i.f0 = 8 ∨ i.f0 = 9 then callF f i s m
  else if i.f0 = 11 then (stopF { s with val := rd s.regs i.f2 } 0, m, [⟨5, 0, 0⟩])
  else if i.f0 = 12 then (stopF s i.f5, m, [⟨5, i.f5, 0⟩])
  else ({ s with pc := wrap64 (s.pc + 1) }, m, [])
def DoPost {g : Nat} {M : Type} (Me : Mem g M) (W0 : World) (L : List Chunk) (r : St × M × List S66) (e : Ending) (w' : World) : Prop := ∃ v, e = .returned v ∧ Sat W0 w' (row k66 66 v r.2.2 :: Me.ch r.1 r.2.1 :: L)

set_option maxRecDepth 100000 in
set_option maxHeartbeats 2000000 in
theorem do_num {g : Nat} {M : Type} (Me : Mem g M) {W0 w : World} {L : List Chunk} {s : St} {m : M} (i1 i2 i3 i4 i5 : Int) (hi : Fit (⟨1, i1, i2, i3, i4, i5⟩ : S56)) (hok : Me.ok m) (hs : s.regs.length = 64) (HS : Sat W0 w (Me.ch s m :: L)) :
    Calls Try.prog 27 #[.pointer (some ⟨g, 0, none⟩), .agg #[.int .i64 1, .int .i64 i1, .int .i64 i2, .int .i64 i3, .int .i64 i4, .int .i64 i5], .iface Me.T Me.self] w (DoPost Me W0 L ({ s with regs := s.regs.set i1.toNat i5, pc := wrap64 (s.pc + 1) }, m, [])) := by
  have hfit := Aside0.mk hi
  obtain ⟨d0, d1, a0, a1, b0, b1⟩ := hi
  dsimp only at d0 d1 a0 a1 b0 b1
  have e15 : (0 : Int) ≤ i2 := a0
  go_enter Try.func27, Try.ntmps27
  go_upto_region 1 with ((with_reducible refine gate_dst (N := 4) rfl ?_); go_must (refine ev_box HS rfl (N := 4) rfl (cs := #[.int .i64 (1), .int .i64 i1, .int .i64 i2, .int .i64 i3, .int .i64 i4, .int .i64 i5]) (t := 56) ?hrun ?_); (case hrun => first | (go_simp; done) | (go_simp; rfl)); clear HS; intro gb w HS)
  have cb := HS.cell 0 rfl
  have fb := HS.frozen 0 rfl
  replace HS := HS.swap
  have fs := Me.frz HS
  have c64 := (Me.cell HS 64 (by decide)).trans (stL_pc hs)
  have cA := mem_reg Me hs HS i2 a0 a1
  have cB := mem_reg Me hs HS i3 b0 b1
  have cD := mem_reg Me hs HS i1 d0 d1
  go_wp2
  go_still_tail 8, (by kernel_rfl)
  go_upto_region 33 with (fail)
  replace HS := Me.set (s' := { s with regs := s.regs.set i1.toNat (i5) }) HS.drew i1.toNat (.int .i64 (i5)) (by omega) (set_reg hs _ (by omega) _)
  refine wp_sat HS (fun w HS => ?_)
  have hs2 : (s.regs.set i1.toNat (i5)).length = 64 := by rw [List.length_set]; exact hs
  have c64 := (Me.cell HS 64 (by decide)).trans (stL_pc hs2)
  have fs := Me.frz HS
  go_wp2
  go_ret
  exact ⟨_, rfl, ((Me.set HS 64 (.int .i64 (wrap64 (s.pc + 1))) (by decide) (set_pc (s := { s with regs := s.regs.set i1.toNat i5 }) hs2 _)).erase 1).nil _ _⟩

set_option maxRecDepth 100000 in
set_option maxHeartbeats 2000000 in
theorem do_move {g : Nat} {M : Type} (Me : Mem g M) {W0 w : World} {L : List Chunk} {s : St} {m : M} (i1 i2 i3 i4 i5 : Int) (hi : Fit (⟨2, i1, i2, i3, i4, i5⟩ : S56)) (hok : Me.ok m) (hs : s.regs.length = 64) (HS : Sat W0 w (Me.ch s m :: L)) :
    Calls Try.prog 27 #[.pointer (some ⟨g, 0, none⟩), .agg #[.int .i64 2, .int .i64 i1, .int .i64 i2, .int .i64 i3, .int .i64 i4, .int .i64 i5], .iface Me.T Me.self] w (DoPost Me W0 L ({ s with regs := s.regs.set i1.toNat (rd s.regs i2), pc := wrap64 (s.pc + 1) }, m, [])) := by
  have hfit := Aside0.mk hi
  obtain ⟨d0, d1, a0, a1, b0, b1⟩ := hi
  dsimp only at d0 d1 a0 a1 b0 b1
  have e15 : (0 : Int) ≤ i2 := a0
  go_enter Try.func27, Try.ntmps27
  go_upto_region 1 with ((with_reducible refine gate_dst (N := 4) rfl ?_); go_must (refine ev_box HS rfl (N := 4) rfl (cs := #[.int .i64 (2), .int .i64 i1, .int .i64 i2, .int .i64 i3, .int .i64 i4, .int .i64 i5]) (t := 56) ?hrun ?_); (case hrun => first | (go_simp; done) | (go_simp; rfl)); clear HS; intro gb w HS)
  have cb := HS.cell 0 rfl
  have fb := HS.frozen 0 rfl
  replace HS := HS.swap
  have fs := Me.frz HS
  have c64 := (Me.cell HS 64 (by decide)).trans (stL_pc hs)
  have cA := mem_reg Me hs HS i2 a0 a1
  have cB := mem_reg Me hs HS i3 b0 b1
  have cD := mem_reg Me hs HS i1 d0 d1
  go_wp2
  go_still_tail 13, (by kernel_rfl)
  go_upto_region 33 with (fail)
  replace HS := Me.set (s' := { s with regs := s.regs.set i1.toNat (rd s.regs i2) }) HS.drew i1.toNat (.int .i64 (rd s.regs i2)) (by omega) (set_reg hs _ (by omega) _)
  refine wp_sat HS (fun w HS => ?_)
  have hs2 : (s.regs.set i1.toNat (rd s.regs i2)).length = 64 := by rw [List.length_set]; exact hs
  have c64 := (Me.cell HS 64 (by decide)).trans (stL_pc hs2)
  have fs := Me.frz HS
  go_wp2
  go_ret
  exact ⟨_, rfl, ((Me.set HS 64 (.int .i64 (wrap64 (s.pc + 1))) (by decide) (set_pc (s := { s with regs := s.regs.set i1.toNat (rd s.regs i2) }) hs2 _)).erase 1).nil _ _⟩

set_option maxRecDepth 100000 in
set_option maxHeartbeats 2000000 in
theorem do_div_ok {g : Nat} {M : Type} (Me : Mem g M) {W0 w : World} {L : List Chunk} {s : St} {m : M} (i1 i2 i3 i4 i5 : Int) (hi : Fit (⟨3, i1, i2, i3, i4, i5⟩ : S56)) (hok : Me.ok m) (hs : s.regs.length = 64) (HS : Sat W0 w (Me.ch s m :: L)) (hd : i4 = 4 ∨ i4 = 5) (hq : (doW i4 (rd s.regs i2) (rd s.regs i3)).2 = true) :
    Calls Try.prog 27 #[.pointer (some ⟨g, 0, none⟩), .agg #[.int .i64 3, .int .i64 i1, .int .i64 i2, .int .i64 i3, .int .i64 i4, .int .i64 i5], .iface Me.T Me.self] w (DoPost Me W0 L ({ s with regs := s.regs.set i1.toNat (doW i4 (rd s.regs i2) (rd s.regs i3)).1, pc := wrap64 (s.pc + 1) }, m, [⟨4, rd s.regs i2, rd s.regs i3⟩])) := by
  have hfit := Aside0.mk hi
  obtain ⟨d0, d1, a0, a1, b0, b1⟩ := hi
  dsimp only at d0 d1 a0 a1 b0 b1
  have e15 : (0 : Int) ≤ i2 := a0
  go_enter Try.func27, Try.ntmps27
  go_upto_region 1 with ((with_reducible refine gate_dst (N := 4) rfl ?_); go_must (refine ev_box HS rfl (N := 4) rfl (cs := #[.int .i64 (3), .int .i64 i1, .int .i64 i2, .int .i64 i3, .int .i64 i4, .int .i64 i5]) (t := 56) ?hrun ?_); (case hrun => first | (go_simp; done) | (go_simp; rfl)); clear HS; intro gb w HS)
  have cb := HS.cell 0 rfl
  have fb := HS.frozen 0 rfl
  replace HS := HS.swap
  have fs := Me.frz HS
  have c64 := (Me.cell HS 64 (by decide)).trans (stL_pc hs)
  have cA := mem_reg Me hs HS i2 a0 a1
  have cB := mem_reg Me hs HS i3 b0 b1
  have cD := mem_reg Me hs HS i1 d0 d1
  have e16 : (0 : Int) ≤ i3 := b0
  have hdv : word_Op_Divides.f i4 = some true := by
    unfold word_Op_Divides.f
    by_cases h4 : i4 = 4
    · rw [if_pos h4]
    · rw [if_neg h4]; rcases hd with h | h
      · exact absurd h h4
      · rw [h]; rfl
  have HDV := Aside0.mk hdv
  have HDW := Aside0.mk (show word_Do.f 2 i4 (rd s.regs i2) (rd s.regs i3) = some ((doW i4 (rd s.regs i2) (rd s.regs i3)).1, true) from by rw [doW_some, ← hq])
  clear hdv hd hq
  replace HS := HS.nil k66 66
  go_upto_region 10 with (go_at_call 34; (with_reducible refine (word_Op_Divides.calls i4 true _ HDV.out).mono ?_); rintro e w_ ⟨rfl, hd_⟩; replace HS := HS.below hd_.below; clear hd_)
  have cb := HS.cell 2 rfl
  have fb := HS.frozen 2 rfl
  have HT := HS.swap
  have fs := Me.frz HT
  have c64 := (Me.cell HT 64 (by decide)).trans (stL_pc hs)
  have cA := mem_reg Me hs HT i2 a0 a1
  have cB := mem_reg Me hs HT i3 b0 b1
  have cD := mem_reg Me hs HT i1 d0 d1
  replace HS := (HS.front 2 rfl).front 2 rfl
  clear HT
  refine start_ (n := 19) (S := fun w' => ∃ L', Sat W0 w' (Me.ch s m :: blk gb 56 #[.int .i64 3, .int .i64 i1, .int .i64 i2, .int .i64 i3, .int .i64 i4, .int .i64 i5] :: L')) (ds := [16, 17]) #[false, false, false, false, false, false, false, false, false, false, false, false, false, false, false, false, false, false, false] (by kernel_rfl) rfl rfl ⟨_, HS.drew⟩ (fun hHeld => ?_)
  refine pure_ (i := 0) (N := (some 49)) (v := ?_) (a' := ?_) #[true, false, false, false, false, false, false, false, false, false, false, false, false, false, false, false, false, false, false] rfl rfl (by kernel_rfl) (fun _ _ _ h => h) (Or.inl ⟨by rfl, ?_⟩) ?_ ?_
  rotate_left
  · intro w'
    go_simp
    with_reducible rfl
  rotate_left
  · (try simp only [Act.put, List.setIfInBounds_toArray, List.set_cons_zero, List.set_cons_succ, i64_w, i32_w])
    rfl
  refine pure_ (i := 1) (N := (some 50)) (v := ?_) (a' := ?_) #[true, true, false, false, false, false, false, false, false, false, false, false, false, false, false, false, false, false, false] rfl rfl (by kernel_rfl) (fun _ _ _ h => h) (Or.inl ⟨by rfl, ?_⟩) ?_ ?_
  rotate_left
  · intro w'
    go_simp
    with_reducible rfl
  rotate_left
  · (try simp only [Act.put, List.setIfInBounds_toArray, List.set_cons_zero, List.set_cons_succ, i64_w, i32_w])
    rfl
  refine pure_ (i := 2) (N := (some 51)) (v := ?_) (a' := ?_) #[true, true, true, false, false, false, false, false, false, false, false, false, false, false, false, false, false, false, false] rfl rfl (by kernel_rfl) (fun _ _ _ h => h) (Or.inl ⟨by rfl, ?_⟩) ?_ ?_
  rotate_left
  · intro w'
    go_simp
    with_reducible rfl
  rotate_left
  · (try simp only [Act.put, List.setIfInBounds_toArray, List.set_cons_zero, List.set_cons_succ, i64_w, i32_w])
    rfl
  refine take_ (i := 3) (N := (some 52)) (v := ?_) (a' := ?_) #[true, true, true, true, false, false, false, false, false, false, false, false, false, false, false, false, false, false, false] rfl rfl (by kernel_rfl) (fun _ _ _ h => h) (Or.inl ⟨by rfl, ?_⟩) hHeld ?_ ?_
  rotate_left
  · rintro w' hS
    obtain ⟨L', hS⟩ := hS
    have cb := hS.cell 1 rfl
    have cA := mem_reg Me hs hS i2 a0 a1
    have cB := mem_reg Me hs hS i3 b0 b1
    go_simp
    with_reducible rfl
  rotate_left
  · (try simp only [Act.put, List.setIfInBounds_toArray, List.set_cons_zero, List.set_cons_succ, i64_w, i32_w])
    rfl
  refine pure_ (i := 4) (N := (some 53)) (v := ?_) (a' := ?_) #[true, true, true, true, true, false, false, false, false, false, false, false, false, false, false, false, false, false, false] rfl rfl (by kernel_rfl) (fun _ _ _ h => h) (Or.inl ⟨by rfl, ?_⟩) ?_ ?_
  rotate_left
  · intro w'
    go_simp
    with_reducible rfl
  rotate_left
  · (try simp only [Act.put, List.setIfInBounds_toArray, List.set_cons_zero, List.set_cons_succ, i64_w, i32_w])
    rfl
  refine pure_ (i := 5) (N := (some 54)) (v := ?_) (a' := ?_) #[true, true, true, true, true, true, false, false, false, false, false, false, false, false, false, false, false, false, false] rfl rfl (by kernel_rfl) (fun _ _ _ h => h) (Or.inl ⟨by rfl, ?_⟩) ?_ ?_
  rotate_left
  · intro w'
    go_simp
    with_reducible rfl
  rotate_left
  · (try simp only [Act.put, List.setIfInBounds_toArray, List.set_cons_zero, List.set_cons_succ, i64_w, i32_w])
    rfl
  refine pure_ (i := 6) (N := (some 55)) (v := ?_) (a' := ?_) #[true, true, true, true, true, true, true, false, false, false, false, false, false, false, false, false, false, false, false] rfl rfl (by kernel_rfl) (fun _ _ _ h => h) (Or.inl ⟨by rfl, ?_⟩) ?_ ?_
  rotate_left
  · intro w'
    go_simp
    with_reducible rfl
  rotate_left
  · (try simp only [Act.put, List.setIfInBounds_toArray, List.set_cons_zero, List.set_cons_succ, i64_w, i32_w])
    rfl
  refine take_ (i := 7) (N := (some 56)) (v := ?_) (a' := ?_) #[true, true, true, true, true, true, true, true, false, false, false, false, false, false, false, false, false, false, false] rfl rfl (by kernel_rfl) (fun _ _ _ h => h) (Or.inl ⟨by rfl, ?_⟩) hHeld ?_ ?_
  rotate_left
  · rintro w' hS
    obtain ⟨L', hS⟩ := hS
    have cb := hS.cell 1 rfl
    have cA := mem_reg Me hs hS i2 a0 a1
    have cB := mem_reg Me hs hS i3 b0 b1
    go_simp
    with_reducible rfl
  rotate_left
  · (try simp only [Act.put, List.setIfInBounds_toArray, List.set_cons_zero, List.set_cons_succ, i64_w, i32_w])
    rfl
  refine pure_ (i := 8) (N := (some 57)) (v := ?_) (a' := ?_) #[true, true, true, true, true, true, true, true, true, false, false, false, false, false, false, false, false, false, false] rfl rfl (by kernel_rfl) (fun _ _ _ h => h) (Or.inl ⟨by rfl, ?_⟩) ?_ ?_
  rotate_left
  · intro w'
    go_simp
    with_reducible rfl
  rotate_left
  · (try simp only [Act.put, List.setIfInBounds_toArray, List.set_cons_zero, List.set_cons_succ, i64_w, i32_w])
    rfl
  refine pure_ (i := 9) (N := (some 58)) (v := ?_) (a' := ?_) #[true, true, true, true, true, true, true, true, true, true, false, false, false, false, false, false, false, false, false] rfl rfl (by kernel_rfl) (fun _ _ _ h => h) (Or.inl ⟨by rfl, ?_⟩) ?_ ?_
  rotate_left
  · intro w'
    go_simp
    with_reducible rfl
  rotate_left
  · (try simp only [Act.put, List.setIfInBounds_toArray, List.set_cons_zero, List.set_cons_succ, i64_w, i32_w])
    rfl
  refine take_ (i := 10) (N := (some 59)) (v := ?_) (a' := ?_) #[true, true, true, true, true, true, true, true, true, true, true, false, false, false, false, false, false, false, false] rfl rfl (by kernel_rfl) (fun _ _ _ h => h) (Or.inl ⟨by rfl, ?_⟩) hHeld ?_ ?_
  rotate_left
  · rintro w' hS
    obtain ⟨L', hS⟩ := hS
    have cb := hS.cell 1 rfl
    have cA := mem_reg Me hs hS i2 a0 a1
    have cB := mem_reg Me hs hS i3 b0 b1
    go_simp
    with_reducible rfl
  rotate_left
  · (try simp only [Act.put, List.setIfInBounds_toArray, List.set_cons_zero, List.set_cons_succ, i64_w, i32_w])
    rfl
  refine pure_ (i := 11) (N := (some 60)) (v := ?_) (a' := ?_) #[true, true, true, true, true, true, true, true, true, true, true, true, false, false, false, false, false, false, false] rfl rfl (by kernel_rfl) (fun _ _ _ h => h) (Or.inl ⟨by rfl, ?_⟩) ?_ ?_
  rotate_left
  · intro w'
    go_simp
    with_reducible rfl
  rotate_left
  · (try simp only [Act.put, List.setIfInBounds_toArray, List.set_cons_zero, List.set_cons_succ, i64_w, i32_w])
    rfl
  refine pure_ (i := 12) (N := (some 61)) (v := ?_) (a' := ?_) #[true, true, true, true, true, true, true, true, true, true, true, true, true, false, false, false, false, false, false] rfl rfl (by kernel_rfl) (fun _ _ _ h => h) (Or.inl ⟨by rfl, ?_⟩) ?_ ?_
  rotate_left
  · intro w'
    go_simp
    with_reducible rfl
  rotate_left
  · (try simp only [Act.put, List.setIfInBounds_toArray, List.set_cons_zero, List.set_cons_succ, i64_w, i32_w])
    rfl
  refine pure_ (i := 13) (N := (some 62)) (v := ?_) (a' := ?_) #[true, true, true, true, true, true, true, true, true, true, true, true, true, true, false, false, false, false, false] rfl rfl (by kernel_rfl) (fun _ _ _ h => h) (Or.inl ⟨by rfl, ?_⟩) ?_ ?_
  rotate_left
  · intro w'
    go_simp
    with_reducible rfl
  rotate_left
  · (try simp only [Act.put, List.setIfInBounds_toArray, List.set_cons_zero, List.set_cons_succ, i64_w, i32_w])
    rfl
  refine take_ (i := 14) (N := (some 63)) (v := ?_) (a' := ?_) #[true, true, true, true, true, true, true, true, true, true, true, true, true, true, true, false, false, false, false] rfl rfl (by kernel_rfl) (fun _ _ _ h => h) (Or.inl ⟨by rfl, ?_⟩) hHeld ?_ ?_
  rotate_left
  · rintro w' hS
    obtain ⟨L', hS⟩ := hS
    have cb := hS.cell 1 rfl
    have cA := mem_reg Me hs hS i2 a0 a1
    have cB := mem_reg Me hs hS i3 b0 b1
    go_simp
    with_reducible rfl
  rotate_left
  · (try simp only [Act.put, List.setIfInBounds_toArray, List.set_cons_zero, List.set_cons_succ, i64_w, i32_w])
    rfl
  refine pure_ (i := 15) (N := (some 64)) (v := ?_) (a' := ?_) #[true, true, true, true, true, true, true, true, true, true, true, true, true, true, true, true, false, false, false] rfl rfl (by kernel_rfl) (fun _ _ _ h => h) (Or.inl ⟨by rfl, ?_⟩) ?_ ?_
  rotate_left
  · intro w'
    go_simp
    with_reducible rfl
  rotate_left
  · (try simp only [Act.put, List.setIfInBounds_toArray, List.set_cons_zero, List.set_cons_succ, i64_w, i32_w])
    rfl
  refine last_ (i := 16) (N := (some 65)) #[true, true, true, true, true, true, true, true, true, true, true, true, true, true, true, true, true, false, false] rfl rfl (by kernel_rfl) (by decide) (fun K hK => ?_)
  refine ev_lit_step k66 (e := 66) HS.drew (by rfl) (N := 65) rfl (xs := [⟨4, rd s.regs i2, rd s.regs i3⟩]) (inner := [.int .i64 4, .int .i64 (rd s.regs i2), .int .i64 (rd s.regs i3)]) ?hrun (reps1 ⟨4, rd s.regs i2, rd s.regs i3⟩) (by simp) ?_
  (case hrun => first | (go_simp; done) | (go_simp; rfl))
  clear HS
  intro gm w HS
  refine hK.out _ _ ?_
  clear hK K
  refine norm_ (a' := ?_) ?_ ?_
  rotate_left
  · show Act.put _ _ _ = _
    (try simp only [Act.put, List.setIfInBounds_toArray, List.set_cons_zero, List.set_cons_succ, i64_w, i32_w])
    rfl
  refine last_ (i := 17) (N := (some 66)) #[true, true, true, true, true, true, true, true, true, true, true, true, true, true, true, true, true, true, false] rfl rfl (by kernel_rfl) (by decide) (fun K hK => ?_)
  refine ev_append_step k66 HS 3 (.tmp 49) (.tmp 65) 31 66 (.agg #[.int .i64 0, .int .i64 0, .int .i64 0]) 24 rfl (HS.C 0 rfl) (fun _ _ h => h) (by rfl) (N := 66) rfl rfl (by rfl) (by rfl) Try.underlying31 info66 rfl (by decide) (by omega) (by simp) ?_
  clear HS
  intro vo w HS
  refine hK.out _ _ ?_
  clear hK K
  refine norm_ (a' := ?_) ?_ ?_
  rotate_left
  · show Act.put _ _ _ = _
    (try simp only [Act.put, List.setIfInBounds_toArray, List.set_cons_zero, List.set_cons_succ, i64_w, i32_w])
    rfl
  refine pure_ (i := 18) (N := (some 8)) (v := ?_) (a' := ?_) #[true, true, true, true, true, true, true, true, true, true, true, true, true, true, true, true, true, true, true] rfl rfl (by kernel_rfl) (fun _ _ _ h => h) (Or.inl ⟨by rfl, ?_⟩) ?_ ?_
  rotate_left
  · intro w'
    go_simp
    with_reducible rfl
  rotate_left
  · (try simp only [Act.put, List.setIfInBounds_toArray, List.set_cons_zero, List.set_cons_succ, i64_w, i32_w])
    rfl
  refine done_ (by kernel_rfl) ?_
  replace HS := HS.tail.front 2 rfl
  go_upto_region 11 with (fail)
  have cb := HS.cell 2 rfl
  have fb := HS.frozen 2 rfl
  have HT := HS.swap
  have fs := Me.frz HT
  have c64 := (Me.cell HT 64 (by decide)).trans (stL_pc hs)
  have cA := mem_reg Me hs HT i2 a0 a1
  have cB := mem_reg Me hs HT i3 b0 b1
  have cD := mem_reg Me hs HT i1 d0 d1
  clear HT
  go_quiet (first | (go_at_call 35; (with_reducible refine (word_Do.calls 2 i4 (rd s.regs i2) (rd s.regs i3) _ _ _ HDW.out).mono ?_); rintro e w' ⟨rfl, ⟨nd, rfl⟩⟩; (try first | exact ⟨rfl, _, World.drewN_drewN _ _ _⟩ | exact ⟨rfl, _, Eq.trans (World.drewN_drewN _ _ _) (congrArg (World.drewN _) (Nat.add_assoc _ _ _))⟩)))
  (first | refine then_drawnN HS (fun w HS => ?_) | refine wp_drawnN HS (fun w HS => ?_))
  have cb := HS.cell 2 rfl
  have fb := HS.frozen 2 rfl
  have HT := HS.swap
  have fs := Me.frz HT
  have c64 := (Me.cell HT 64 (by decide)).trans (stL_pc hs)
  have cA := mem_reg Me hs HT i2 a0 a1
  have cB := mem_reg Me hs HT i3 b0 b1
  have cD := mem_reg Me hs HT i1 d0 d1
  go_wp2
  go_still_tail 7, (by kernel_rfl)
  go_upto_region 33 with (fail)
  replace HS := HS.swap
  replace HS := Me.set (s' := { s with regs := s.regs.set i1.toNat ((doW i4 (rd s.regs i2) (rd s.regs i3)).1) }) HS.drew i1.toNat (.int .i64 ((doW i4 (rd s.regs i2) (rd s.regs i3)).1)) (by omega) (set_reg hs _ (by omega) _)
  refine wp_sat HS (fun w HS => ?_)
  have hs2 : (s.regs.set i1.toNat ((doW i4 (rd s.regs i2) (rd s.regs i3)).1)).length = 64 := by rw [List.length_set]; exact hs
  have c64 := (Me.cell HS 64 (by decide)).trans (stL_pc hs2)
  have fs := Me.frz HS
  go_wp2
  go_ret
  exact ⟨_, rfl, ((Me.set HS 64 (.int .i64 (wrap64 (s.pc + 1))) (by decide) (set_pc (s := { s with regs := s.regs.set i1.toNat (doW i4 (rd s.regs i2) (rd s.regs i3)).1 }) hs2 _)).swap.erase 2)⟩

set_option maxRecDepth 100000 in
set_option maxHeartbeats 2000000 in
theorem do_div_no {g : Nat} {M : Type} (Me : Mem g M) {W0 w : World} {L : List Chunk} {s : St} {m : M} (i1 i2 i3 i4 i5 : Int) (hi : Fit (⟨3, i1, i2, i3, i4, i5⟩ : S56)) (hok : Me.ok m) (hs : s.regs.length = 64) (HS : Sat W0 w (Me.ch s m :: L)) (hd : i4 = 4 ∨ i4 = 5) (hq : (doW i4 (rd s.regs i2) (rd s.regs i3)).2 = false) :
    Calls Try.prog 27 #[.pointer (some ⟨g, 0, none⟩), .agg #[.int .i64 3, .int .i64 i1, .int .i64 i2, .int .i64 i3, .int .i64 i4, .int .i64 i5], .iface Me.T Me.self] w (DoPost Me W0 L (stopF s 2, m, [⟨4, rd s.regs i2, rd s.regs i3⟩] ++ [⟨5, 2, 0⟩])) := by
  have hfit := Aside0.mk hi
  obtain ⟨d0, d1, a0, a1, b0, b1⟩ := hi
  dsimp only at d0 d1 a0 a1 b0 b1
  have e15 : (0 : Int) ≤ i2 := a0
  go_enter Try.func27, Try.ntmps27
  go_upto_region 1 with ((with_reducible refine gate_dst (N := 4) rfl ?_); go_must (refine ev_box HS rfl (N := 4) rfl (cs := #[.int .i64 (3), .int .i64 i1, .int .i64 i2, .int .i64 i3, .int .i64 i4, .int .i64 i5]) (t := 56) ?hrun ?_); (case hrun => first | (go_simp; done) | (go_simp; rfl)); clear HS; intro gb w HS)
  have cb := HS.cell 0 rfl
  have fb := HS.frozen 0 rfl
  replace HS := HS.swap
  have fs := Me.frz HS
  have c64 := (Me.cell HS 64 (by decide)).trans (stL_pc hs)
  have cA := mem_reg Me hs HS i2 a0 a1
  have cB := mem_reg Me hs HS i3 b0 b1
  have cD := mem_reg Me hs HS i1 d0 d1
  have e16 : (0 : Int) ≤ i3 := b0
  have hdv : word_Op_Divides.f i4 = some true := by
    unfold word_Op_Divides.f
    by_cases h4 : i4 = 4
    · rw [if_pos h4]
    · rw [if_neg h4]; rcases hd with h | h
      · exact absurd h h4
      · rw [h]; rfl
  have HDV := Aside0.mk hdv
  have HDW := Aside0.mk (show word_Do.f 2 i4 (rd s.regs i2) (rd s.regs i3) = some ((doW i4 (rd s.regs i2) (rd s.regs i3)).1, false) from by rw [doW_some, ← hq])
  clear hdv hd hq
  replace HS := HS.nil k66 66
  go_upto_region 10 with (go_at_call 34; (with_reducible refine (word_Op_Divides.calls i4 true _ HDV.out).mono ?_); rintro e w_ ⟨rfl, hd_⟩; replace HS := HS.below hd_.below; clear hd_)
  have cb := HS.cell 2 rfl
  have fb := HS.frozen 2 rfl
  have HT := HS.swap
  have fs := Me.frz HT
  have c64 := (Me.cell HT 64 (by decide)).trans (stL_pc hs)
  have cA := mem_reg Me hs HT i2 a0 a1
  have cB := mem_reg Me hs HT i3 b0 b1
  have cD := mem_reg Me hs HT i1 d0 d1
  replace HS := (HS.front 2 rfl).front 2 rfl
  clear HT
  refine start_ (n := 19) (S := fun w' => ∃ L', Sat W0 w' (Me.ch s m :: blk gb 56 #[.int .i64 3, .int .i64 i1, .int .i64 i2, .int .i64 i3, .int .i64 i4, .int .i64 i5] :: L')) (ds := [16, 17]) #[false, false, false, false, false, false, false, false, false, false, false, false, false, false, false, false, false, false, false] (by kernel_rfl) rfl rfl ⟨_, HS.drew⟩ (fun hHeld => ?_)
  refine pure_ (i := 0) (N := (some 49)) (v := ?_) (a' := ?_) #[true, false, false, false, false, false, false, false, false, false, false, false, false, false, false, false, false, false, false] rfl rfl (by kernel_rfl) (fun _ _ _ h => h) (Or.inl ⟨by rfl, ?_⟩) ?_ ?_
  rotate_left
  · intro w'
    go_simp
    with_reducible rfl
  rotate_left
  · (try simp only [Act.put, List.setIfInBounds_toArray, List.set_cons_zero, List.set_cons_succ, i64_w, i32_w])
    rfl
  refine pure_ (i := 1) (N := (some 50)) (v := ?_) (a' := ?_) #[true, true, false, false, false, false, false, false, false, false, false, false, false, false, false, false, false, false, false] rfl rfl (by kernel_rfl) (fun _ _ _ h => h) (Or.inl ⟨by rfl, ?_⟩) ?_ ?_
  rotate_left
  · intro w'
    go_simp
    with_reducible rfl
  rotate_left
  · (try simp only [Act.put, List.setIfInBounds_toArray, List.set_cons_zero, List.set_cons_succ, i64_w, i32_w])
    rfl
  refine pure_ (i := 2) (N := (some 51)) (v := ?_) (a' := ?_) #[true, true, true, false, false, false, false, false, false, false, false, false, false, false, false, false, false, false, false] rfl rfl (by kernel_rfl) (fun _ _ _ h => h) (Or.inl ⟨by rfl, ?_⟩) ?_ ?_
  rotate_left
  · intro w'
    go_simp
    with_reducible rfl
  rotate_left
  · (try simp only [Act.put, List.setIfInBounds_toArray, List.set_cons_zero, List.set_cons_succ, i64_w, i32_w])
    rfl
  refine take_ (i := 3) (N := (some 52)) (v := ?_) (a' := ?_) #[true, true, true, true, false, false, false, false, false, false, false, false, false, false, false, false, false, false, false] rfl rfl (by kernel_rfl) (fun _ _ _ h => h) (Or.inl ⟨by rfl, ?_⟩) hHeld ?_ ?_
  rotate_left
  · rintro w' hS
    obtain ⟨L', hS⟩ := hS
    have cb := hS.cell 1 rfl
    have cA := mem_reg Me hs hS i2 a0 a1
    have cB := mem_reg Me hs hS i3 b0 b1
    go_simp
    with_reducible rfl
  rotate_left
  · (try simp only [Act.put, List.setIfInBounds_toArray, List.set_cons_zero, List.set_cons_succ, i64_w, i32_w])
    rfl
  refine pure_ (i := 4) (N := (some 53)) (v := ?_) (a' := ?_) #[true, true, true, true, true, false, false, false, false, false, false, false, false, false, false, false, false, false, false] rfl rfl (by kernel_rfl) (fun _ _ _ h => h) (Or.inl ⟨by rfl, ?_⟩) ?_ ?_
  rotate_left
  · intro w'
    go_simp
    with_reducible rfl
  rotate_left
  · (try simp only [Act.put, List.setIfInBounds_toArray, List.set_cons_zero, List.set_cons_succ, i64_w, i32_w])
    rfl
  refine pure_ (i := 5) (N := (some 54)) (v := ?_) (a' := ?_) #[true, true, true, true, true, true, false, false, false, false, false, false, false, false, false, false, false, false, false] rfl rfl (by kernel_rfl) (fun _ _ _ h => h) (Or.inl ⟨by rfl, ?_⟩) ?_ ?_
  rotate_left
  · intro w'
    go_simp
    with_reducible rfl
  rotate_left
  · (try simp only [Act.put, List.setIfInBounds_toArray, List.set_cons_zero, List.set_cons_succ, i64_w, i32_w])
    rfl
  refine pure_ (i := 6) (N := (some 55)) (v := ?_) (a' := ?_) #[true, true, true, true, true, true, true, false, false, false, false, false, false, false, false, false, false, false, false] rfl rfl (by kernel_rfl) (fun _ _ _ h => h) (Or.inl ⟨by rfl, ?_⟩) ?_ ?_
  rotate_left
  · intro w'
    go_simp
    with_reducible rfl
  rotate_left
  · (try simp only [Act.put, List.setIfInBounds_toArray, List.set_cons_zero, List.set_cons_succ, i64_w, i32_w])
    rfl
  refine take_ (i := 7) (N := (some 56)) (v := ?_) (a' := ?_) #[true, true, true, true, true, true, true, true, false, false, false, false, false, false, false, false, false, false, false] rfl rfl (by kernel_rfl) (fun _ _ _ h => h) (Or.inl ⟨by rfl, ?_⟩) hHeld ?_ ?_
  rotate_left
  · rintro w' hS
    obtain ⟨L', hS⟩ := hS
    have cb := hS.cell 1 rfl
    have cA := mem_reg Me hs hS i2 a0 a1
    have cB := mem_reg Me hs hS i3 b0 b1
    go_simp
    with_reducible rfl
  rotate_left
  · (try simp only [Act.put, List.setIfInBounds_toArray, List.set_cons_zero, List.set_cons_succ, i64_w, i32_w])
    rfl
  refine pure_ (i := 8) (N := (some 57)) (v := ?_) (a' := ?_) #[true, true, true, true, true, true, true, true, true, false, false, false, false, false, false, false, false, false, false] rfl rfl (by kernel_rfl) (fun _ _ _ h => h) (Or.inl ⟨by rfl, ?_⟩) ?_ ?_
  rotate_left
  · intro w'
    go_simp
    with_reducible rfl
  rotate_left
  · (try simp only [Act.put, List.setIfInBounds_toArray, List.set_cons_zero, List.set_cons_succ, i64_w, i32_w])
    rfl
  refine pure_ (i := 9) (N := (some 58)) (v := ?_) (a' := ?_) #[true, true, true, true, true, true, true, true, true, true, false, false, false, false, false, false, false, false, false] rfl rfl (by kernel_rfl) (fun _ _ _ h => h) (Or.inl ⟨by rfl, ?_⟩) ?_ ?_
  rotate_left
  · intro w'
    go_simp
    with_reducible rfl
  rotate_left
  · (try simp only [Act.put, List.setIfInBounds_toArray, List.set_cons_zero, List.set_cons_succ, i64_w, i32_w])
    rfl
  refine take_ (i := 10) (N := (some 59)) (v := ?_) (a' := ?_) #[true, true, true, true, true, true, true, true, true, true, true, false, false, false, false, false, false, false, false] rfl rfl (by kernel_rfl) (fun _ _ _ h => h) (Or.inl ⟨by rfl, ?_⟩) hHeld ?_ ?_
  rotate_left
  · rintro w' hS
    obtain ⟨L', hS⟩ := hS
    have cb := hS.cell 1 rfl
    have cA := mem_reg Me hs hS i2 a0 a1
    have cB := mem_reg Me hs hS i3 b0 b1
    go_simp
    with_reducible rfl
  rotate_left
  · (try simp only [Act.put, List.setIfInBounds_toArray, List.set_cons_zero, List.set_cons_succ, i64_w, i32_w])
    rfl
  refine pure_ (i := 11) (N := (some 60)) (v := ?_) (a' := ?_) #[true, true, true, true, true, true, true, true, true, true, true, true, false, false, false, false, false, false, false] rfl rfl (by kernel_rfl) (fun _ _ _ h => h) (Or.inl ⟨by rfl, ?_⟩) ?_ ?_
  rotate_left
  · intro w'
    go_simp
    with_reducible rfl
  rotate_left
  · (try simp only [Act.put, List.setIfInBounds_toArray, List.set_cons_zero, List.set_cons_succ, i64_w, i32_w])
    rfl
  refine pure_ (i := 12) (N := (some 61)) (v := ?_) (a' := ?_) #[true, true, true, true, true, true, true, true, true, true, true, true, true, false, false, false, false, false, false] rfl rfl (by kernel_rfl) (fun _ _ _ h => h) (Or.inl ⟨by rfl, ?_⟩) ?_ ?_
  rotate_left
  · intro w'
    go_simp
    with_reducible rfl
  rotate_left
  · (try simp only [Act.put, List.setIfInBounds_toArray, List.set_cons_zero, List.set_cons_succ, i64_w, i32_w])
    rfl
  refine pure_ (i := 13) (N := (some 62)) (v := ?_) (a' := ?_) #[true, true, true, true, true, true, true, true, true, true, true, true, true, true, false, false, false, false, false] rfl rfl (by kernel_rfl) (fun _ _ _ h => h) (Or.inl ⟨by rfl, ?_⟩) ?_ ?_
  rotate_left
  · intro w'
    go_simp
    with_reducible rfl
  rotate_left
  · (try simp only [Act.put, List.setIfInBounds_toArray, List.set_cons_zero, List.set_cons_succ, i64_w, i32_w])
    rfl
  refine take_ (i := 14) (N := (some 63)) (v := ?_) (a' := ?_) #[true, true, true, true, true, true, true, true, true, true, true, true, true, true, true, false, false, false, false] rfl rfl (by kernel_rfl) (fun _ _ _ h => h) (Or.inl ⟨by rfl, ?_⟩) hHeld ?_ ?_
  rotate_left
  · rintro w' hS
    obtain ⟨L', hS⟩ := hS
    have cb := hS.cell 1 rfl
    have cA := mem_reg Me hs hS i2 a0 a1
    have cB := mem_reg Me hs hS i3 b0 b1
    go_simp
    with_reducible rfl
  rotate_left
  · (try simp only [Act.put, List.setIfInBounds_toArray, List.set_cons_zero, List.set_cons_succ, i64_w, i32_w])
    rfl
  refine pure_ (i := 15) (N := (some 64)) (v := ?_) (a' := ?_) #[true, true, true, true, true, true, true, true, true, true, true, true, true, true, true, true, false, false, false] rfl rfl (by kernel_rfl) (fun _ _ _ h => h) (Or.inl ⟨by rfl, ?_⟩) ?_ ?_
  rotate_left
  · intro w'
    go_simp
    with_reducible rfl
  rotate_left
  · (try simp only [Act.put, List.setIfInBounds_toArray, List.set_cons_zero, List.set_cons_succ, i64_w, i32_w])
    rfl
  refine last_ (i := 16) (N := (some 65)) #[true, true, true, true, true, true, true, true, true, true, true, true, true, true, true, true, true, false, false] rfl rfl (by kernel_rfl) (by decide) (fun K hK => ?_)
  refine ev_lit_step k66 (e := 66) HS.drew (by rfl) (N := 65) rfl (xs := [⟨4, rd s.regs i2, rd s.regs i3⟩]) (inner := [.int .i64 4, .int .i64 (rd s.regs i2), .int .i64 (rd s.regs i3)]) ?hrun (reps1 ⟨4, rd s.regs i2, rd s.regs i3⟩) (by simp) ?_
  (case hrun => first | (go_simp; done) | (go_simp; rfl))
  clear HS
  intro gm w HS
  refine hK.out _ _ ?_
  clear hK K
  refine norm_ (a' := ?_) ?_ ?_
  rotate_left
  · show Act.put _ _ _ = _
    (try simp only [Act.put, List.setIfInBounds_toArray, List.set_cons_zero, List.set_cons_succ, i64_w, i32_w])
    rfl
  refine last_ (i := 17) (N := (some 66)) #[true, true, true, true, true, true, true, true, true, true, true, true, true, true, true, true, true, true, false] rfl rfl (by kernel_rfl) (by decide) (fun K hK => ?_)
  refine ev_append_step k66 HS 3 (.tmp 49) (.tmp 65) 31 66 (.agg #[.int .i64 0, .int .i64 0, .int .i64 0]) 24 rfl (HS.C 0 rfl) (fun _ _ h => h) (by rfl) (N := 66) rfl rfl (by rfl) (by rfl) Try.underlying31 info66 rfl (by decide) (by omega) (by simp) ?_
  clear HS
  intro vo w HS
  refine hK.out _ _ ?_
  clear hK K
  refine norm_ (a' := ?_) ?_ ?_
  rotate_left
  · show Act.put _ _ _ = _
    (try simp only [Act.put, List.setIfInBounds_toArray, List.set_cons_zero, List.set_cons_succ, i64_w, i32_w])
    rfl
  refine pure_ (i := 18) (N := (some 8)) (v := ?_) (a' := ?_) #[true, true, true, true, true, true, true, true, true, true, true, true, true, true, true, true, true, true, true] rfl rfl (by kernel_rfl) (fun _ _ _ h => h) (Or.inl ⟨by rfl, ?_⟩) ?_ ?_
  rotate_left
  · intro w'
    go_simp
    with_reducible rfl
  rotate_left
  · (try simp only [Act.put, List.setIfInBounds_toArray, List.set_cons_zero, List.set_cons_succ, i64_w, i32_w])
    rfl
  refine done_ (by kernel_rfl) ?_
  replace HS := HS.tail.front 2 rfl
  go_upto_region 11 with (fail)
  have cb := HS.cell 2 rfl
  have fb := HS.frozen 2 rfl
  have HT := HS.swap
  have fs := Me.frz HT
  have c64 := (Me.cell HT 64 (by decide)).trans (stL_pc hs)
  have cA := mem_reg Me hs HT i2 a0 a1
  have cB := mem_reg Me hs HT i3 b0 b1
  have cD := mem_reg Me hs HT i1 d0 d1
  clear HT
  go_quiet (first | (go_at_call 35; (with_reducible refine (word_Do.calls 2 i4 (rd s.regs i2) (rd s.regs i3) _ _ _ HDW.out).mono ?_); rintro e w' ⟨rfl, ⟨nd, rfl⟩⟩; (try first | exact ⟨rfl, _, World.drewN_drewN _ _ _⟩ | exact ⟨rfl, _, Eq.trans (World.drewN_drewN _ _ _) (congrArg (World.drewN _) (Nat.add_assoc _ _ _))⟩)))
  (first | refine then_drawnN HS (fun w HS => ?_) | refine wp_drawnN HS (fun w HS => ?_))
  have cb := HS.cell 2 rfl
  have fb := HS.frozen 2 rfl
  have HT := HS.swap
  have fs := Me.frz HT
  have c64 := (Me.cell HT 64 (by decide)).trans (stL_pc hs)
  have cA := mem_reg Me hs HT i2 a0 a1
  have cB := mem_reg Me hs HT i3 b0 b1
  have cD := mem_reg Me hs HT i1 d0 d1
  clear HT
  replace HS := HS.swap
  go_wp2_with (first | (go_at_call 26; (with_reducible refine (stop_calls Me (2) hs HS).mono ?_); rintro e w_ ⟨rfl, HS_⟩; clear HS; have HS := HS_; clear HS_) | ((with_reducible refine gate_dst (N := 92) rfl ?_); go_must (refine ev_lit k66 (e := 66) HS rfl (N := 92) rfl (xs := [⟨5, 2, 0⟩]) (inner := [.int .i64 5, .int .i64 (2), .int .i64 0]) ?hrun (reps1 ⟨5, 2, 0⟩) (by first | decide | simp) ?_); (case hrun => first | (go_simp; done) | (go_simp; rfl)); clear HS; intro gm w HS) | ((with_reducible refine gate_builtin (b := .append) (xs := #[.tmp 89, .tmp 92]) rfl ?_); go_must (refine ev_append k66 HS 2 (.tmp 89) (.tmp 92) 31 66 (.agg #[.int .i64 0, .int .i64 0, .int .i64 0]) 24 rfl (HS.C 0 rfl) (fun _ _ h => h) rfl rfl rfl rfl Try.underlying31 info66 rfl (by decide) (by omega) ((by simp)) ?_); clear HS; intro vo w HS))
  go_ret
  exact ⟨_, rfl, HS.tail.swap.erase 2⟩

set_option maxRecDepth 100000 in
set_option maxHeartbeats 2000000 in
theorem do_op_ok {g : Nat} {M : Type} (Me : Mem g M) {W0 w : World} {L : List Chunk} {s : St} {m : M} (i1 i2 i3 i4 i5 : Int) (hi : Fit (⟨3, i1, i2, i3, i4, i5⟩ : S56)) (hok : Me.ok m) (hs : s.regs.length = 64) (HS : Sat W0 w (Me.ch s m :: L)) (hd : ¬ (i4 = 4 ∨ i4 = 5)) (hq : (doW i4 (rd s.regs i2) (rd s.regs i3)).2 = true) :
    Calls Try.prog 27 #[.pointer (some ⟨g, 0, none⟩), .agg #[.int .i64 3, .int .i64 i1, .int .i64 i2, .int .i64 i3, .int .i64 i4, .int .i64 i5], .iface Me.T Me.self] w (DoPost Me W0 L ({ s with regs := s.regs.set i1.toNat (doW i4 (rd s.regs i2) (rd s.regs i3)).1, pc := wrap64 (s.pc + 1) }, m, [])) := by
  have hfit := Aside0.mk hi
  obtain ⟨d0, d1, a0, a1, b0, b1⟩ := hi
  dsimp only at d0 d1 a0 a1 b0 b1
  have e15 : (0 : Int) ≤ i2 := a0
  go_enter Try.func27, Try.ntmps27
  go_upto_region 1 with ((with_reducible refine gate_dst (N := 4) rfl ?_); go_must (refine ev_box HS rfl (N := 4) rfl (cs := #[.int .i64 (3), .int .i64 i1, .int .i64 i2, .int .i64 i3, .int .i64 i4, .int .i64 i5]) (t := 56) ?hrun ?_); (case hrun => first | (go_simp; done) | (go_simp; rfl)); clear HS; intro gb w HS)
  have cb := HS.cell 0 rfl
  have fb := HS.frozen 0 rfl
  replace HS := HS.swap
  have fs := Me.frz HS
  have c64 := (Me.cell HS 64 (by decide)).trans (stL_pc hs)
  have cA := mem_reg Me hs HS i2 a0 a1
  have cB := mem_reg Me hs HS i3 b0 b1
  have cD := mem_reg Me hs HS i1 d0 d1
  have e16 : (0 : Int) ≤ i3 := b0
  have hdv : word_Op_Divides.f i4 = some false := by
    unfold word_Op_Divides.f
    rw [if_neg (fun h => hd (.inl h)), beq_eq_false_iff_ne.mpr (fun h => hd (.inr h))]
  have HDV := Aside0.mk hdv
  have HDW := Aside0.mk (show word_Do.f 2 i4 (rd s.regs i2) (rd s.regs i3) = some ((doW i4 (rd s.regs i2) (rd s.regs i3)).1, true) from by rw [doW_some, ← hq])
  clear hdv hd hq
  replace HS := HS.nil k66 66
  go_upto_region 11 with (go_at_call 34; (with_reducible refine (word_Op_Divides.calls i4 false _ HDV.out).mono ?_); rintro e w_ ⟨rfl, hd_⟩; replace HS := HS.below hd_.below; clear hd_)
  have cb := HS.cell 2 rfl
  have fb := HS.frozen 2 rfl
  have HT := HS.swap
  have fs := Me.frz HT
  have c64 := (Me.cell HT 64 (by decide)).trans (stL_pc hs)
  have cA := mem_reg Me hs HT i2 a0 a1
  have cB := mem_reg Me hs HT i3 b0 b1
  have cD := mem_reg Me hs HT i1 d0 d1
  clear HT
  go_quiet (first | (go_at_call 35; (with_reducible refine (word_Do.calls 2 i4 (rd s.regs i2) (rd s.regs i3) _ _ _ HDW.out).mono ?_); rintro e w' ⟨rfl, ⟨nd, rfl⟩⟩; (try first | exact ⟨rfl, _, World.drewN_drewN _ _ _⟩ | exact ⟨rfl, _, Eq.trans (World.drewN_drewN _ _ _) (congrArg (World.drewN _) (Nat.add_assoc _ _ _))⟩)))
  (first | refine then_drawnN HS (fun w HS => ?_) | refine wp_drawnN HS (fun w HS => ?_))
  have cb := HS.cell 2 rfl
  have fb := HS.frozen 2 rfl
  have HT := HS.swap
  have fs := Me.frz HT
  have c64 := (Me.cell HT 64 (by decide)).trans (stL_pc hs)
  have cA := mem_reg Me hs HT i2 a0 a1
  have cB := mem_reg Me hs HT i3 b0 b1
  have cD := mem_reg Me hs HT i1 d0 d1
  go_wp2
  go_still_tail 7, (by kernel_rfl)
  go_upto_region 33 with (fail)
  replace HS := HS.swap
  replace HS := Me.set (s' := { s with regs := s.regs.set i1.toNat ((doW i4 (rd s.regs i2) (rd s.regs i3)).1) }) HS.drew i1.toNat (.int .i64 ((doW i4 (rd s.regs i2) (rd s.regs i3)).1)) (by omega) (set_reg hs _ (by omega) _)
  refine wp_sat HS (fun w HS => ?_)
  have hs2 : (s.regs.set i1.toNat ((doW i4 (rd s.regs i2) (rd s.regs i3)).1)).length = 64 := by rw [List.length_set]; exact hs
  have c64 := (Me.cell HS 64 (by decide)).trans (stL_pc hs2)
  have fs := Me.frz HS
  go_wp2
  go_ret
  exact ⟨_, rfl, ((Me.set HS 64 (.int .i64 (wrap64 (s.pc + 1))) (by decide) (set_pc (s := { s with regs := s.regs.set i1.toNat (doW i4 (rd s.regs i2) (rd s.regs i3)).1 }) hs2 _)).swap.erase 2)⟩

set_option maxRecDepth 100000 in
set_option maxHeartbeats 2000000 in
theorem do_op_no {g : Nat} {M : Type} (Me : Mem g M) {W0 w : World} {L : List Chunk} {s : St} {m : M} (i1 i2 i3 i4 i5 : Int) (hi : Fit (⟨3, i1, i2, i3, i4, i5⟩ : S56)) (hok : Me.ok m) (hs : s.regs.length = 64) (HS : Sat W0 w (Me.ch s m :: L)) (hd : ¬ (i4 = 4 ∨ i4 = 5)) (hq : (doW i4 (rd s.regs i2) (rd s.regs i3)).2 = false) :
    Calls Try.prog 27 #[.pointer (some ⟨g, 0, none⟩), .agg #[.int .i64 3, .int .i64 i1, .int .i64 i2, .int .i64 i3, .int .i64 i4, .int .i64 i5], .iface Me.T Me.self] w (DoPost Me W0 L (stopF s 2, m, [] ++ [⟨5, 2, 0⟩])) := by
  have hfit := Aside0.mk hi
  obtain ⟨d0, d1, a0, a1, b0, b1⟩ := hi
  dsimp only at d0 d1 a0 a1 b0 b1
  have e15 : (0 : Int) ≤ i2 := a0
  go_enter Try.func27, Try.ntmps27
  go_upto_region 1 with ((with_reducible refine gate_dst (N := 4) rfl ?_); go_must (refine ev_box HS rfl (N := 4) rfl (cs := #[.int .i64 (3), .int .i64 i1, .int .i64 i2, .int .i64 i3, .int .i64 i4, .int .i64 i5]) (t := 56) ?hrun ?_); (case hrun => first | (go_simp; done) | (go_simp; rfl)); clear HS; intro gb w HS)
  have cb := HS.cell 0 rfl
  have fb := HS.frozen 0 rfl
  replace HS := HS.swap
  have fs := Me.frz HS
  have c64 := (Me.cell HS 64 (by decide)).trans (stL_pc hs)
  have cA := mem_reg Me hs HS i2 a0 a1
  have cB := mem_reg Me hs HS i3 b0 b1
  have cD := mem_reg Me hs HS i1 d0 d1
  have e16 : (0 : Int) ≤ i3 := b0
  have hdv : word_Op_Divides.f i4 = some false := by
    unfold word_Op_Divides.f
    rw [if_neg (fun h => hd (.inl h)), beq_eq_false_iff_ne.mpr (fun h => hd (.inr h))]
  have HDV := Aside0.mk hdv
  have HDW := Aside0.mk (show word_Do.f 2 i4 (rd s.regs i2) (rd s.regs i3) = some ((doW i4 (rd s.regs i2) (rd s.regs i3)).1, false) from by rw [doW_some, ← hq])
  clear hdv hd hq
  replace HS := HS.nil k66 66
  go_upto_region 11 with (go_at_call 34; (with_reducible refine (word_Op_Divides.calls i4 false _ HDV.out).mono ?_); rintro e w_ ⟨rfl, hd_⟩; replace HS := HS.below hd_.below; clear hd_)
  have cb := HS.cell 2 rfl
  have fb := HS.frozen 2 rfl
  have HT := HS.swap
  have fs := Me.frz HT
  have c64 := (Me.cell HT 64 (by decide)).trans (stL_pc hs)
  have cA := mem_reg Me hs HT i2 a0 a1
  have cB := mem_reg Me hs HT i3 b0 b1
  have cD := mem_reg Me hs HT i1 d0 d1
  clear HT
  go_quiet (first | (go_at_call 35; (with_reducible refine (word_Do.calls 2 i4 (rd s.regs i2) (rd s.regs i3) _ _ _ HDW.out).mono ?_); rintro e w' ⟨rfl, ⟨nd, rfl⟩⟩; (try first | exact ⟨rfl, _, World.drewN_drewN _ _ _⟩ | exact ⟨rfl, _, Eq.trans (World.drewN_drewN _ _ _) (congrArg (World.drewN _) (Nat.add_assoc _ _ _))⟩)))
  (first | refine then_drawnN HS (fun w HS => ?_) | refine wp_drawnN HS (fun w HS => ?_))
  have cb := HS.cell 2 rfl
  have fb := HS.frozen 2 rfl
  have HT := HS.swap
  have fs := Me.frz HT
  have c64 := (Me.cell HT 64 (by decide)).trans (stL_pc hs)
  have cA := mem_reg Me hs HT i2 a0 a1
  have cB := mem_reg Me hs HT i3 b0 b1
  have cD := mem_reg Me hs HT i1 d0 d1
  clear HT
  replace HS := HS.swap
  go_wp2_with (first | (go_at_call 26; (with_reducible refine (stop_calls Me (2) hs HS).mono ?_); rintro e w_ ⟨rfl, HS_⟩; clear HS; have HS := HS_; clear HS_) | ((with_reducible refine gate_dst (N := 92) rfl ?_); go_must (refine ev_lit k66 (e := 66) HS rfl (N := 92) rfl (xs := [⟨5, 2, 0⟩]) (inner := [.int .i64 5, .int .i64 (2), .int .i64 0]) ?hrun (reps1 ⟨5, 2, 0⟩) (by first | decide | simp) ?_); (case hrun => first | (go_simp; done) | (go_simp; rfl)); clear HS; intro gm w HS) | ((with_reducible refine gate_builtin (b := .append) (xs := #[.tmp 89, .tmp 92]) rfl ?_); go_must (refine ev_append k66 HS 2 (.tmp 89) (.tmp 92) 31 66 (.agg #[.int .i64 0, .int .i64 0, .int .i64 0]) 24 rfl (HS.C 0 rfl) (fun _ _ h => h) rfl rfl rfl rfl Try.underlying31 info66 rfl (by decide) (by omega) ((by simp)) ?_); clear HS; intro vo w HS))
  go_ret
  exact ⟨_, rfl, HS.tail.swap.erase 2⟩

set_option maxRecDepth 100000 in
set_option maxHeartbeats 2000000 in
theorem do_load {g : Nat} {M : Type} (Me : Mem g M) {W0 w : World} {L : List Chunk} {s : St} {m : M} (i1 i2 i3 i4 i5 : Int) (hi : Fit (⟨4, i1, i2, i3, i4, i5⟩ : S56)) (hok : Me.ok m) (hs : s.regs.length = 64) (HS : Sat W0 w (Me.ch s m :: L)) :
    Calls Try.prog 27 #[.pointer (some ⟨g, 0, none⟩), .agg #[.int .i64 4, .int .i64 i1, .int .i64 i2, .int .i64 i3, .int .i64 i4, .int .i64 i5], .iface Me.T Me.self] w (DoPost Me W0 L (reachF Me.f ⟨4, i1, i2, i3, i4, i5⟩ s m)) := by
  have hfit := Aside0.mk hi
  obtain ⟨d0, d1, a0, a1, b0, b1⟩ := hi
  dsimp only at d0 d1 a0 a1 b0 b1
  have e15 : (0 : Int) ≤ i2 := a0
  go_enter Try.func27, Try.ntmps27
  go_upto_region 1 with ((with_reducible refine gate_dst (N := 4) rfl ?_); go_must (refine ev_box HS rfl (N := 4) rfl (cs := #[.int .i64 (4), .int .i64 i1, .int .i64 i2, .int .i64 i3, .int .i64 i4, .int .i64 i5]) (t := 56) ?hrun ?_); (case hrun => first | (go_simp; done) | (go_simp; rfl)); clear HS; intro gb w HS)
  have cb := HS.cell 0 rfl
  have fb := HS.frozen 0 rfl
  replace HS := HS.swap
  have fs := Me.frz HS
  have c64 := (Me.cell HS 64 (by decide)).trans (stL_pc hs)
  have cA := mem_reg Me hs HS i2 a0 a1
  have cB := mem_reg Me hs HS i3 b0 b1
  have cD := mem_reg Me hs HS i1 d0 d1
  have R := reach_calls Me (⟨4, i1, i2, i3, i4, i5⟩ : S56) hfit.out hok hs HS
  unfold insV at R
  dsimp only at R
  have HR := Aside0.mk R
  clear R
  go_wp2_with (go_at_call 36; (with_reducible refine HR.out.mono ?_); rintro e w_ ⟨v, rfl, HS_⟩; clear HS; have HS := HS_; clear HS_)
  go_ret
  exact ⟨_, rfl, HS.erase 2⟩

set_option maxRecDepth 100000 in
set_option maxHeartbeats 2000000 in
theorem do_store {g : Nat} {M : Type} (Me : Mem g M) {W0 w : World} {L : List Chunk} {s : St} {m : M} (i1 i2 i3 i4 i5 : Int) (hi : Fit (⟨5, i1, i2, i3, i4, i5⟩ : S56)) (hok : Me.ok m) (hs : s.regs.length = 64) (HS : Sat W0 w (Me.ch s m :: L)) :
    Calls Try.prog 27 #[.pointer (some ⟨g, 0, none⟩), .agg #[.int .i64 5, .int .i64 i1, .int .i64 i2, .int .i64 i3, .int .i64 i4, .int .i64 i5], .iface Me.T Me.self] w (DoPost Me W0 L (reachF Me.f ⟨5, i1, i2, i3, i4, i5⟩ s m)) := by
  have hfit := Aside0.mk hi
  obtain ⟨d0, d1, a0, a1, b0, b1⟩ := hi
  dsimp only at d0 d1 a0 a1 b0 b1
  have e15 : (0 : Int) ≤ i2 := a0
  go_enter Try.func27, Try.ntmps27
  go_upto_region 1 with ((with_reducible refine gate_dst (N := 4) rfl ?_); go_must (refine ev_box HS rfl (N := 4) rfl (cs := #[.int .i64 (5), .int .i64 i1, .int .i64 i2, .int .i64 i3, .int .i64 i4, .int .i64 i5]) (t := 56) ?hrun ?_); (case hrun => first | (go_simp; done) | (go_simp; rfl)); clear HS; intro gb w HS)
  have cb := HS.cell 0 rfl
  have fb := HS.frozen 0 rfl
  replace HS := HS.swap
  have fs := Me.frz HS
  have c64 := (Me.cell HS 64 (by decide)).trans (stL_pc hs)
  have cA := mem_reg Me hs HS i2 a0 a1
  have cB := mem_reg Me hs HS i3 b0 b1
  have cD := mem_reg Me hs HS i1 d0 d1
  have R := reach_calls Me (⟨5, i1, i2, i3, i4, i5⟩ : S56) hfit.out hok hs HS
  unfold insV at R
  dsimp only at R
  have HR := Aside0.mk R
  clear R
  go_wp2_with (go_at_call 36; (with_reducible refine HR.out.mono ?_); rintro e w_ ⟨v, rfl, HS_⟩; clear HS; have HS := HS_; clear HS_)
  go_ret
  exact ⟨_, rfl, HS.erase 2⟩

set_option maxRecDepth 100000 in
set_option maxHeartbeats 2000000 in
theorem do_call {g : Nat} {M : Type} (Me : Mem g M) {W0 w : World} {L : List Chunk} {s : St} {m : M} (i1 i2 i3 i4 i5 : Int) (hi : Fit (⟨8, i1, i2, i3, i4, i5⟩ : S56)) (hok : Me.ok m) (hs : s.regs.length = 64) (HS : Sat W0 w (Me.ch s m :: L)) :
    Calls Try.prog 27 #[.pointer (some ⟨g, 0, none⟩), .agg #[.int .i64 8, .int .i64 i1, .int .i64 i2, .int .i64 i3, .int .i64 i4, .int .i64 i5], .iface Me.T Me.self] w (DoPost Me W0 L (callF Me.f ⟨8, i1, i2, i3, i4, i5⟩ s m)) := by
  have hfit := Aside0.mk hi
  obtain ⟨d0, d1, a0, a1, b0, b1⟩ := hi
  dsimp only at d0 d1 a0 a1 b0 b1
  have e15 : (0 : Int) ≤ i2 := a0
  go_enter Try.func27, Try.ntmps27
  go_upto_region 1 with ((with_reducible refine gate_dst (N := 4) rfl ?_); go_must (refine ev_box HS rfl (N := 4) rfl (cs := #[.int .i64 (8), .int .i64 i1, .int .i64 i2, .int .i64 i3, .int .i64 i4, .int .i64 i5]) (t := 56) ?hrun ?_); (case hrun => first | (go_simp; done) | (go_simp; rfl)); clear HS; intro gb w HS)
  have cb := HS.cell 0 rfl
  have fb := HS.frozen 0 rfl
  replace HS := HS.swap
  have fs := Me.frz HS
  have c64 := (Me.cell HS 64 (by decide)).trans (stL_pc hs)
  have cA := mem_reg Me hs HS i2 a0 a1
  have cB := mem_reg Me hs HS i3 b0 b1
  have cD := mem_reg Me hs HS i1 d0 d1
  have R := call_calls Me (⟨8, i1, i2, i3, i4, i5⟩ : S56) hok hs HS
  unfold insV at R
  dsimp only at R
  have HR := Aside0.mk R
  clear R
  go_wp2_with (go_at_call 38; (with_reducible refine HR.out.mono ?_); rintro e w_ ⟨v, rfl, HS_⟩; clear HS; have HS := HS_; clear HS_)
  go_ret
  exact ⟨_, rfl, HS.erase 2⟩

set_option maxRecDepth 100000 in
set_option maxHeartbeats 2000000 in
theorem do_ret {g : Nat} {M : Type} (Me : Mem g M) {W0 w : World} {L : List Chunk} {s : St} {m : M} (i1 i2 i3 i4 i5 : Int) (hi : Fit (⟨9, i1, i2, i3, i4, i5⟩ : S56)) (hok : Me.ok m) (hs : s.regs.length = 64) (HS : Sat W0 w (Me.ch s m :: L)) :
    Calls Try.prog 27 #[.pointer (some ⟨g, 0, none⟩), .agg #[.int .i64 9, .int .i64 i1, .int .i64 i2, .int .i64 i3, .int .i64 i4, .int .i64 i5], .iface Me.T Me.self] w (DoPost Me W0 L (callF Me.f ⟨9, i1, i2, i3, i4, i5⟩ s m)) := by
  have hfit := Aside0.mk hi
  obtain ⟨d0, d1, a0, a1, b0, b1⟩ := hi
  dsimp only at d0 d1 a0 a1 b0 b1
  have e15 : (0 : Int) ≤ i2 := a0
  go_enter Try.func27, Try.ntmps27
  go_upto_region 1 with ((with_reducible refine gate_dst (N := 4) rfl ?_); go_must (refine ev_box HS rfl (N := 4) rfl (cs := #[.int .i64 (9), .int .i64 i1, .int .i64 i2, .int .i64 i3, .int .i64 i4, .int .i64 i5]) (t := 56) ?hrun ?_); (case hrun => first | (go_simp; done) | (go_simp; rfl)); clear HS; intro gb w HS)
  have cb := HS.cell 0 rfl
  have fb := HS.frozen 0 rfl
  replace HS := HS.swap
  have fs := Me.frz HS
  have c64 := (Me.cell HS 64 (by decide)).trans (stL_pc hs)
  have cA := mem_reg Me hs HS i2 a0 a1
  have cB := mem_reg Me hs HS i3 b0 b1
  have cD := mem_reg Me hs HS i1 d0 d1
  have R := call_calls Me (⟨9, i1, i2, i3, i4, i5⟩ : S56) hok hs HS
  unfold insV at R
  dsimp only at R
  have HR := Aside0.mk R
  clear R
  go_wp2_with (go_at_call 38; (with_reducible refine HR.out.mono ?_); rintro e w_ ⟨v, rfl, HS_⟩; clear HS; have HS := HS_; clear HS_)
  go_ret
  exact ⟨_, rfl, HS.erase 2⟩

set_option maxRecDepth 100000 in
set_option maxHeartbeats 2000000 in
theorem do_jump {g : Nat} {M : Type} (Me : Mem g M) {W0 w : World} {L : List Chunk} {s : St} {m : M} (i1 i2 i3 i4 i5 : Int) (hi : Fit (⟨6, i1, i2, i3, i4, i5⟩ : S56)) (hok : Me.ok m) (hs : s.regs.length = 64) (HS : Sat W0 w (Me.ch s m :: L)) :
    Calls Try.prog 27 #[.pointer (some ⟨g, 0, none⟩), .agg #[.int .i64 6, .int .i64 i1, .int .i64 i2, .int .i64 i3, .int .i64 i4, .int .i64 i5], .iface Me.T Me.self] w (DoPost Me W0 L ({ s with pc := i5 }, m, [])) := by
  have hfit := Aside0.mk hi
  obtain ⟨d0, d1, a0, a1, b0, b1⟩ := hi
  dsimp only at d0 d1 a0 a1 b0 b1
  have e15 : (0 : Int) ≤ i2 := a0
  go_enter Try.func27, Try.ntmps27
  go_upto_region 1 with ((with_reducible refine gate_dst (N := 4) rfl ?_); go_must (refine ev_box HS rfl (N := 4) rfl (cs := #[.int .i64 (6), .int .i64 i1, .int .i64 i2, .int .i64 i3, .int .i64 i4, .int .i64 i5]) (t := 56) ?hrun ?_); (case hrun => first | (go_simp; done) | (go_simp; rfl)); clear HS; intro gb w HS)
  have cb := HS.cell 0 rfl
  have fb := HS.frozen 0 rfl
  replace HS := HS.swap
  have fs := Me.frz HS
  have c64 := (Me.cell HS 64 (by decide)).trans (stL_pc hs)
  have cA := mem_reg Me hs HS i2 a0 a1
  have cB := mem_reg Me hs HS i3 b0 b1
  have cD := mem_reg Me hs HS i1 d0 d1
  go_wp2
  go_ret
  exact ⟨_, rfl, ((Me.set HS 64 (.int .i64 i5) (by decide) (set_pc hs _)).erase 1).nil _ _⟩

set_option maxRecDepth 100000 in
set_option maxHeartbeats 2000000 in
theorem do_if_no {g : Nat} {M : Type} (Me : Mem g M) {W0 w : World} {L : List Chunk} {s : St} {m : M} (i1 i2 i3 i4 i5 : Int) (hi : Fit (⟨7, i1, i2, i3, i4, i5⟩ : S56)) (hok : Me.ok m) (hs : s.regs.length = 64) (HS : Sat W0 w (Me.ch s m :: L)) (hz : rd s.regs i2 = 0) :
    Calls Try.prog 27 #[.pointer (some ⟨g, 0, none⟩), .agg #[.int .i64 7, .int .i64 i1, .int .i64 i2, .int .i64 i3, .int .i64 i4, .int .i64 i5], .iface Me.T Me.self] w (DoPost Me W0 L ({ s with pc := wrap64 (s.pc + 1) }, m, [⟨3, 0, 0⟩])) := by
  have hfit := Aside0.mk hi
  obtain ⟨d0, d1, a0, a1, b0, b1⟩ := hi
  dsimp only at d0 d1 a0 a1 b0 b1
  have e15 : (0 : Int) ≤ i2 := a0
  go_enter Try.func27, Try.ntmps27
  go_upto_region 1 with ((with_reducible refine gate_dst (N := 4) rfl ?_); go_must (refine ev_box HS rfl (N := 4) rfl (cs := #[.int .i64 (7), .int .i64 i1, .int .i64 i2, .int .i64 i3, .int .i64 i4, .int .i64 i5]) (t := 56) ?hrun ?_); (case hrun => first | (go_simp; done) | (go_simp; rfl)); clear HS; intro gb w HS)
  have cb := HS.cell 0 rfl
  have fb := HS.frozen 0 rfl
  replace HS := HS.swap
  have fs := Me.frz HS
  have c64 := (Me.cell HS 64 (by decide)).trans (stL_pc hs)
  have cA := mem_reg Me hs HS i2 a0 a1
  have cB := mem_reg Me hs HS i3 b0 b1
  have cD := mem_reg Me hs HS i1 d0 d1
  have hzb : (rd s.regs i2 == 0) = true := beq_iff_eq.mpr hz
  have hzn : (rd s.regs i2 != 0) = false := by unfold bne; rw [hzb]; rfl
  clear hz
  go_wp2
  go_quiet (first | (go_at_call 37; (with_reducible refine (word_Bool.calls false 0 _ rfl).mono ?_); rintro e w' ⟨rfl, ⟨nd, rfl⟩⟩; (try first | exact ⟨rfl, _, World.drewN_drewN _ _ _⟩ | exact ⟨rfl, _, Eq.trans (World.drewN_drewN _ _ _) (congrArg (World.drewN _) (Nat.add_assoc _ _ _))⟩)))
  (first | refine then_drawnN HS (fun w HS => ?_) | refine wp_drawnN HS (fun w HS => ?_))
  replace HS := HS.nil k66 66
  go_upto_region 23 with (first | ((with_reducible refine gate_dst (N := 126) rfl ?_); go_must (refine ev_lit k66 (e := 66) HS rfl (N := 126) rfl (xs := [⟨3, 0, 0⟩]) (inner := [.int .i64 (3), .int .i64 (0), .int .i64 (0)]) ?hrun (reps1 ⟨3, 0, 0⟩) (by first | decide | simp) ?_); (case hrun => first | (go_simp; done) | (go_simp; rfl)); clear HS; intro gm w HS) | ((with_reducible refine gate_builtin (b := .append) (xs := #[.tmp 123, .tmp 126]) rfl ?_); go_must (refine ev_append k66 HS 1 (.tmp 123) (.tmp 126) 31 66 (.agg #[.int .i64 0, .int .i64 0, .int .i64 0]) 24 rfl (HS.C 0 rfl) (fun _ _ h => h) rfl rfl rfl rfl Try.underlying31 info66 rfl (by decide) (by omega) ((by simp)) ?_); clear HS; intro vo w HS))
  have cb := HS.cell 3 rfl
  have HT := HS.front 2 rfl
  have fs := Me.frz HT
  have c64 := (Me.cell HT 64 (by decide)).trans (stL_pc hs)
  go_wp2
  go_ret
  exact ⟨_, rfl, ((Me.set HT 64 (.int .i64 (wrap64 (s.pc + 1))) (by decide) (set_pc hs _)).erase 1).swap.erase 2⟩

set_option maxRecDepth 100000 in
set_option maxHeartbeats 2000000 in
theorem do_if_yes {g : Nat} {M : Type} (Me : Mem g M) {W0 w : World} {L : List Chunk} {s : St} {m : M} (i1 i2 i3 i4 i5 : Int) (hi : Fit (⟨7, i1, i2, i3, i4, i5⟩ : S56)) (hok : Me.ok m) (hs : s.regs.length = 64) (HS : Sat W0 w (Me.ch s m :: L)) (hz : rd s.regs i2 ≠ 0) :
    Calls Try.prog 27 #[.pointer (some ⟨g, 0, none⟩), .agg #[.int .i64 7, .int .i64 i1, .int .i64 i2, .int .i64 i3, .int .i64 i4, .int .i64 i5], .iface Me.T Me.self] w (DoPost Me W0 L ({ s with pc := i5 }, m, [⟨3, 1, 0⟩])) := by
  have hfit := Aside0.mk hi
  obtain ⟨d0, d1, a0, a1, b0, b1⟩ := hi
  dsimp only at d0 d1 a0 a1 b0 b1
  have e15 : (0 : Int) ≤ i2 := a0
  go_enter Try.func27, Try.ntmps27
  go_upto_region 1 with ((with_reducible refine gate_dst (N := 4) rfl ?_); go_must (refine ev_box HS rfl (N := 4) rfl (cs := #[.int .i64 (7), .int .i64 i1, .int .i64 i2, .int .i64 i3, .int .i64 i4, .int .i64 i5]) (t := 56) ?hrun ?_); (case hrun => first | (go_simp; done) | (go_simp; rfl)); clear HS; intro gb w HS)
  have cb := HS.cell 0 rfl
  have fb := HS.frozen 0 rfl
  replace HS := HS.swap
  have fs := Me.frz HS
  have c64 := (Me.cell HS 64 (by decide)).trans (stL_pc hs)
  have cA := mem_reg Me hs HS i2 a0 a1
  have cB := mem_reg Me hs HS i3 b0 b1
  have cD := mem_reg Me hs HS i1 d0 d1
  have hzb : (rd s.regs i2 == 0) = false := beq_eq_false_iff_ne.mpr hz
  have hzn : (rd s.regs i2 != 0) = true := by unfold bne; rw [hzb]; rfl
  clear hz
  go_wp2
  go_quiet (first | (go_at_call 37; (with_reducible refine (word_Bool.calls true 1 _ rfl).mono ?_); rintro e w' ⟨rfl, ⟨nd, rfl⟩⟩; (try first | exact ⟨rfl, _, World.drewN_drewN _ _ _⟩ | exact ⟨rfl, _, Eq.trans (World.drewN_drewN _ _ _) (congrArg (World.drewN _) (Nat.add_assoc _ _ _))⟩)))
  (first | refine then_drawnN HS (fun w HS => ?_) | refine wp_drawnN HS (fun w HS => ?_))
  replace HS := HS.nil k66 66
  go_upto_region 23 with (first | ((with_reducible refine gate_dst (N := 126) rfl ?_); go_must (refine ev_lit k66 (e := 66) HS rfl (N := 126) rfl (xs := [⟨3, 1, 0⟩]) (inner := [.int .i64 (3), .int .i64 (1), .int .i64 (0)]) ?hrun (reps1 ⟨3, 1, 0⟩) (by first | decide | simp) ?_); (case hrun => first | (go_simp; done) | (go_simp; rfl)); clear HS; intro gm w HS) | ((with_reducible refine gate_builtin (b := .append) (xs := #[.tmp 123, .tmp 126]) rfl ?_); go_must (refine ev_append k66 HS 1 (.tmp 123) (.tmp 126) 31 66 (.agg #[.int .i64 0, .int .i64 0, .int .i64 0]) 24 rfl (HS.C 0 rfl) (fun _ _ h => h) rfl rfl rfl rfl Try.underlying31 info66 rfl (by decide) (by omega) ((by simp)) ?_); clear HS; intro vo w HS))
  have cb := HS.cell 3 rfl
  have HT := HS.front 2 rfl
  have fs := Me.frz HT
  have c64 := (Me.cell HT 64 (by decide)).trans (stL_pc hs)
  go_wp2
  go_ret
  exact ⟨_, rfl, ((Me.set HT 64 (.int .i64 (i5)) (by decide) (set_pc hs _)).erase 1).swap.erase 2⟩

set_option maxRecDepth 100000 in
set_option maxHeartbeats 2000000 in
theorem do_halt {g : Nat} {M : Type} (Me : Mem g M) {W0 w : World} {L : List Chunk} {s : St} {m : M} (i1 i2 i3 i4 i5 : Int) (hi : Fit (⟨11, i1, i2, i3, i4, i5⟩ : S56)) (hok : Me.ok m) (hs : s.regs.length = 64) (HS : Sat W0 w (Me.ch s m :: L)) :
    Calls Try.prog 27 #[.pointer (some ⟨g, 0, none⟩), .agg #[.int .i64 11, .int .i64 i1, .int .i64 i2, .int .i64 i3, .int .i64 i4, .int .i64 i5], .iface Me.T Me.self] w (DoPost Me W0 L (stopF { s with val := rd s.regs i2 } 0, m, [⟨5, 0, 0⟩])) := by
  have hfit := Aside0.mk hi
  obtain ⟨d0, d1, a0, a1, b0, b1⟩ := hi
  dsimp only at d0 d1 a0 a1 b0 b1
  have e15 : (0 : Int) ≤ i2 := a0
  go_enter Try.func27, Try.ntmps27
  go_upto_region 1 with ((with_reducible refine gate_dst (N := 4) rfl ?_); go_must (refine ev_box HS rfl (N := 4) rfl (cs := #[.int .i64 (11), .int .i64 i1, .int .i64 i2, .int .i64 i3, .int .i64 i4, .int .i64 i5]) (t := 56) ?hrun ?_); (case hrun => first | (go_simp; done) | (go_simp; rfl)); clear HS; intro gb w HS)
  have cb := HS.cell 0 rfl
  have fb := HS.frozen 0 rfl
  replace HS := HS.swap
  have fs := Me.frz HS
  have c64 := (Me.cell HS 64 (by decide)).trans (stL_pc hs)
  have cA := mem_reg Me hs HS i2 a0 a1
  have cB := mem_reg Me hs HS i3 b0 b1
  have cD := mem_reg Me hs HS i1 d0 d1
  have c66 := (Me.cell HS 66 (by decide)).trans (stL_val hs)
  go_wp2
  go_still_tail 10, (by kernel_rfl)
  go_upto_region 30 with (fail)
  replace HS := Me.set HS.drew 66 (.int .i64 (rd s.regs i2)) (by decide) (set_val hs _)
  refine wp_sat HS (fun w HS => ?_)
  replace HS := (HS.nil k66 66).swap
  go_wp2_with (first | (go_at_call 26; (with_reducible refine (stop_calls Me (0) (s := { s with val := rd s.regs i2 }) hs HS).mono ?_); rintro e w_ ⟨rfl, HS_⟩; clear HS; have HS := HS_; clear HS_) | ((with_reducible refine gate_dst (N := 154) rfl ?_); go_must (refine ev_lit k66 (e := 66) HS rfl (N := 154) rfl (xs := [⟨5, 0, 0⟩]) (inner := [.int .i64 5, .int .i64 (0), .int .i64 0]) ?hrun (reps1 ⟨5, 0, 0⟩) (by first | decide | simp) ?_); (case hrun => first | (go_simp; done) | (go_simp; rfl)); clear HS; intro gm w HS) | ((with_reducible refine gate_builtin (b := .append) (xs := #[.tmp 151, .tmp 154]) rfl ?_); go_must (refine ev_append k66 HS 2 (.tmp 151) (.tmp 154) 31 66 (.agg #[.int .i64 0, .int .i64 0, .int .i64 0]) 24 rfl (HS.C 0 rfl) (fun _ _ h => h) rfl rfl rfl rfl Try.underlying31 info66 rfl (by decide) (by omega) ((by simp)) ?_); clear HS; intro vo w HS))
  go_ret
  exact ⟨_, rfl, HS.tail.swap.erase 2⟩

set_option maxRecDepth 100000 in
set_option maxHeartbeats 2000000 in
theorem do_trap {g : Nat} {M : Type} (Me : Mem g M) {W0 w : World} {L : List Chunk} {s : St} {m : M} (i1 i2 i3 i4 i5 : Int) (hi : Fit (⟨12, i1, i2, i3, i4, i5⟩ : S56)) (hok : Me.ok m) (hs : s.regs.length = 64) (HS : Sat W0 w (Me.ch s m :: L)) :
    Calls Try.prog 27 #[.pointer (some ⟨g, 0, none⟩), .agg #[.int .i64 12, .int .i64 i1, .int .i64 i2, .int .i64 i3, .int .i64 i4, .int .i64 i5], .iface Me.T Me.self] w (DoPost Me W0 L (stopF s i5, m, [⟨5, i5, 0⟩])) := by
  have hfit := Aside0.mk hi
  obtain ⟨d0, d1, a0, a1, b0, b1⟩ := hi
  dsimp only at d0 d1 a0 a1 b0 b1
  have e15 : (0 : Int) ≤ i2 := a0
  go_enter Try.func27, Try.ntmps27
  go_upto_region 1 with ((with_reducible refine gate_dst (N := 4) rfl ?_); go_must (refine ev_box HS rfl (N := 4) rfl (cs := #[.int .i64 (12), .int .i64 i1, .int .i64 i2, .int .i64 i3, .int .i64 i4, .int .i64 i5]) (t := 56) ?hrun ?_); (case hrun => first | (go_simp; done) | (go_simp; rfl)); clear HS; intro gb w HS)
  have cb := HS.cell 0 rfl
  have fb := HS.frozen 0 rfl
  replace HS := HS.swap
  have fs := Me.frz HS
  have c64 := (Me.cell HS 64 (by decide)).trans (stL_pc hs)
  have cA := mem_reg Me hs HS i2 a0 a1
  have cB := mem_reg Me hs HS i3 b0 b1
  have cD := mem_reg Me hs HS i1 d0 d1
  replace HS := (HS.nil k66 66).swap
  go_wp2_with (first | (go_at_call 26; (with_reducible refine (stop_calls Me (i5) hs HS).mono ?_); rintro e w_ ⟨rfl, HS_⟩; clear HS; have HS := HS_; clear HS_) | ((with_reducible refine gate_dst (N := 163) rfl ?_); go_must (refine ev_lit k66 (e := 66) HS rfl (N := 163) rfl (xs := [⟨5, i5, 0⟩]) (inner := [.int .i64 5, .int .i64 (i5), .int .i64 0]) ?hrun (reps1 ⟨5, i5, 0⟩) (by first | decide | simp) ?_); (case hrun => first | (go_simp; done) | (go_simp; rfl)); clear HS; intro gm w HS) | ((with_reducible refine gate_builtin (b := .append) (xs := #[.tmp 158, .tmp 163]) rfl ?_); go_must (refine ev_append k66 HS 2 (.tmp 158) (.tmp 163) 31 66 (.agg #[.int .i64 0, .int .i64 0, .int .i64 0]) 24 rfl (HS.C 0 rfl) (fun _ _ h => h) rfl rfl rfl rfl Try.underlying31 info66 rfl (by decide) (by omega) ((by simp)) ?_); clear HS; intro vo w HS))
  go_ret
  exact ⟨_, rfl, HS.tail.swap.erase 2⟩

set_option maxRecDepth 100000 in
set_option maxHeartbeats 2000000 in
theorem do_other {g : Nat} {M : Type} (Me : Mem g M) {W0 w : World} {L : List Chunk} {s : St} {m : M} (i0 i1 i2 i3 i4 i5 : Int) (hi : Fit (⟨i0, i1, i2, i3, i4, i5⟩ : S56)) (hok : Me.ok m) (hs : s.regs.length = 64) (HS : Sat W0 w (Me.ch s m :: L)) (hn : ¬ (i0 = 1 ∨ i0 = 2 ∨ i0 = 3 ∨ i0 = 4 ∨ i0 = 5 ∨ i0 = 6 ∨ i0 = 7 ∨ i0 = 8 ∨ i0 = 9 ∨ i0 = 11 ∨ i0 = 12)) :
    Calls Try.prog 27 #[.pointer (some ⟨g, 0, none⟩), .agg #[.int .i64 i0, .int .i64 i1, .int .i64 i2, .int .i64 i3, .int .i64 i4, .int .i64 i5], .iface Me.T Me.self] w (DoPost Me W0 L ({ s with pc := wrap64 (s.pc + 1) }, m, [])) := by
  have hfit := Aside0.mk hi
  obtain ⟨d0, d1, a0, a1, b0, b1⟩ := hi
  dsimp only at d0 d1 a0 a1 b0 b1
  have e15 : (0 : Int) ≤ i2 := a0
  go_enter Try.func27, Try.ntmps27
  go_upto_region 1 with ((with_reducible refine gate_dst (N := 4) rfl ?_); go_must (refine ev_box HS rfl (N := 4) rfl (cs := #[.int .i64 (i0), .int .i64 i1, .int .i64 i2, .int .i64 i3, .int .i64 i4, .int .i64 i5]) (t := 56) ?hrun ?_); (case hrun => first | (go_simp; done) | (go_simp; rfl)); clear HS; intro gb w HS)
  have cb := HS.cell 0 rfl
  have fb := HS.frozen 0 rfl
  replace HS := HS.swap
  have fs := Me.frz HS
  have c64 := (Me.cell HS 64 (by decide)).trans (stL_pc hs)
  have cA := mem_reg Me hs HS i2 a0 a1
  have cB := mem_reg Me hs HS i3 b0 b1
  have cD := mem_reg Me hs HS i1 d0 d1
  have n1 : (i0 == 1) = false := beq_eq_false_iff_ne.mpr (by omega)
  have n2 : (i0 == 2) = false := beq_eq_false_iff_ne.mpr (by omega)
  have n3 : (i0 == 3) = false := beq_eq_false_iff_ne.mpr (by omega)
  have n4 : (i0 == 4) = false := beq_eq_false_iff_ne.mpr (by omega)
  have n5 : (i0 == 5) = false := beq_eq_false_iff_ne.mpr (by omega)
  have n6 : (i0 == 6) = false := beq_eq_false_iff_ne.mpr (by omega)
  have n7 : (i0 == 7) = false := beq_eq_false_iff_ne.mpr (by omega)
  have n8 : (i0 == 8) = false := beq_eq_false_iff_ne.mpr (by omega)
  have n9 : (i0 == 9) = false := beq_eq_false_iff_ne.mpr (by omega)
  have n11 : (i0 == 11) = false := beq_eq_false_iff_ne.mpr (by omega)
  have n12 : (i0 == 12) = false := beq_eq_false_iff_ne.mpr (by omega)
  clear hn
  go_wp2
  go_ret
  exact ⟨_, rfl, ((Me.set HS 64 (.int .i64 (wrap64 (s.pc + 1))) (by decide) (set_pc hs _)).erase 1).nil _ _⟩

theorem do_calls {g : Nat} {M : Type} (Me : Mem g M) {W0 w : World} {L : List Chunk} {s : St} {m : M} (i : S56) (hi : Fit i) (hok : Me.ok m) (hs : s.regs.length = 64) (HS : Sat W0 w (Me.ch s m :: L)) :
    Calls Try.prog 27 #[.pointer (some ⟨g, 0, none⟩), insV i, .iface Me.T Me.self] w (DoPost Me W0 L (doF Me.f i s m)) := by
  obtain ⟨i0, i1, i2, i3, i4, i5⟩ := i
  unfold insV doF
  dsimp only
  split
  · rename_i h; subst h; exact do_num Me i1 i2 i3 i4 i5 hi hok hs HS
  split
  · rename_i h; subst h; exact do_move Me i1 i2 i3 i4 i5 hi hok hs HS
  split
  · rename_i h
    subst h
    by_cases hd : i4 = 4 ∨ i4 = 5
    · rw [if_pos hd]
      split
      · exact do_div_ok Me i1 i2 i3 i4 i5 hi hok hs HS hd (by assumption)
      · exact do_div_no Me i1 i2 i3 i4 i5 hi hok hs HS hd (by rename_i hq; simpa using hq)
    · rw [if_neg hd]
      split
      · exact do_op_ok Me i1 i2 i3 i4 i5 hi hok hs HS hd (by assumption)
      · exact do_op_no Me i1 i2 i3 i4 i5 hi hok hs HS hd (by rename_i hq; simpa using hq)
  split
  · rename_i h
    rcases h with h | h <;> subst h
    · exact do_load Me i1 i2 i3 i4 i5 hi hok hs HS
    · exact do_store Me i1 i2 i3 i4 i5 hi hok hs HS
  split
  · rename_i h; subst h; exact do_jump Me i1 i2 i3 i4 i5 hi hok hs HS
  split
  · rename_i h
    subst h
    split
    · exact do_if_no Me i1 i2 i3 i4 i5 hi hok hs HS (by assumption)
    · exact do_if_yes Me i1 i2 i3 i4 i5 hi hok hs HS (by assumption)
  split
  · rename_i h
    rcases h with h | h <;> subst h
    · exact do_call Me i1 i2 i3 i4 i5 hi hok hs HS
    · exact do_ret Me i1 i2 i3 i4 i5 hi hok hs HS
  split
  · rename_i h; subst h; exact do_halt Me i1 i2 i3 i4 i5 hi hok hs HS
  split
  · rename_i h; subst h; exact do_trap Me i1 i2 i3 i4 i5 hi hok hs HS
  · exact do_other Me i0 i1 i2 i3 i4 i5 hi hok hs HS (by omega)
end Go.Proofs.Ytkgoljbimblkhaa.B
