/- The contract of one, second part. -/
import Derived.Test.YtigimkcppocodaaMachOne
namespace Go.Proofs.Ytigimkcppocodaa.B
open Go.RowKit Go.Proofs.Ytigimkcppocodaa.Mine Go.Proofs.Ytigimkcppocodaa.Sep Go.Proofs.YtigimkcppocodaaW.PrintWords Go.Proofs.YtigimkcppocodaaW.PrintLast Go.Proofs.YtigimkcppocodaaW.PrintMore
set_option linter.unusedVariables false
set_option linter.unusedSimpArgs false

section
variable {W0 w : World} {L : List Chunk} {A : Option Addr} {c : Nat} {code : List S58} {Am0 : Option Addr} {cm0 : Nat} {m : List Int} {s : St}

set_option maxRecDepth 100000 in
set_option maxHeartbeats 4000000 in
theorem one_div_ok (i1 i2 i3 i4 i5 : Int) (hC : ∀ w, Sat W0 w L → Kd.C k58 w A code.length code) (hM : ∀ w, Sat W0 w L → Kd.C (Kd.int .i64) w Am0 m.length m) (hml : m.length ≤ 1000000) (hs : s.regs.length = 64) (h0 : 0 ≤ s.pc) (h1 : s.pc < (code.length : Int)) (hi : rd_T58 code s.pc = ⟨3, i1, i2, i3, i4, i5⟩) (hf : Fit (⟨3, i1, i2, i3, i4, i5⟩ : S58)) (hb4 : (i4 == 4) = true) (hq : (doW i4 (rd s.regs i2) (rd s.regs i3)).2 = true) (r : St × List Int × List S53) (hr : r = ({ s with steps := wrap64 (s.steps + 1), regs := s.regs.set i1.toNat (doW i4 (rd s.regs i2) (rd s.regs i3)).1, pc := wrap64 (s.pc + 1) }, m, [⟨1, s.pc, 0⟩, ⟨4, rd s.regs i2, rd s.regs i3⟩])) (HS : Sat W0 w L) :
    Calls Try.prog 14 #[.slice A code.length c, .agg (stL s).toArray, .slice Am0 m.length cm0] w (OnePost W0 L r) := by
  have HRR := Aside0.mk hr
  clear hr
  obtain ⟨d0, d1, a0, a1, b0, b1⟩ := hf
  dsimp only at d0 d1 a0 a1 b0 b1
  go_enter Try.func14, Try.ntmps14
  go_upto_region 1 with (first | ((with_reducible refine gate_dst (N := 4) rfl ?_); go_must (refine ev_box HS rfl (N := 4) rfl (cs := (stL s).toArray) (t := 32) ?hrun ?_); (case hrun => first | (go_simp; done) | (go_simp; rfl)); clear HS; intro gs w HS) | ((with_reducible refine gate_dst (N := 6) rfl ?_); go_must (refine ev_box HS rfl (N := 6) rfl (cs := (stL z0).toArray) (t := 32) ?hrun ?_); (case hrun => first | (go_simp; done) | (go_simp; rfl)); clear HS; intro g6 w HS))
  go_upto_region 2 with (first | ((with_reducible refine gate_dst (N := 20) rfl ?_); go_must (refine ev_lit IW (e := 2) HS rfl (N := 20) rfl (xs := ([] : List Int)) (inner := []) ?hrun (Reps.none _ _) (by first | decide | simp) ?_); (case hrun => first | (go_simp; done) | (go_simp; rfl)); clear HS; intro gl w HS) | (((with_reducible refine gate_builtin (b := .append) (xs := #[.tmp 20, .tmp 21]) rfl ?_); go_must (refine ev_append IW HS 0 (.tmp 20) (.tmp 21) 35 2 (.int .i64 0) 8 rfl (hM _ HS.tail.tail.tail) (fun _ _ h => h) rfl rfl rfl rfl Try.underlying35 info2 rfl (by decide) (by omega) ((by simp; omega)) ?_); clear HS; intro vm w HS); rw [List.nil_append] at HS; obtain ⟨Am, cm, rfl⟩ := HS.slice 0 rfl) | (((with_reducible refine gate_dst (N := 9) rfl ?_); go_must (refine ev_box HS rfl (N := 9) rfl (cs := #[.slice none 0 0]) (t := 35) ?hrun ?_); (case hrun => first | (go_simp; done) | (go_simp; rfl)); clear HS; intro gm w HS); have cz := HS.cell 0 rfl; have fz := HS.frozen 0 rfl))
  refine wp_sat (varset HS 0 rfl) (fun w HS => ?_)
  clear cz fz
  have fs := HS.frozen 3 rfl
  have c68 := (st_cell HS 3 rfl 68).trans (stL_steps hs)
  go_upto_region 3 with (fail)
  refine wp_sat (stset (s' := { s with steps := wrap64 (s.steps + 1) }) HS 3 rfl 68 (.int .i64 (wrap64 (s.steps + 1))) (set_steps hs _)) (fun w HS => ?_)
  clear fs c68
  obtain ⟨pc, hpc⟩ : ∃ pc, pc = s.pc := ⟨_, rfl⟩
  rw [← hpc] at h0 h1 hi
  have HPC := Aside0.mk hpc
  clear hpc
  obtain ⟨s1, hs1e⟩ : ∃ s1 : St, s1 = { s with steps := wrap64 (s.steps + 1) } := ⟨_, rfl⟩
  rw [← hs1e] at HS
  have hs1 : s1.regs.length = 64 := by rw [hs1e]; exact hs
  have HP1 := Aside0.mk (show s1.pc = pc by rw [hs1e, HPC.out])
  have HRG := Aside0.mk (show s1.regs = s.regs by rw [hs1e])
  have HS1 := Aside0.mk hs1e
  clear hs1e
  have c64 : w.cell? ⟨gs, 64, none⟩ = some (.int .i64 pc) := by rw [← HP1.out]; exact (st_cell HS 3 rfl 64).trans (stL_pc hs1)
  go_upto_region 4 with (first | ((with_reducible refine gate_dst (N := 30) rfl ?_); go_must (refine ev_lit k53 (e := 53) HS rfl (N := 30) rfl (xs := [⟨1, pc, 0⟩]) (inner := [.int .i64 1, .int .i64 pc, .int .i64 0]) ?hrun (reps1 ⟨1, pc, 0⟩) (by first | decide | simp) ?_); (case hrun => first | (go_simp; done) | (go_simp; rfl)); clear HS; intro go1 w HS) | (((with_reducible refine gate_dst (N := 10) rfl ?_); go_must (refine ev_box HS rfl (N := 10) rfl (cs := #[.slice none 0 0]) (t := 37) ?hrun ?_); (case hrun => first | (go_simp; done) | (go_simp; rfl)); clear HS; intro go w HS); have cz := HS.cell 0 rfl; have fz := HS.frozen 0 rfl))
  refine wp_sat (varset HS 0 rfl) (fun w HS => ?_)
  clear cz fz c64
  have c64 : w.cell? ⟨gs, 64, none⟩ = some (.int .i64 pc) := by rw [← HP1.out]; exact (st_cell HS 5 rfl 64).trans (stL_pc hs1)
  have h0b : decide (pc < 0) = false := decide_eq_false (by omega)
  have h1b : decide ((code.length : Int) ≤ pc) = false := decide_eq_false (by omega)
  obtain ⟨ad, rfl, x0, x1, x2, x3, x4, x5⟩ := at_T58 (hC w HS.tail.tail.tail.tail.tail.tail) pc h0 h1
  rw [hi] at x0 x1 x2 x3 x4 x5
  dsimp only at x0 x1 x2 x3 x4 x5
  have q1 := eq_true h0
  have q2 := eq_true h1
  have HI := Aside0.mk hi
  have HH := Aside0.mk (And.intro h0 h1)
  clear hi h0 h1
  go_upto_region 8 with (first | ((with_reducible refine gate_dst (N := 12) rfl ?_); go_must (refine ev_box HS rfl (N := 12) rfl (cs := #[.int .i64 0, .int .i64 0, .int .i64 0, .int .i64 0, .int .i64 0, .int .i64 0]) (t := 58) ?hrun ?_); (case hrun => first | (go_simp; done) | (go_simp; rfl)); clear HS; intro gi w HS) | ((with_reducible refine gate_store (t := 58) (p := 12) rfl ?_); go_must (refine ev_store HS 0 rfl rfl 58 (.tmp 12) (.tmp 51) rfl rfl rfl [.int .i64 (3), .int .i64 i1, .int .i64 i2, .int .i64 i3, .int .i64 i4, .int .i64 i5] ?hx (by kernel_rfl) (by rfl) ?h1 ?_); (case hx => first | rfl | (go_simp; done)); (case h1 => simp [Value.oneCell']); clear HS; intro w HS))
  clear x0 x1 x2 x3 x4 x5 q1 q2 h0b h1b c64
  have ci := HS.cell 0 rfl
  have fs := HS.frozen 6 rfl
  have cA : w.cell? ⟨gs, i2.toNat, none⟩ = some (.int .i64 (rd s.regs i2)) := by rw [← HRG.out]; exact (st_cell HS 6 rfl i2.toNat).trans (stL_reg hs1 _ (by omega))
  have cB : w.cell? ⟨gs, i3.toNat, none⟩ = some (.int .i64 (rd s.regs i3)) := by rw [← HRG.out]; exact (st_cell HS 6 rfl i3.toNat).trans (stL_reg hs1 _ (by omega))
  have cD : w.cell? ⟨gs, i1.toNat, none⟩ = some (.int .i64 (rd s.regs i1)) := by rw [← HRG.out]; exact (st_cell HS 6 rfl i1.toNat).trans (stL_reg hs1 _ (by omega))
  have c63 : w.cell? ⟨gs, 63, none⟩ = some (.int .i64 (rd s.regs 63)) := by rw [← HRG.out]; exact (st_cell HS 6 rfl 63).trans (stL_reg hs1 63 (by decide))
  have c64 : w.cell? ⟨gs, 64, none⟩ = some (.int .i64 pc) := by rw [← HP1.out]; exact (st_cell HS 6 rfl 64).trans (stL_pc hs1)
  go_upto_region 9 with (fail)
  go_wp2
  go_still_tail 8, (by kernel_rfl)
  simp only [i64_w]
  (replace HS := HS.drew; (first | show Exit.then _ _ _ _ (World.drew w) | show wpList _ _ _ _ _ (World.drew w)); generalize World.drew w = w at HS ⊢)
  obtain ⟨X, hX⟩ : ∃ X, X = wrap64 (rd s.regs i2 + i5) := ⟨_, rfl⟩
  rw [← hX]
  have HXX := Aside0.mk hX
  clear hX
  clear ci cA cB cD c63 c64 fs
  have ci := HS.cell 0 rfl
  have fs := HS.frozen 6 rfl
  have cA : w.cell? ⟨gs, i2.toNat, none⟩ = some (.int .i64 (rd s.regs i2)) := by rw [← HRG.out]; exact (st_cell HS 6 rfl i2.toNat).trans (stL_reg hs1 _ (by omega))
  have cB : w.cell? ⟨gs, i3.toNat, none⟩ = some (.int .i64 (rd s.regs i3)) := by rw [← HRG.out]; exact (st_cell HS 6 rfl i3.toNat).trans (stL_reg hs1 _ (by omega))
  have cD : w.cell? ⟨gs, i1.toNat, none⟩ = some (.int .i64 (rd s.regs i1)) := by rw [← HRG.out]; exact (st_cell HS 6 rfl i1.toNat).trans (stL_reg hs1 _ (by omega))
  have c63 : w.cell? ⟨gs, 63, none⟩ = some (.int .i64 (rd s.regs 63)) := by rw [← HRG.out]; exact (st_cell HS 6 rfl 63).trans (stL_reg hs1 63 (by decide))
  have c64 : w.cell? ⟨gs, 64, none⟩ = some (.int .i64 pc) := by rw [← HP1.out]; exact (st_cell HS 6 rfl 64).trans (stL_pc hs1)
  have HDW := Aside0.mk (show word_Do.f 2 i4 (rd s.regs i2) (rd s.regs i3) = some ((doW i4 (rd s.regs i2) (rd s.regs i3)).1, true) from by rw [doW_some, ← hq])
  clear hq
  go_upto_region 20 with (fail)
  have cg := HS.cell 1 rfl
  go_upto_region 21 with (first | ((with_reducible refine gate_dst (N := 109) rfl ?_); go_must (refine ev_lit k53 (e := 53) HS rfl (N := 109) rfl (xs := [⟨4, (rd s.regs i2), (rd s.regs i3)⟩]) (inner := [.int .i64 4, .int .i64 ((rd s.regs i2)), .int .i64 ((rd s.regs i3))]) ?hrun (reps1 ⟨4, (rd s.regs i2), (rd s.regs i3)⟩) (by first | decide | simp) ?_); (case hrun => first | (go_simp; done) | (go_simp; rfl)); clear HS; intro gl2 w HS) | (((with_reducible refine gate_builtin (b := .append) (xs := #[.tmp 105, .tmp 109]) rfl ?_); go_must (refine ev_append k53 HS 3 (.tmp 105) (.tmp 109) 37 53 (.agg #[.int .i64 0, .int .i64 0, .int .i64 0]) 24 rfl (HS.C 0 rfl) (fun _ _ h => h) rfl rfl rfl rfl Try.underlying37 info53 rfl (by decide) (by omega) ((by simp)) ?_); clear HS; intro vo w HS); obtain ⟨Ao2, co2, rfl⟩ := HS.slice 3 rfl; have fz := HS.frozen 2 rfl; have cz := HS.cell 2 rfl))
  refine wp_sat (varset HS 2 rfl) (fun w HS => ?_)
  clear cg fz cz
  replace HS := HS.tail
  clear ci cA cB cD c63 c64 fs
  have ci := HS.cell 0 rfl
  have fs := HS.frozen 6 rfl
  have cA : w.cell? ⟨gs, i2.toNat, none⟩ = some (.int .i64 (rd s.regs i2)) := by rw [← HRG.out]; exact (st_cell HS 6 rfl i2.toNat).trans (stL_reg hs1 _ (by omega))
  have cB : w.cell? ⟨gs, i3.toNat, none⟩ = some (.int .i64 (rd s.regs i3)) := by rw [← HRG.out]; exact (st_cell HS 6 rfl i3.toNat).trans (stL_reg hs1 _ (by omega))
  have cD : w.cell? ⟨gs, i1.toNat, none⟩ = some (.int .i64 (rd s.regs i1)) := by rw [← HRG.out]; exact (st_cell HS 6 rfl i1.toNat).trans (stL_reg hs1 _ (by omega))
  have c63 : w.cell? ⟨gs, 63, none⟩ = some (.int .i64 (rd s.regs 63)) := by rw [← HRG.out]; exact (st_cell HS 6 rfl 63).trans (stL_reg hs1 63 (by decide))
  have c64 : w.cell? ⟨gs, 64, none⟩ = some (.int .i64 pc) := by rw [← HP1.out]; exact (st_cell HS 6 rfl 64).trans (stL_pc hs1)
  go_upto_region 22 with (go_at_call 25; (with_reducible refine (word_Do.calls 2 i4 (rd s.regs i2) (rd s.regs i3) _ _ _ HDW.out).mono ?_); rintro e w ⟨rfl, hd_⟩; replace HS := HS.below hd_.below; clear hd_)
  clear ci cA cB cD c63 c64 fs
  have ci := HS.cell 0 rfl
  have fs := HS.frozen 6 rfl
  have cA : w.cell? ⟨gs, i2.toNat, none⟩ = some (.int .i64 (rd s.regs i2)) := by rw [← HRG.out]; exact (st_cell HS 6 rfl i2.toNat).trans (stL_reg hs1 _ (by omega))
  have cB : w.cell? ⟨gs, i3.toNat, none⟩ = some (.int .i64 (rd s.regs i3)) := by rw [← HRG.out]; exact (st_cell HS 6 rfl i3.toNat).trans (stL_reg hs1 _ (by omega))
  have cD : w.cell? ⟨gs, i1.toNat, none⟩ = some (.int .i64 (rd s.regs i1)) := by rw [← HRG.out]; exact (st_cell HS 6 rfl i1.toNat).trans (stL_reg hs1 _ (by omega))
  have c63 : w.cell? ⟨gs, 63, none⟩ = some (.int .i64 (rd s.regs 63)) := by rw [← HRG.out]; exact (st_cell HS 6 rfl 63).trans (stL_reg hs1 63 (by decide))
  have c64 : w.cell? ⟨gs, 64, none⟩ = some (.int .i64 pc) := by rw [← HP1.out]; exact (st_cell HS 6 rfl 64).trans (stL_pc hs1)
  go_upto_region 61 with (fail)
  refine wp_sat (stset (s' := ({ s1 with regs := s.regs.set i1.toNat ((doW i4 (rd s.regs i2) (rd s.regs i3)).1) } : St)) HS 6 rfl i1.toNat (.int .i64 ((doW i4 (rd s.regs i2) (rd s.regs i3)).1)) (by rw [← HRG.out]; exact set_reg hs1 _ (by omega) _)) (fun w HS => ?_)
  have hs2 : (s.regs.set i1.toNat ((doW i4 (rd s.regs i2) (rd s.regs i3)).1)).length = 64 := by rw [List.length_set]; exact hs
  clear ci cA cB cD c63 c64 fs
  have fs := HS.frozen 6 rfl
  have c64 : w.cell? ⟨gs, 64, none⟩ = some (.int .i64 pc) := by rw [← HP1.out]; exact (st_cell HS 6 rfl 64).trans (stL_pc (s := ({ s1 with regs := s.regs.set i1.toNat ((doW i4 (rd s.regs i2) (rd s.regs i3)).1) } : St)) hs2)
  go_upto_region 62 with (fail)
  refine wp_sat (stset (s := ({ s1 with regs := s.regs.set i1.toNat ((doW i4 (rd s.regs i2) (rd s.regs i3)).1) } : St)) (s' := ({ s1 with regs := s.regs.set i1.toNat ((doW i4 (rd s.regs i2) (rd s.regs i3)).1), pc := wrap64 (pc + 1) } : St)) HS 6 rfl 64 (.int .i64 (wrap64 (pc + 1))) (set_pc (s := ({ s1 with regs := s.regs.set i1.toNat ((doW i4 (rd s.regs i2) (rd s.regs i3)).1) } : St)) hs2 _)) (fun w HS => ?_)
  clear fs c64
  refine start_ (n := 6) (S := fun w' => ∃ L', Sat W0 w' (blk gs 32 (stL ({ s1 with regs := s.regs.set i1.toNat ((doW i4 (rd s.regs i2) (rd s.regs i3)).1), pc := wrap64 (pc + 1) } : St)).toArray :: blk gm 35 #[.slice Am m.length cm] :: blk go 37 #[.slice Ao2 2 co2] :: L')) (ds := []) #[false, false, false, false, false, false] (by kernel_rfl) rfl rfl ⟨_, (((HS.drew.front 1 rfl).front 3 rfl).front 6 rfl)⟩ (fun hHeld => ?_)
  replace HS := HS.drew
  generalize World.drew w = w at HS hHeld ⊢
  refine take_ (i := 0) (N := some 300) (v := ?_) (a' := ?_) #[true, false, false, false, false, false] rfl rfl (by kernel_rfl) (fun _ _ _ h => h) (Or.inl ⟨by rfl, ?_⟩) hHeld ?_ ?_
  rotate_left
  · rintro w' ⟨L', hS⟩
    refine whole_run hS 0 rfl 32 (.tmp 4) ?_ ?_ _ Try.underlying32 rfl (size32 hs2) <;> rfl
  rotate_left
  · (try simp only [Act.put, List.setIfInBounds_toArray, List.set_cons_zero, List.set_cons_succ, i64_w, i32_w])
    rfl
  refine take_ (i := 1) (N := some 301) (v := ?_) (a' := ?_) #[true, true, false, false, false, false] rfl rfl (by kernel_rfl) (fun _ _ _ h => h) (Or.inl ⟨by rfl, ?_⟩) hHeld ?_ ?_
  rotate_left
  · rintro w' ⟨L', hS⟩
    have cm_ := hS.cell 1 rfl
    have co_ := hS.cell 2 rfl
    go_simp
    with_reducible rfl
  rotate_left
  · (try simp only [Act.put, List.setIfInBounds_toArray, List.set_cons_zero, List.set_cons_succ, i64_w, i32_w])
    rfl
  refine take_ (i := 2) (N := some 302) (v := ?_) (a' := ?_) #[true, true, true, false, false, false] rfl rfl (by kernel_rfl) (fun _ _ _ h => h) (Or.inl ⟨by rfl, ?_⟩) hHeld ?_ ?_
  rotate_left
  · rintro w' ⟨L', hS⟩
    have cm_ := hS.cell 1 rfl
    have co_ := hS.cell 2 rfl
    go_simp
    with_reducible rfl
  rotate_left
  · (try simp only [Act.put, List.setIfInBounds_toArray, List.set_cons_zero, List.set_cons_succ, i64_w, i32_w])
    rfl
  refine one_ (i := 3) (N := none) #[true, true, true, true, false, false] rfl rfl (by kernel_rfl) (by decide) (fun K hK => ?_)
  refine ev_store_step HS 5 rfl (by rfl) 32 (.tmp 6) (.tmp 300) rfl rfl rfl (stL ({ s1 with regs := s.regs.set i1.toNat ((doW i4 (rd s.regs i2) (rd s.regs i3)).1), pc := wrap64 (pc + 1) } : St)) rfl (len32 hs2) (by rw [stL_length (s := ({ s1 with regs := s.regs.set i1.toNat ((doW i4 (rd s.regs i2) (rd s.regs i3)).1), pc := wrap64 (pc + 1) } : St)) hs2]; rfl) (stL_one _) ?_
  clear HS
  intro w HS
  refine hK.out _ _ ⟨_, (((HS.front 1 rfl).front 3 rfl).front 6 rfl)⟩ (fun hHeld => ?_)
  clear hK K
  refine pure_ (i := 4) (N := some 7) (v := ?_) (a' := ?_) #[true, true, true, true, true, false] rfl rfl (by kernel_rfl) (fun _ _ _ h => h) (Or.inl ⟨by rfl, ?_⟩) ?_ ?_
  rotate_left
  · intro w'
    go_simp
    with_reducible rfl
  rotate_left
  · (try simp only [Act.put, List.setIfInBounds_toArray, List.set_cons_zero, List.set_cons_succ, i64_w, i32_w])
    rfl
  refine pure_ (i := 5) (N := some 8) (v := ?_) (a' := ?_) #[true, true, true, true, true, true] rfl rfl (by kernel_rfl) (fun _ _ _ h => h) (Or.inl ⟨by rfl, ?_⟩) ?_ ?_
  rotate_left
  · intro w'
    go_simp
    with_reducible rfl
  rotate_left
  · (try simp only [Act.put, List.setIfInBounds_toArray, List.set_cons_zero, List.set_cons_succ, i64_w, i32_w])
    rfl
  refine done_ (by kernel_rfl) ?_
  clear hHeld
  go_wp2
  obtain rfl := HPC.out
  obtain rfl := HS1.out
  have hrr := HRR.out
  obtain rfl := HXX.out
  obtain rfl := hrr
  exact bodyPost_ret (results_ctt Try.results14 _ _ g6 _ _ (0, 0) _ rfl (HS.blk 5 rfl) Try.underlying32 rfl (size32 hs2)) rfl ⟨_, _, _, _, rfl, (((((((HS.front 4 rfl).front 3 rfl).erase 2).erase 2).erase 2).erase 2).erase 2)⟩

set_option maxRecDepth 100000 in
set_option maxHeartbeats 4000000 in
theorem one_div_no (i1 i2 i3 i4 i5 : Int) (hC : ∀ w, Sat W0 w L → Kd.C k58 w A code.length code) (hM : ∀ w, Sat W0 w L → Kd.C (Kd.int .i64) w Am0 m.length m) (hml : m.length ≤ 1000000) (hs : s.regs.length = 64) (h0 : 0 ≤ s.pc) (h1 : s.pc < (code.length : Int)) (hi : rd_T58 code s.pc = ⟨3, i1, i2, i3, i4, i5⟩) (hf : Fit (⟨3, i1, i2, i3, i4, i5⟩ : S58)) (hb4 : (i4 == 4) = true) (hq : (doW i4 (rd s.regs i2) (rd s.regs i3)).2 = false) (r : St × List Int × List S53) (hr : r = (stopF { s with steps := wrap64 (s.steps + 1) } 2, m, [⟨1, s.pc, 0⟩, ⟨4, rd s.regs i2, rd s.regs i3⟩, ⟨5, 2, 0⟩])) (HS : Sat W0 w L) :
    Calls Try.prog 14 #[.slice A code.length c, .agg (stL s).toArray, .slice Am0 m.length cm0] w (OnePost W0 L r) := by
  have HRR := Aside0.mk hr
  clear hr
  obtain ⟨d0, d1, a0, a1, b0, b1⟩ := hf
  dsimp only at d0 d1 a0 a1 b0 b1
  go_enter Try.func14, Try.ntmps14
  go_upto_region 1 with (first | ((with_reducible refine gate_dst (N := 4) rfl ?_); go_must (refine ev_box HS rfl (N := 4) rfl (cs := (stL s).toArray) (t := 32) ?hrun ?_); (case hrun => first | (go_simp; done) | (go_simp; rfl)); clear HS; intro gs w HS) | ((with_reducible refine gate_dst (N := 6) rfl ?_); go_must (refine ev_box HS rfl (N := 6) rfl (cs := (stL z0).toArray) (t := 32) ?hrun ?_); (case hrun => first | (go_simp; done) | (go_simp; rfl)); clear HS; intro g6 w HS))
  go_upto_region 2 with (first | ((with_reducible refine gate_dst (N := 20) rfl ?_); go_must (refine ev_lit IW (e := 2) HS rfl (N := 20) rfl (xs := ([] : List Int)) (inner := []) ?hrun (Reps.none _ _) (by first | decide | simp) ?_); (case hrun => first | (go_simp; done) | (go_simp; rfl)); clear HS; intro gl w HS) | (((with_reducible refine gate_builtin (b := .append) (xs := #[.tmp 20, .tmp 21]) rfl ?_); go_must (refine ev_append IW HS 0 (.tmp 20) (.tmp 21) 35 2 (.int .i64 0) 8 rfl (hM _ HS.tail.tail.tail) (fun _ _ h => h) rfl rfl rfl rfl Try.underlying35 info2 rfl (by decide) (by omega) ((by simp; omega)) ?_); clear HS; intro vm w HS); rw [List.nil_append] at HS; obtain ⟨Am, cm, rfl⟩ := HS.slice 0 rfl) | (((with_reducible refine gate_dst (N := 9) rfl ?_); go_must (refine ev_box HS rfl (N := 9) rfl (cs := #[.slice none 0 0]) (t := 35) ?hrun ?_); (case hrun => first | (go_simp; done) | (go_simp; rfl)); clear HS; intro gm w HS); have cz := HS.cell 0 rfl; have fz := HS.frozen 0 rfl))
  refine wp_sat (varset HS 0 rfl) (fun w HS => ?_)
  clear cz fz
  have fs := HS.frozen 3 rfl
  have c68 := (st_cell HS 3 rfl 68).trans (stL_steps hs)
  go_upto_region 3 with (fail)
  refine wp_sat (stset (s' := { s with steps := wrap64 (s.steps + 1) }) HS 3 rfl 68 (.int .i64 (wrap64 (s.steps + 1))) (set_steps hs _)) (fun w HS => ?_)
  clear fs c68
  obtain ⟨pc, hpc⟩ : ∃ pc, pc = s.pc := ⟨_, rfl⟩
  rw [← hpc] at h0 h1 hi
  have HPC := Aside0.mk hpc
  clear hpc
  obtain ⟨s1, hs1e⟩ : ∃ s1 : St, s1 = { s with steps := wrap64 (s.steps + 1) } := ⟨_, rfl⟩
  rw [← hs1e] at HS
  have hs1 : s1.regs.length = 64 := by rw [hs1e]; exact hs
  have HP1 := Aside0.mk (show s1.pc = pc by rw [hs1e, HPC.out])
  have HRG := Aside0.mk (show s1.regs = s.regs by rw [hs1e])
  have HS1 := Aside0.mk hs1e
  clear hs1e
  have c64 : w.cell? ⟨gs, 64, none⟩ = some (.int .i64 pc) := by rw [← HP1.out]; exact (st_cell HS 3 rfl 64).trans (stL_pc hs1)
  go_upto_region 4 with (first | ((with_reducible refine gate_dst (N := 30) rfl ?_); go_must (refine ev_lit k53 (e := 53) HS rfl (N := 30) rfl (xs := [⟨1, pc, 0⟩]) (inner := [.int .i64 1, .int .i64 pc, .int .i64 0]) ?hrun (reps1 ⟨1, pc, 0⟩) (by first | decide | simp) ?_); (case hrun => first | (go_simp; done) | (go_simp; rfl)); clear HS; intro go1 w HS) | (((with_reducible refine gate_dst (N := 10) rfl ?_); go_must (refine ev_box HS rfl (N := 10) rfl (cs := #[.slice none 0 0]) (t := 37) ?hrun ?_); (case hrun => first | (go_simp; done) | (go_simp; rfl)); clear HS; intro go w HS); have cz := HS.cell 0 rfl; have fz := HS.frozen 0 rfl))
  refine wp_sat (varset HS 0 rfl) (fun w HS => ?_)
  clear cz fz c64
  have c64 : w.cell? ⟨gs, 64, none⟩ = some (.int .i64 pc) := by rw [← HP1.out]; exact (st_cell HS 5 rfl 64).trans (stL_pc hs1)
  have h0b : decide (pc < 0) = false := decide_eq_false (by omega)
  have h1b : decide ((code.length : Int) ≤ pc) = false := decide_eq_false (by omega)
  obtain ⟨ad, rfl, x0, x1, x2, x3, x4, x5⟩ := at_T58 (hC w HS.tail.tail.tail.tail.tail.tail) pc h0 h1
  rw [hi] at x0 x1 x2 x3 x4 x5
  dsimp only at x0 x1 x2 x3 x4 x5
  have q1 := eq_true h0
  have q2 := eq_true h1
  have HI := Aside0.mk hi
  have HH := Aside0.mk (And.intro h0 h1)
  clear hi h0 h1
  go_upto_region 8 with (first | ((with_reducible refine gate_dst (N := 12) rfl ?_); go_must (refine ev_box HS rfl (N := 12) rfl (cs := #[.int .i64 0, .int .i64 0, .int .i64 0, .int .i64 0, .int .i64 0, .int .i64 0]) (t := 58) ?hrun ?_); (case hrun => first | (go_simp; done) | (go_simp; rfl)); clear HS; intro gi w HS) | ((with_reducible refine gate_store (t := 58) (p := 12) rfl ?_); go_must (refine ev_store HS 0 rfl rfl 58 (.tmp 12) (.tmp 51) rfl rfl rfl [.int .i64 (3), .int .i64 i1, .int .i64 i2, .int .i64 i3, .int .i64 i4, .int .i64 i5] ?hx (by kernel_rfl) (by rfl) ?h1 ?_); (case hx => first | rfl | (go_simp; done)); (case h1 => simp [Value.oneCell']); clear HS; intro w HS))
  clear x0 x1 x2 x3 x4 x5 q1 q2 h0b h1b c64
  have ci := HS.cell 0 rfl
  have fs := HS.frozen 6 rfl
  have cA : w.cell? ⟨gs, i2.toNat, none⟩ = some (.int .i64 (rd s.regs i2)) := by rw [← HRG.out]; exact (st_cell HS 6 rfl i2.toNat).trans (stL_reg hs1 _ (by omega))
  have cB : w.cell? ⟨gs, i3.toNat, none⟩ = some (.int .i64 (rd s.regs i3)) := by rw [← HRG.out]; exact (st_cell HS 6 rfl i3.toNat).trans (stL_reg hs1 _ (by omega))
  have cD : w.cell? ⟨gs, i1.toNat, none⟩ = some (.int .i64 (rd s.regs i1)) := by rw [← HRG.out]; exact (st_cell HS 6 rfl i1.toNat).trans (stL_reg hs1 _ (by omega))
  have c63 : w.cell? ⟨gs, 63, none⟩ = some (.int .i64 (rd s.regs 63)) := by rw [← HRG.out]; exact (st_cell HS 6 rfl 63).trans (stL_reg hs1 63 (by decide))
  have c64 : w.cell? ⟨gs, 64, none⟩ = some (.int .i64 pc) := by rw [← HP1.out]; exact (st_cell HS 6 rfl 64).trans (stL_pc hs1)
  go_upto_region 9 with (fail)
  go_wp2
  go_still_tail 8, (by kernel_rfl)
  simp only [i64_w]
  (replace HS := HS.drew; (first | show Exit.then _ _ _ _ (World.drew w) | show wpList _ _ _ _ _ (World.drew w)); generalize World.drew w = w at HS ⊢)
  obtain ⟨X, hX⟩ : ∃ X, X = wrap64 (rd s.regs i2 + i5) := ⟨_, rfl⟩
  rw [← hX]
  have HXX := Aside0.mk hX
  clear hX
  clear ci cA cB cD c63 c64 fs
  have ci := HS.cell 0 rfl
  have fs := HS.frozen 6 rfl
  have cA : w.cell? ⟨gs, i2.toNat, none⟩ = some (.int .i64 (rd s.regs i2)) := by rw [← HRG.out]; exact (st_cell HS 6 rfl i2.toNat).trans (stL_reg hs1 _ (by omega))
  have cB : w.cell? ⟨gs, i3.toNat, none⟩ = some (.int .i64 (rd s.regs i3)) := by rw [← HRG.out]; exact (st_cell HS 6 rfl i3.toNat).trans (stL_reg hs1 _ (by omega))
  have cD : w.cell? ⟨gs, i1.toNat, none⟩ = some (.int .i64 (rd s.regs i1)) := by rw [← HRG.out]; exact (st_cell HS 6 rfl i1.toNat).trans (stL_reg hs1 _ (by omega))
  have c63 : w.cell? ⟨gs, 63, none⟩ = some (.int .i64 (rd s.regs 63)) := by rw [← HRG.out]; exact (st_cell HS 6 rfl 63).trans (stL_reg hs1 63 (by decide))
  have c64 : w.cell? ⟨gs, 64, none⟩ = some (.int .i64 pc) := by rw [← HP1.out]; exact (st_cell HS 6 rfl 64).trans (stL_pc hs1)
  have HDW := Aside0.mk (show word_Do.f 2 i4 (rd s.regs i2) (rd s.regs i3) = some ((doW i4 (rd s.regs i2) (rd s.regs i3)).1, false) from by rw [doW_some, ← hq])
  clear hq
  go_upto_region 20 with (fail)
  have cg := HS.cell 1 rfl
  go_upto_region 21 with (first | ((with_reducible refine gate_dst (N := 109) rfl ?_); go_must (refine ev_lit k53 (e := 53) HS rfl (N := 109) rfl (xs := [⟨4, (rd s.regs i2), (rd s.regs i3)⟩]) (inner := [.int .i64 4, .int .i64 ((rd s.regs i2)), .int .i64 ((rd s.regs i3))]) ?hrun (reps1 ⟨4, (rd s.regs i2), (rd s.regs i3)⟩) (by first | decide | simp) ?_); (case hrun => first | (go_simp; done) | (go_simp; rfl)); clear HS; intro gl2 w HS) | (((with_reducible refine gate_builtin (b := .append) (xs := #[.tmp 105, .tmp 109]) rfl ?_); go_must (refine ev_append k53 HS 3 (.tmp 105) (.tmp 109) 37 53 (.agg #[.int .i64 0, .int .i64 0, .int .i64 0]) 24 rfl (HS.C 0 rfl) (fun _ _ h => h) rfl rfl rfl rfl Try.underlying37 info53 rfl (by decide) (by omega) ((by simp)) ?_); clear HS; intro vo w HS); obtain ⟨Ao2, co2, rfl⟩ := HS.slice 3 rfl; have fz := HS.frozen 2 rfl; have cz := HS.cell 2 rfl))
  refine wp_sat (varset HS 2 rfl) (fun w HS => ?_)
  clear cg fz cz
  replace HS := HS.tail
  clear ci cA cB cD c63 c64 fs
  have ci := HS.cell 0 rfl
  have fs := HS.frozen 6 rfl
  have cA : w.cell? ⟨gs, i2.toNat, none⟩ = some (.int .i64 (rd s.regs i2)) := by rw [← HRG.out]; exact (st_cell HS 6 rfl i2.toNat).trans (stL_reg hs1 _ (by omega))
  have cB : w.cell? ⟨gs, i3.toNat, none⟩ = some (.int .i64 (rd s.regs i3)) := by rw [← HRG.out]; exact (st_cell HS 6 rfl i3.toNat).trans (stL_reg hs1 _ (by omega))
  have cD : w.cell? ⟨gs, i1.toNat, none⟩ = some (.int .i64 (rd s.regs i1)) := by rw [← HRG.out]; exact (st_cell HS 6 rfl i1.toNat).trans (stL_reg hs1 _ (by omega))
  have c63 : w.cell? ⟨gs, 63, none⟩ = some (.int .i64 (rd s.regs 63)) := by rw [← HRG.out]; exact (st_cell HS 6 rfl 63).trans (stL_reg hs1 63 (by decide))
  have c64 : w.cell? ⟨gs, 64, none⟩ = some (.int .i64 pc) := by rw [← HP1.out]; exact (st_cell HS 6 rfl 64).trans (stL_pc hs1)
  go_upto_region 22 with (go_at_call 25; (with_reducible refine (word_Do.calls 2 i4 (rd s.regs i2) (rd s.regs i3) _ _ _ HDW.out).mono ?_); rintro e w ⟨rfl, hd_⟩; replace HS := HS.below hd_.below; clear hd_)
  clear ci cA cB cD c63 c64 fs
  have ci := HS.cell 0 rfl
  have fs := HS.frozen 6 rfl
  have cA : w.cell? ⟨gs, i2.toNat, none⟩ = some (.int .i64 (rd s.regs i2)) := by rw [← HRG.out]; exact (st_cell HS 6 rfl i2.toNat).trans (stL_reg hs1 _ (by omega))
  have cB : w.cell? ⟨gs, i3.toNat, none⟩ = some (.int .i64 (rd s.regs i3)) := by rw [← HRG.out]; exact (st_cell HS 6 rfl i3.toNat).trans (stL_reg hs1 _ (by omega))
  have cD : w.cell? ⟨gs, i1.toNat, none⟩ = some (.int .i64 (rd s.regs i1)) := by rw [← HRG.out]; exact (st_cell HS 6 rfl i1.toNat).trans (stL_reg hs1 _ (by omega))
  have c63 : w.cell? ⟨gs, 63, none⟩ = some (.int .i64 (rd s.regs 63)) := by rw [← HRG.out]; exact (st_cell HS 6 rfl 63).trans (stL_reg hs1 63 (by decide))
  have c64 : w.cell? ⟨gs, 64, none⟩ = some (.int .i64 pc) := by rw [← HP1.out]; exact (st_cell HS 6 rfl 64).trans (stL_pc hs1)
  have HCC := Aside0.mk (stop1_calls (g6 := 0) (s := s1) (2) hs1 (by simp) HS.tail)
  go_wp2_with (first | (go_at_call 23; (with_reducible refine (HCC.out).mono ?_); rintro e w_ ⟨vs_, rfl, HS_⟩; clear HS; have HS := HS_; clear HS_) | ((with_reducible refine gate_store (t := 32) (p := 6) rfl ?_); go_must (refine ev_store HS 2 rfl rfl 32 (.tmp 6) (.tmp 123) rfl rfl rfl (stL (stopF s1 (2))) rfl (len32 (s := stopF s1 (2)) hs1) (by rw [stL_length (s := stopF s1 (2)) hs1]; rfl) (stL_one _) ?_); clear HS; intro w HS))
  obtain rfl := HPC.out
  obtain rfl := HS1.out
  have hrr := HRR.out
  obtain rfl := HXX.out
  obtain rfl := hrr
  exact bodyPost_ret (results_ctt Try.results14 _ _ g6 _ _ (0, 0) _ rfl (HS.blk 2 rfl) Try.underlying32 rfl (size32 hs1)) rfl ⟨_, _, _, _, rfl, (((HS.front 1 rfl).front 1 rfl).erase 2)⟩

set_option maxRecDepth 100000 in
set_option maxHeartbeats 4000000 in
theorem one_mod_ok (i1 i2 i3 i4 i5 : Int) (hC : ∀ w, Sat W0 w L → Kd.C k58 w A code.length code) (hM : ∀ w, Sat W0 w L → Kd.C (Kd.int .i64) w Am0 m.length m) (hml : m.length ≤ 1000000) (hs : s.regs.length = 64) (h0 : 0 ≤ s.pc) (h1 : s.pc < (code.length : Int)) (hi : rd_T58 code s.pc = ⟨3, i1, i2, i3, i4, i5⟩) (hf : Fit (⟨3, i1, i2, i3, i4, i5⟩ : S58)) (hb4 : (i4 == 4) = false) (hb5 : (i4 == 5) = true) (hq : (doW i4 (rd s.regs i2) (rd s.regs i3)).2 = true) (r : St × List Int × List S53) (hr : r = ({ s with steps := wrap64 (s.steps + 1), regs := s.regs.set i1.toNat (doW i4 (rd s.regs i2) (rd s.regs i3)).1, pc := wrap64 (s.pc + 1) }, m, [⟨1, s.pc, 0⟩, ⟨4, rd s.regs i2, rd s.regs i3⟩])) (HS : Sat W0 w L) :
    Calls Try.prog 14 #[.slice A code.length c, .agg (stL s).toArray, .slice Am0 m.length cm0] w (OnePost W0 L r) := by
  have HRR := Aside0.mk hr
  clear hr
  obtain ⟨d0, d1, a0, a1, b0, b1⟩ := hf
  dsimp only at d0 d1 a0 a1 b0 b1
  go_enter Try.func14, Try.ntmps14
  go_upto_region 1 with (first | ((with_reducible refine gate_dst (N := 4) rfl ?_); go_must (refine ev_box HS rfl (N := 4) rfl (cs := (stL s).toArray) (t := 32) ?hrun ?_); (case hrun => first | (go_simp; done) | (go_simp; rfl)); clear HS; intro gs w HS) | ((with_reducible refine gate_dst (N := 6) rfl ?_); go_must (refine ev_box HS rfl (N := 6) rfl (cs := (stL z0).toArray) (t := 32) ?hrun ?_); (case hrun => first | (go_simp; done) | (go_simp; rfl)); clear HS; intro g6 w HS))
  go_upto_region 2 with (first | ((with_reducible refine gate_dst (N := 20) rfl ?_); go_must (refine ev_lit IW (e := 2) HS rfl (N := 20) rfl (xs := ([] : List Int)) (inner := []) ?hrun (Reps.none _ _) (by first | decide | simp) ?_); (case hrun => first | (go_simp; done) | (go_simp; rfl)); clear HS; intro gl w HS) | (((with_reducible refine gate_builtin (b := .append) (xs := #[.tmp 20, .tmp 21]) rfl ?_); go_must (refine ev_append IW HS 0 (.tmp 20) (.tmp 21) 35 2 (.int .i64 0) 8 rfl (hM _ HS.tail.tail.tail) (fun _ _ h => h) rfl rfl rfl rfl Try.underlying35 info2 rfl (by decide) (by omega) ((by simp; omega)) ?_); clear HS; intro vm w HS); rw [List.nil_append] at HS; obtain ⟨Am, cm, rfl⟩ := HS.slice 0 rfl) | (((with_reducible refine gate_dst (N := 9) rfl ?_); go_must (refine ev_box HS rfl (N := 9) rfl (cs := #[.slice none 0 0]) (t := 35) ?hrun ?_); (case hrun => first | (go_simp; done) | (go_simp; rfl)); clear HS; intro gm w HS); have cz := HS.cell 0 rfl; have fz := HS.frozen 0 rfl))
  refine wp_sat (varset HS 0 rfl) (fun w HS => ?_)
  clear cz fz
  have fs := HS.frozen 3 rfl
  have c68 := (st_cell HS 3 rfl 68).trans (stL_steps hs)
  go_upto_region 3 with (fail)
  refine wp_sat (stset (s' := { s with steps := wrap64 (s.steps + 1) }) HS 3 rfl 68 (.int .i64 (wrap64 (s.steps + 1))) (set_steps hs _)) (fun w HS => ?_)
  clear fs c68
  obtain ⟨pc, hpc⟩ : ∃ pc, pc = s.pc := ⟨_, rfl⟩
  rw [← hpc] at h0 h1 hi
  have HPC := Aside0.mk hpc
  clear hpc
  obtain ⟨s1, hs1e⟩ : ∃ s1 : St, s1 = { s with steps := wrap64 (s.steps + 1) } := ⟨_, rfl⟩
  rw [← hs1e] at HS
  have hs1 : s1.regs.length = 64 := by rw [hs1e]; exact hs
  have HP1 := Aside0.mk (show s1.pc = pc by rw [hs1e, HPC.out])
  have HRG := Aside0.mk (show s1.regs = s.regs by rw [hs1e])
  have HS1 := Aside0.mk hs1e
  clear hs1e
  have c64 : w.cell? ⟨gs, 64, none⟩ = some (.int .i64 pc) := by rw [← HP1.out]; exact (st_cell HS 3 rfl 64).trans (stL_pc hs1)
  go_upto_region 4 with (first | ((with_reducible refine gate_dst (N := 30) rfl ?_); go_must (refine ev_lit k53 (e := 53) HS rfl (N := 30) rfl (xs := [⟨1, pc, 0⟩]) (inner := [.int .i64 1, .int .i64 pc, .int .i64 0]) ?hrun (reps1 ⟨1, pc, 0⟩) (by first | decide | simp) ?_); (case hrun => first | (go_simp; done) | (go_simp; rfl)); clear HS; intro go1 w HS) | (((with_reducible refine gate_dst (N := 10) rfl ?_); go_must (refine ev_box HS rfl (N := 10) rfl (cs := #[.slice none 0 0]) (t := 37) ?hrun ?_); (case hrun => first | (go_simp; done) | (go_simp; rfl)); clear HS; intro go w HS); have cz := HS.cell 0 rfl; have fz := HS.frozen 0 rfl))
  refine wp_sat (varset HS 0 rfl) (fun w HS => ?_)
  clear cz fz c64
  have c64 : w.cell? ⟨gs, 64, none⟩ = some (.int .i64 pc) := by rw [← HP1.out]; exact (st_cell HS 5 rfl 64).trans (stL_pc hs1)
  have h0b : decide (pc < 0) = false := decide_eq_false (by omega)
  have h1b : decide ((code.length : Int) ≤ pc) = false := decide_eq_false (by omega)
  obtain ⟨ad, rfl, x0, x1, x2, x3, x4, x5⟩ := at_T58 (hC w HS.tail.tail.tail.tail.tail.tail) pc h0 h1
  rw [hi] at x0 x1 x2 x3 x4 x5
  dsimp only at x0 x1 x2 x3 x4 x5
  have q1 := eq_true h0
  have q2 := eq_true h1
  have HI := Aside0.mk hi
  have HH := Aside0.mk (And.intro h0 h1)
  clear hi h0 h1
  go_upto_region 8 with (first | ((with_reducible refine gate_dst (N := 12) rfl ?_); go_must (refine ev_box HS rfl (N := 12) rfl (cs := #[.int .i64 0, .int .i64 0, .int .i64 0, .int .i64 0, .int .i64 0, .int .i64 0]) (t := 58) ?hrun ?_); (case hrun => first | (go_simp; done) | (go_simp; rfl)); clear HS; intro gi w HS) | ((with_reducible refine gate_store (t := 58) (p := 12) rfl ?_); go_must (refine ev_store HS 0 rfl rfl 58 (.tmp 12) (.tmp 51) rfl rfl rfl [.int .i64 (3), .int .i64 i1, .int .i64 i2, .int .i64 i3, .int .i64 i4, .int .i64 i5] ?hx (by kernel_rfl) (by rfl) ?h1 ?_); (case hx => first | rfl | (go_simp; done)); (case h1 => simp [Value.oneCell']); clear HS; intro w HS))
  clear x0 x1 x2 x3 x4 x5 q1 q2 h0b h1b c64
  have ci := HS.cell 0 rfl
  have fs := HS.frozen 6 rfl
  have cA : w.cell? ⟨gs, i2.toNat, none⟩ = some (.int .i64 (rd s.regs i2)) := by rw [← HRG.out]; exact (st_cell HS 6 rfl i2.toNat).trans (stL_reg hs1 _ (by omega))
  have cB : w.cell? ⟨gs, i3.toNat, none⟩ = some (.int .i64 (rd s.regs i3)) := by rw [← HRG.out]; exact (st_cell HS 6 rfl i3.toNat).trans (stL_reg hs1 _ (by omega))
  have cD : w.cell? ⟨gs, i1.toNat, none⟩ = some (.int .i64 (rd s.regs i1)) := by rw [← HRG.out]; exact (st_cell HS 6 rfl i1.toNat).trans (stL_reg hs1 _ (by omega))
  have c63 : w.cell? ⟨gs, 63, none⟩ = some (.int .i64 (rd s.regs 63)) := by rw [← HRG.out]; exact (st_cell HS 6 rfl 63).trans (stL_reg hs1 63 (by decide))
  have c64 : w.cell? ⟨gs, 64, none⟩ = some (.int .i64 pc) := by rw [← HP1.out]; exact (st_cell HS 6 rfl 64).trans (stL_pc hs1)
  go_upto_region 9 with (fail)
  go_wp2
  go_still_tail 8, (by kernel_rfl)
  simp only [i64_w]
  (replace HS := HS.drew; (first | show Exit.then _ _ _ _ (World.drew w) | show wpList _ _ _ _ _ (World.drew w)); generalize World.drew w = w at HS ⊢)
  obtain ⟨X, hX⟩ : ∃ X, X = wrap64 (rd s.regs i2 + i5) := ⟨_, rfl⟩
  rw [← hX]
  have HXX := Aside0.mk hX
  clear hX
  clear ci cA cB cD c63 c64 fs
  have ci := HS.cell 0 rfl
  have fs := HS.frozen 6 rfl
  have cA : w.cell? ⟨gs, i2.toNat, none⟩ = some (.int .i64 (rd s.regs i2)) := by rw [← HRG.out]; exact (st_cell HS 6 rfl i2.toNat).trans (stL_reg hs1 _ (by omega))
  have cB : w.cell? ⟨gs, i3.toNat, none⟩ = some (.int .i64 (rd s.regs i3)) := by rw [← HRG.out]; exact (st_cell HS 6 rfl i3.toNat).trans (stL_reg hs1 _ (by omega))
  have cD : w.cell? ⟨gs, i1.toNat, none⟩ = some (.int .i64 (rd s.regs i1)) := by rw [← HRG.out]; exact (st_cell HS 6 rfl i1.toNat).trans (stL_reg hs1 _ (by omega))
  have c63 : w.cell? ⟨gs, 63, none⟩ = some (.int .i64 (rd s.regs 63)) := by rw [← HRG.out]; exact (st_cell HS 6 rfl 63).trans (stL_reg hs1 63 (by decide))
  have c64 : w.cell? ⟨gs, 64, none⟩ = some (.int .i64 pc) := by rw [← HP1.out]; exact (st_cell HS 6 rfl 64).trans (stL_pc hs1)
  have HDW := Aside0.mk (show word_Do.f 2 i4 (rd s.regs i2) (rd s.regs i3) = some ((doW i4 (rd s.regs i2) (rd s.regs i3)).1, true) from by rw [doW_some, ← hq])
  clear hq
  go_upto_region 20 with (fail)
  have cg := HS.cell 1 rfl
  go_upto_region 21 with (first | ((with_reducible refine gate_dst (N := 109) rfl ?_); go_must (refine ev_lit k53 (e := 53) HS rfl (N := 109) rfl (xs := [⟨4, (rd s.regs i2), (rd s.regs i3)⟩]) (inner := [.int .i64 4, .int .i64 ((rd s.regs i2)), .int .i64 ((rd s.regs i3))]) ?hrun (reps1 ⟨4, (rd s.regs i2), (rd s.regs i3)⟩) (by first | decide | simp) ?_); (case hrun => first | (go_simp; done) | (go_simp; rfl)); clear HS; intro gl2 w HS) | (((with_reducible refine gate_builtin (b := .append) (xs := #[.tmp 105, .tmp 109]) rfl ?_); go_must (refine ev_append k53 HS 3 (.tmp 105) (.tmp 109) 37 53 (.agg #[.int .i64 0, .int .i64 0, .int .i64 0]) 24 rfl (HS.C 0 rfl) (fun _ _ h => h) rfl rfl rfl rfl Try.underlying37 info53 rfl (by decide) (by omega) ((by simp)) ?_); clear HS; intro vo w HS); obtain ⟨Ao2, co2, rfl⟩ := HS.slice 3 rfl; have fz := HS.frozen 2 rfl; have cz := HS.cell 2 rfl))
  refine wp_sat (varset HS 2 rfl) (fun w HS => ?_)
  clear cg fz cz
  replace HS := HS.tail
  clear ci cA cB cD c63 c64 fs
  have ci := HS.cell 0 rfl
  have fs := HS.frozen 6 rfl
  have cA : w.cell? ⟨gs, i2.toNat, none⟩ = some (.int .i64 (rd s.regs i2)) := by rw [← HRG.out]; exact (st_cell HS 6 rfl i2.toNat).trans (stL_reg hs1 _ (by omega))
  have cB : w.cell? ⟨gs, i3.toNat, none⟩ = some (.int .i64 (rd s.regs i3)) := by rw [← HRG.out]; exact (st_cell HS 6 rfl i3.toNat).trans (stL_reg hs1 _ (by omega))
  have cD : w.cell? ⟨gs, i1.toNat, none⟩ = some (.int .i64 (rd s.regs i1)) := by rw [← HRG.out]; exact (st_cell HS 6 rfl i1.toNat).trans (stL_reg hs1 _ (by omega))
  have c63 : w.cell? ⟨gs, 63, none⟩ = some (.int .i64 (rd s.regs 63)) := by rw [← HRG.out]; exact (st_cell HS 6 rfl 63).trans (stL_reg hs1 63 (by decide))
  have c64 : w.cell? ⟨gs, 64, none⟩ = some (.int .i64 pc) := by rw [← HP1.out]; exact (st_cell HS 6 rfl 64).trans (stL_pc hs1)
  go_upto_region 22 with (go_at_call 25; (with_reducible refine (word_Do.calls 2 i4 (rd s.regs i2) (rd s.regs i3) _ _ _ HDW.out).mono ?_); rintro e w ⟨rfl, hd_⟩; replace HS := HS.below hd_.below; clear hd_)
  clear ci cA cB cD c63 c64 fs
  have ci := HS.cell 0 rfl
  have fs := HS.frozen 6 rfl
  have cA : w.cell? ⟨gs, i2.toNat, none⟩ = some (.int .i64 (rd s.regs i2)) := by rw [← HRG.out]; exact (st_cell HS 6 rfl i2.toNat).trans (stL_reg hs1 _ (by omega))
  have cB : w.cell? ⟨gs, i3.toNat, none⟩ = some (.int .i64 (rd s.regs i3)) := by rw [← HRG.out]; exact (st_cell HS 6 rfl i3.toNat).trans (stL_reg hs1 _ (by omega))
  have cD : w.cell? ⟨gs, i1.toNat, none⟩ = some (.int .i64 (rd s.regs i1)) := by rw [← HRG.out]; exact (st_cell HS 6 rfl i1.toNat).trans (stL_reg hs1 _ (by omega))
  have c63 : w.cell? ⟨gs, 63, none⟩ = some (.int .i64 (rd s.regs 63)) := by rw [← HRG.out]; exact (st_cell HS 6 rfl 63).trans (stL_reg hs1 63 (by decide))
  have c64 : w.cell? ⟨gs, 64, none⟩ = some (.int .i64 pc) := by rw [← HP1.out]; exact (st_cell HS 6 rfl 64).trans (stL_pc hs1)
  go_upto_region 61 with (fail)
  refine wp_sat (stset (s' := ({ s1 with regs := s.regs.set i1.toNat ((doW i4 (rd s.regs i2) (rd s.regs i3)).1) } : St)) HS 6 rfl i1.toNat (.int .i64 ((doW i4 (rd s.regs i2) (rd s.regs i3)).1)) (by rw [← HRG.out]; exact set_reg hs1 _ (by omega) _)) (fun w HS => ?_)
  have hs2 : (s.regs.set i1.toNat ((doW i4 (rd s.regs i2) (rd s.regs i3)).1)).length = 64 := by rw [List.length_set]; exact hs
  clear ci cA cB cD c63 c64 fs
  have fs := HS.frozen 6 rfl
  have c64 : w.cell? ⟨gs, 64, none⟩ = some (.int .i64 pc) := by rw [← HP1.out]; exact (st_cell HS 6 rfl 64).trans (stL_pc (s := ({ s1 with regs := s.regs.set i1.toNat ((doW i4 (rd s.regs i2) (rd s.regs i3)).1) } : St)) hs2)
  go_upto_region 62 with (fail)
  refine wp_sat (stset (s := ({ s1 with regs := s.regs.set i1.toNat ((doW i4 (rd s.regs i2) (rd s.regs i3)).1) } : St)) (s' := ({ s1 with regs := s.regs.set i1.toNat ((doW i4 (rd s.regs i2) (rd s.regs i3)).1), pc := wrap64 (pc + 1) } : St)) HS 6 rfl 64 (.int .i64 (wrap64 (pc + 1))) (set_pc (s := ({ s1 with regs := s.regs.set i1.toNat ((doW i4 (rd s.regs i2) (rd s.regs i3)).1) } : St)) hs2 _)) (fun w HS => ?_)
  clear fs c64
  refine start_ (n := 6) (S := fun w' => ∃ L', Sat W0 w' (blk gs 32 (stL ({ s1 with regs := s.regs.set i1.toNat ((doW i4 (rd s.regs i2) (rd s.regs i3)).1), pc := wrap64 (pc + 1) } : St)).toArray :: blk gm 35 #[.slice Am m.length cm] :: blk go 37 #[.slice Ao2 2 co2] :: L')) (ds := []) #[false, false, false, false, false, false] (by kernel_rfl) rfl rfl ⟨_, (((HS.drew.front 1 rfl).front 3 rfl).front 6 rfl)⟩ (fun hHeld => ?_)
  replace HS := HS.drew
  generalize World.drew w = w at HS hHeld ⊢
  refine take_ (i := 0) (N := some 300) (v := ?_) (a' := ?_) #[true, false, false, false, false, false] rfl rfl (by kernel_rfl) (fun _ _ _ h => h) (Or.inl ⟨by rfl, ?_⟩) hHeld ?_ ?_
  rotate_left
  · rintro w' ⟨L', hS⟩
    refine whole_run hS 0 rfl 32 (.tmp 4) ?_ ?_ _ Try.underlying32 rfl (size32 hs2) <;> rfl
  rotate_left
  · (try simp only [Act.put, List.setIfInBounds_toArray, List.set_cons_zero, List.set_cons_succ, i64_w, i32_w])
    rfl
  refine take_ (i := 1) (N := some 301) (v := ?_) (a' := ?_) #[true, true, false, false, false, false] rfl rfl (by kernel_rfl) (fun _ _ _ h => h) (Or.inl ⟨by rfl, ?_⟩) hHeld ?_ ?_
  rotate_left
  · rintro w' ⟨L', hS⟩
    have cm_ := hS.cell 1 rfl
    have co_ := hS.cell 2 rfl
    go_simp
    with_reducible rfl
  rotate_left
  · (try simp only [Act.put, List.setIfInBounds_toArray, List.set_cons_zero, List.set_cons_succ, i64_w, i32_w])
    rfl
  refine take_ (i := 2) (N := some 302) (v := ?_) (a' := ?_) #[true, true, true, false, false, false] rfl rfl (by kernel_rfl) (fun _ _ _ h => h) (Or.inl ⟨by rfl, ?_⟩) hHeld ?_ ?_
  rotate_left
  · rintro w' ⟨L', hS⟩
    have cm_ := hS.cell 1 rfl
    have co_ := hS.cell 2 rfl
    go_simp
    with_reducible rfl
  rotate_left
  · (try simp only [Act.put, List.setIfInBounds_toArray, List.set_cons_zero, List.set_cons_succ, i64_w, i32_w])
    rfl
  refine one_ (i := 3) (N := none) #[true, true, true, true, false, false] rfl rfl (by kernel_rfl) (by decide) (fun K hK => ?_)
  refine ev_store_step HS 5 rfl (by rfl) 32 (.tmp 6) (.tmp 300) rfl rfl rfl (stL ({ s1 with regs := s.regs.set i1.toNat ((doW i4 (rd s.regs i2) (rd s.regs i3)).1), pc := wrap64 (pc + 1) } : St)) rfl (len32 hs2) (by rw [stL_length (s := ({ s1 with regs := s.regs.set i1.toNat ((doW i4 (rd s.regs i2) (rd s.regs i3)).1), pc := wrap64 (pc + 1) } : St)) hs2]; rfl) (stL_one _) ?_
  clear HS
  intro w HS
  refine hK.out _ _ ⟨_, (((HS.front 1 rfl).front 3 rfl).front 6 rfl)⟩ (fun hHeld => ?_)
  clear hK K
  refine pure_ (i := 4) (N := some 7) (v := ?_) (a' := ?_) #[true, true, true, true, true, false] rfl rfl (by kernel_rfl) (fun _ _ _ h => h) (Or.inl ⟨by rfl, ?_⟩) ?_ ?_
  rotate_left
  · intro w'
    go_simp
    with_reducible rfl
  rotate_left
  · (try simp only [Act.put, List.setIfInBounds_toArray, List.set_cons_zero, List.set_cons_succ, i64_w, i32_w])
    rfl
  refine pure_ (i := 5) (N := some 8) (v := ?_) (a' := ?_) #[true, true, true, true, true, true] rfl rfl (by kernel_rfl) (fun _ _ _ h => h) (Or.inl ⟨by rfl, ?_⟩) ?_ ?_
  rotate_left
  · intro w'
    go_simp
    with_reducible rfl
  rotate_left
  · (try simp only [Act.put, List.setIfInBounds_toArray, List.set_cons_zero, List.set_cons_succ, i64_w, i32_w])
    rfl
  refine done_ (by kernel_rfl) ?_
  clear hHeld
  go_wp2
  obtain rfl := HPC.out
  obtain rfl := HS1.out
  have hrr := HRR.out
  obtain rfl := HXX.out
  obtain rfl := hrr
  exact bodyPost_ret (results_ctt Try.results14 _ _ g6 _ _ (0, 0) _ rfl (HS.blk 5 rfl) Try.underlying32 rfl (size32 hs2)) rfl ⟨_, _, _, _, rfl, (((((((HS.front 4 rfl).front 3 rfl).erase 2).erase 2).erase 2).erase 2).erase 2)⟩

set_option maxRecDepth 100000 in
set_option maxHeartbeats 4000000 in
theorem one_mod_no (i1 i2 i3 i4 i5 : Int) (hC : ∀ w, Sat W0 w L → Kd.C k58 w A code.length code) (hM : ∀ w, Sat W0 w L → Kd.C (Kd.int .i64) w Am0 m.length m) (hml : m.length ≤ 1000000) (hs : s.regs.length = 64) (h0 : 0 ≤ s.pc) (h1 : s.pc < (code.length : Int)) (hi : rd_T58 code s.pc = ⟨3, i1, i2, i3, i4, i5⟩) (hf : Fit (⟨3, i1, i2, i3, i4, i5⟩ : S58)) (hb4 : (i4 == 4) = false) (hb5 : (i4 == 5) = true) (hq : (doW i4 (rd s.regs i2) (rd s.regs i3)).2 = false) (r : St × List Int × List S53) (hr : r = (stopF { s with steps := wrap64 (s.steps + 1) } 2, m, [⟨1, s.pc, 0⟩, ⟨4, rd s.regs i2, rd s.regs i3⟩, ⟨5, 2, 0⟩])) (HS : Sat W0 w L) :
    Calls Try.prog 14 #[.slice A code.length c, .agg (stL s).toArray, .slice Am0 m.length cm0] w (OnePost W0 L r) := by
  have HRR := Aside0.mk hr
  clear hr
  obtain ⟨d0, d1, a0, a1, b0, b1⟩ := hf
  dsimp only at d0 d1 a0 a1 b0 b1
  go_enter Try.func14, Try.ntmps14
  go_upto_region 1 with (first | ((with_reducible refine gate_dst (N := 4) rfl ?_); go_must (refine ev_box HS rfl (N := 4) rfl (cs := (stL s).toArray) (t := 32) ?hrun ?_); (case hrun => first | (go_simp; done) | (go_simp; rfl)); clear HS; intro gs w HS) | ((with_reducible refine gate_dst (N := 6) rfl ?_); go_must (refine ev_box HS rfl (N := 6) rfl (cs := (stL z0).toArray) (t := 32) ?hrun ?_); (case hrun => first | (go_simp; done) | (go_simp; rfl)); clear HS; intro g6 w HS))
  go_upto_region 2 with (first | ((with_reducible refine gate_dst (N := 20) rfl ?_); go_must (refine ev_lit IW (e := 2) HS rfl (N := 20) rfl (xs := ([] : List Int)) (inner := []) ?hrun (Reps.none _ _) (by first | decide | simp) ?_); (case hrun => first | (go_simp; done) | (go_simp; rfl)); clear HS; intro gl w HS) | (((with_reducible refine gate_builtin (b := .append) (xs := #[.tmp 20, .tmp 21]) rfl ?_); go_must (refine ev_append IW HS 0 (.tmp 20) (.tmp 21) 35 2 (.int .i64 0) 8 rfl (hM _ HS.tail.tail.tail) (fun _ _ h => h) rfl rfl rfl rfl Try.underlying35 info2 rfl (by decide) (by omega) ((by simp; omega)) ?_); clear HS; intro vm w HS); rw [List.nil_append] at HS; obtain ⟨Am, cm, rfl⟩ := HS.slice 0 rfl) | (((with_reducible refine gate_dst (N := 9) rfl ?_); go_must (refine ev_box HS rfl (N := 9) rfl (cs := #[.slice none 0 0]) (t := 35) ?hrun ?_); (case hrun => first | (go_simp; done) | (go_simp; rfl)); clear HS; intro gm w HS); have cz := HS.cell 0 rfl; have fz := HS.frozen 0 rfl))
  refine wp_sat (varset HS 0 rfl) (fun w HS => ?_)
  clear cz fz
  have fs := HS.frozen 3 rfl
  have c68 := (st_cell HS 3 rfl 68).trans (stL_steps hs)
  go_upto_region 3 with (fail)
  refine wp_sat (stset (s' := { s with steps := wrap64 (s.steps + 1) }) HS 3 rfl 68 (.int .i64 (wrap64 (s.steps + 1))) (set_steps hs _)) (fun w HS => ?_)
  clear fs c68
  obtain ⟨pc, hpc⟩ : ∃ pc, pc = s.pc := ⟨_, rfl⟩
  rw [← hpc] at h0 h1 hi
  have HPC := Aside0.mk hpc
  clear hpc
  obtain ⟨s1, hs1e⟩ : ∃ s1 : St, s1 = { s with steps := wrap64 (s.steps + 1) } := ⟨_, rfl⟩
  rw [← hs1e] at HS
  have hs1 : s1.regs.length = 64 := by rw [hs1e]; exact hs
  have HP1 := Aside0.mk (show s1.pc = pc by rw [hs1e, HPC.out])
  have HRG := Aside0.mk (show s1.regs = s.regs by rw [hs1e])
  have HS1 := Aside0.mk hs1e
  clear hs1e
  have c64 : w.cell? ⟨gs, 64, none⟩ = some (.int .i64 pc) := by rw [← HP1.out]; exact (st_cell HS 3 rfl 64).trans (stL_pc hs1)
  go_upto_region 4 with (first | ((with_reducible refine gate_dst (N := 30) rfl ?_); go_must (refine ev_lit k53 (e := 53) HS rfl (N := 30) rfl (xs := [⟨1, pc, 0⟩]) (inner := [.int .i64 1, .int .i64 pc, .int .i64 0]) ?hrun (reps1 ⟨1, pc, 0⟩) (by first | decide | simp) ?_); (case hrun => first | (go_simp; done) | (go_simp; rfl)); clear HS; intro go1 w HS) | (((with_reducible refine gate_dst (N := 10) rfl ?_); go_must (refine ev_box HS rfl (N := 10) rfl (cs := #[.slice none 0 0]) (t := 37) ?hrun ?_); (case hrun => first | (go_simp; done) | (go_simp; rfl)); clear HS; intro go w HS); have cz := HS.cell 0 rfl; have fz := HS.frozen 0 rfl))
  refine wp_sat (varset HS 0 rfl) (fun w HS => ?_)
  clear cz fz c64
  have c64 : w.cell? ⟨gs, 64, none⟩ = some (.int .i64 pc) := by rw [← HP1.out]; exact (st_cell HS 5 rfl 64).trans (stL_pc hs1)
  have h0b : decide (pc < 0) = false := decide_eq_false (by omega)
  have h1b : decide ((code.length : Int) ≤ pc) = false := decide_eq_false (by omega)
  obtain ⟨ad, rfl, x0, x1, x2, x3, x4, x5⟩ := at_T58 (hC w HS.tail.tail.tail.tail.tail.tail) pc h0 h1
  rw [hi] at x0 x1 x2 x3 x4 x5
  dsimp only at x0 x1 x2 x3 x4 x5
  have q1 := eq_true h0
  have q2 := eq_true h1
  have HI := Aside0.mk hi
  have HH := Aside0.mk (And.intro h0 h1)
  clear hi h0 h1
  go_upto_region 8 with (first | ((with_reducible refine gate_dst (N := 12) rfl ?_); go_must (refine ev_box HS rfl (N := 12) rfl (cs := #[.int .i64 0, .int .i64 0, .int .i64 0, .int .i64 0, .int .i64 0, .int .i64 0]) (t := 58) ?hrun ?_); (case hrun => first | (go_simp; done) | (go_simp; rfl)); clear HS; intro gi w HS) | ((with_reducible refine gate_store (t := 58) (p := 12) rfl ?_); go_must (refine ev_store HS 0 rfl rfl 58 (.tmp 12) (.tmp 51) rfl rfl rfl [.int .i64 (3), .int .i64 i1, .int .i64 i2, .int .i64 i3, .int .i64 i4, .int .i64 i5] ?hx (by kernel_rfl) (by rfl) ?h1 ?_); (case hx => first | rfl | (go_simp; done)); (case h1 => simp [Value.oneCell']); clear HS; intro w HS))
  clear x0 x1 x2 x3 x4 x5 q1 q2 h0b h1b c64
  have ci := HS.cell 0 rfl
  have fs := HS.frozen 6 rfl
  have cA : w.cell? ⟨gs, i2.toNat, none⟩ = some (.int .i64 (rd s.regs i2)) := by rw [← HRG.out]; exact (st_cell HS 6 rfl i2.toNat).trans (stL_reg hs1 _ (by omega))
  have cB : w.cell? ⟨gs, i3.toNat, none⟩ = some (.int .i64 (rd s.regs i3)) := by rw [← HRG.out]; exact (st_cell HS 6 rfl i3.toNat).trans (stL_reg hs1 _ (by omega))
  have cD : w.cell? ⟨gs, i1.toNat, none⟩ = some (.int .i64 (rd s.regs i1)) := by rw [← HRG.out]; exact (st_cell HS 6 rfl i1.toNat).trans (stL_reg hs1 _ (by omega))
  have c63 : w.cell? ⟨gs, 63, none⟩ = some (.int .i64 (rd s.regs 63)) := by rw [← HRG.out]; exact (st_cell HS 6 rfl 63).trans (stL_reg hs1 63 (by decide))
  have c64 : w.cell? ⟨gs, 64, none⟩ = some (.int .i64 pc) := by rw [← HP1.out]; exact (st_cell HS 6 rfl 64).trans (stL_pc hs1)
  go_upto_region 9 with (fail)
  go_wp2
  go_still_tail 8, (by kernel_rfl)
  simp only [i64_w]
  (replace HS := HS.drew; (first | show Exit.then _ _ _ _ (World.drew w) | show wpList _ _ _ _ _ (World.drew w)); generalize World.drew w = w at HS ⊢)
  obtain ⟨X, hX⟩ : ∃ X, X = wrap64 (rd s.regs i2 + i5) := ⟨_, rfl⟩
  rw [← hX]
  have HXX := Aside0.mk hX
  clear hX
  clear ci cA cB cD c63 c64 fs
  have ci := HS.cell 0 rfl
  have fs := HS.frozen 6 rfl
  have cA : w.cell? ⟨gs, i2.toNat, none⟩ = some (.int .i64 (rd s.regs i2)) := by rw [← HRG.out]; exact (st_cell HS 6 rfl i2.toNat).trans (stL_reg hs1 _ (by omega))
  have cB : w.cell? ⟨gs, i3.toNat, none⟩ = some (.int .i64 (rd s.regs i3)) := by rw [← HRG.out]; exact (st_cell HS 6 rfl i3.toNat).trans (stL_reg hs1 _ (by omega))
  have cD : w.cell? ⟨gs, i1.toNat, none⟩ = some (.int .i64 (rd s.regs i1)) := by rw [← HRG.out]; exact (st_cell HS 6 rfl i1.toNat).trans (stL_reg hs1 _ (by omega))
  have c63 : w.cell? ⟨gs, 63, none⟩ = some (.int .i64 (rd s.regs 63)) := by rw [← HRG.out]; exact (st_cell HS 6 rfl 63).trans (stL_reg hs1 63 (by decide))
  have c64 : w.cell? ⟨gs, 64, none⟩ = some (.int .i64 pc) := by rw [← HP1.out]; exact (st_cell HS 6 rfl 64).trans (stL_pc hs1)
  have HDW := Aside0.mk (show word_Do.f 2 i4 (rd s.regs i2) (rd s.regs i3) = some ((doW i4 (rd s.regs i2) (rd s.regs i3)).1, false) from by rw [doW_some, ← hq])
  clear hq
  go_upto_region 20 with (fail)
  have cg := HS.cell 1 rfl
  go_upto_region 21 with (first | ((with_reducible refine gate_dst (N := 109) rfl ?_); go_must (refine ev_lit k53 (e := 53) HS rfl (N := 109) rfl (xs := [⟨4, (rd s.regs i2), (rd s.regs i3)⟩]) (inner := [.int .i64 4, .int .i64 ((rd s.regs i2)), .int .i64 ((rd s.regs i3))]) ?hrun (reps1 ⟨4, (rd s.regs i2), (rd s.regs i3)⟩) (by first | decide | simp) ?_); (case hrun => first | (go_simp; done) | (go_simp; rfl)); clear HS; intro gl2 w HS) | (((with_reducible refine gate_builtin (b := .append) (xs := #[.tmp 105, .tmp 109]) rfl ?_); go_must (refine ev_append k53 HS 3 (.tmp 105) (.tmp 109) 37 53 (.agg #[.int .i64 0, .int .i64 0, .int .i64 0]) 24 rfl (HS.C 0 rfl) (fun _ _ h => h) rfl rfl rfl rfl Try.underlying37 info53 rfl (by decide) (by omega) ((by simp)) ?_); clear HS; intro vo w HS); obtain ⟨Ao2, co2, rfl⟩ := HS.slice 3 rfl; have fz := HS.frozen 2 rfl; have cz := HS.cell 2 rfl))
  refine wp_sat (varset HS 2 rfl) (fun w HS => ?_)
  clear cg fz cz
  replace HS := HS.tail
  clear ci cA cB cD c63 c64 fs
  have ci := HS.cell 0 rfl
  have fs := HS.frozen 6 rfl
  have cA : w.cell? ⟨gs, i2.toNat, none⟩ = some (.int .i64 (rd s.regs i2)) := by rw [← HRG.out]; exact (st_cell HS 6 rfl i2.toNat).trans (stL_reg hs1 _ (by omega))
  have cB : w.cell? ⟨gs, i3.toNat, none⟩ = some (.int .i64 (rd s.regs i3)) := by rw [← HRG.out]; exact (st_cell HS 6 rfl i3.toNat).trans (stL_reg hs1 _ (by omega))
  have cD : w.cell? ⟨gs, i1.toNat, none⟩ = some (.int .i64 (rd s.regs i1)) := by rw [← HRG.out]; exact (st_cell HS 6 rfl i1.toNat).trans (stL_reg hs1 _ (by omega))
  have c63 : w.cell? ⟨gs, 63, none⟩ = some (.int .i64 (rd s.regs 63)) := by rw [← HRG.out]; exact (st_cell HS 6 rfl 63).trans (stL_reg hs1 63 (by decide))
  have c64 : w.cell? ⟨gs, 64, none⟩ = some (.int .i64 pc) := by rw [← HP1.out]; exact (st_cell HS 6 rfl 64).trans (stL_pc hs1)
  go_upto_region 22 with (go_at_call 25; (with_reducible refine (word_Do.calls 2 i4 (rd s.regs i2) (rd s.regs i3) _ _ _ HDW.out).mono ?_); rintro e w ⟨rfl, hd_⟩; replace HS := HS.below hd_.below; clear hd_)
  clear ci cA cB cD c63 c64 fs
  have ci := HS.cell 0 rfl
  have fs := HS.frozen 6 rfl
  have cA : w.cell? ⟨gs, i2.toNat, none⟩ = some (.int .i64 (rd s.regs i2)) := by rw [← HRG.out]; exact (st_cell HS 6 rfl i2.toNat).trans (stL_reg hs1 _ (by omega))
  have cB : w.cell? ⟨gs, i3.toNat, none⟩ = some (.int .i64 (rd s.regs i3)) := by rw [← HRG.out]; exact (st_cell HS 6 rfl i3.toNat).trans (stL_reg hs1 _ (by omega))
  have cD : w.cell? ⟨gs, i1.toNat, none⟩ = some (.int .i64 (rd s.regs i1)) := by rw [← HRG.out]; exact (st_cell HS 6 rfl i1.toNat).trans (stL_reg hs1 _ (by omega))
  have c63 : w.cell? ⟨gs, 63, none⟩ = some (.int .i64 (rd s.regs 63)) := by rw [← HRG.out]; exact (st_cell HS 6 rfl 63).trans (stL_reg hs1 63 (by decide))
  have c64 : w.cell? ⟨gs, 64, none⟩ = some (.int .i64 pc) := by rw [← HP1.out]; exact (st_cell HS 6 rfl 64).trans (stL_pc hs1)
  have HCC := Aside0.mk (stop1_calls (g6 := 0) (s := s1) (2) hs1 (by simp) HS.tail)
  go_wp2_with (first | (go_at_call 23; (with_reducible refine (HCC.out).mono ?_); rintro e w_ ⟨vs_, rfl, HS_⟩; clear HS; have HS := HS_; clear HS_) | ((with_reducible refine gate_store (t := 32) (p := 6) rfl ?_); go_must (refine ev_store HS 2 rfl rfl 32 (.tmp 6) (.tmp 123) rfl rfl rfl (stL (stopF s1 (2))) rfl (len32 (s := stopF s1 (2)) hs1) (by rw [stL_length (s := stopF s1 (2)) hs1]; rfl) (stL_one _) ?_); clear HS; intro w HS))
  obtain rfl := HPC.out
  obtain rfl := HS1.out
  have hrr := HRR.out
  obtain rfl := HXX.out
  obtain rfl := hrr
  exact bodyPost_ret (results_ctt Try.results14 _ _ g6 _ _ (0, 0) _ rfl (HS.blk 2 rfl) Try.underlying32 rfl (size32 hs1)) rfl ⟨_, _, _, _, rfl, (((HS.front 1 rfl).front 1 rfl).erase 2)⟩

set_option maxRecDepth 100000 in
set_option maxHeartbeats 4000000 in
theorem one_op_ok (i1 i2 i3 i4 i5 : Int) (hC : ∀ w, Sat W0 w L → Kd.C k58 w A code.length code) (hM : ∀ w, Sat W0 w L → Kd.C (Kd.int .i64) w Am0 m.length m) (hml : m.length ≤ 1000000) (hs : s.regs.length = 64) (h0 : 0 ≤ s.pc) (h1 : s.pc < (code.length : Int)) (hi : rd_T58 code s.pc = ⟨3, i1, i2, i3, i4, i5⟩) (hf : Fit (⟨3, i1, i2, i3, i4, i5⟩ : S58)) (hb4 : (i4 == 4) = false) (hb5 : (i4 == 5) = false) (hq : (doW i4 (rd s.regs i2) (rd s.regs i3)).2 = true) (r : St × List Int × List S53) (hr : r = ({ s with steps := wrap64 (s.steps + 1), regs := s.regs.set i1.toNat (doW i4 (rd s.regs i2) (rd s.regs i3)).1, pc := wrap64 (s.pc + 1) }, m, [⟨1, s.pc, 0⟩])) (HS : Sat W0 w L) :
    Calls Try.prog 14 #[.slice A code.length c, .agg (stL s).toArray, .slice Am0 m.length cm0] w (OnePost W0 L r) := by
  have HRR := Aside0.mk hr
  clear hr
  obtain ⟨d0, d1, a0, a1, b0, b1⟩ := hf
  dsimp only at d0 d1 a0 a1 b0 b1
  go_enter Try.func14, Try.ntmps14
  go_upto_region 1 with (first | ((with_reducible refine gate_dst (N := 4) rfl ?_); go_must (refine ev_box HS rfl (N := 4) rfl (cs := (stL s).toArray) (t := 32) ?hrun ?_); (case hrun => first | (go_simp; done) | (go_simp; rfl)); clear HS; intro gs w HS) | ((with_reducible refine gate_dst (N := 6) rfl ?_); go_must (refine ev_box HS rfl (N := 6) rfl (cs := (stL z0).toArray) (t := 32) ?hrun ?_); (case hrun => first | (go_simp; done) | (go_simp; rfl)); clear HS; intro g6 w HS))
  go_upto_region 2 with (first | ((with_reducible refine gate_dst (N := 20) rfl ?_); go_must (refine ev_lit IW (e := 2) HS rfl (N := 20) rfl (xs := ([] : List Int)) (inner := []) ?hrun (Reps.none _ _) (by first | decide | simp) ?_); (case hrun => first | (go_simp; done) | (go_simp; rfl)); clear HS; intro gl w HS) | (((with_reducible refine gate_builtin (b := .append) (xs := #[.tmp 20, .tmp 21]) rfl ?_); go_must (refine ev_append IW HS 0 (.tmp 20) (.tmp 21) 35 2 (.int .i64 0) 8 rfl (hM _ HS.tail.tail.tail) (fun _ _ h => h) rfl rfl rfl rfl Try.underlying35 info2 rfl (by decide) (by omega) ((by simp; omega)) ?_); clear HS; intro vm w HS); rw [List.nil_append] at HS; obtain ⟨Am, cm, rfl⟩ := HS.slice 0 rfl) | (((with_reducible refine gate_dst (N := 9) rfl ?_); go_must (refine ev_box HS rfl (N := 9) rfl (cs := #[.slice none 0 0]) (t := 35) ?hrun ?_); (case hrun => first | (go_simp; done) | (go_simp; rfl)); clear HS; intro gm w HS); have cz := HS.cell 0 rfl; have fz := HS.frozen 0 rfl))
  refine wp_sat (varset HS 0 rfl) (fun w HS => ?_)
  clear cz fz
  have fs := HS.frozen 3 rfl
  have c68 := (st_cell HS 3 rfl 68).trans (stL_steps hs)
  go_upto_region 3 with (fail)
  refine wp_sat (stset (s' := { s with steps := wrap64 (s.steps + 1) }) HS 3 rfl 68 (.int .i64 (wrap64 (s.steps + 1))) (set_steps hs _)) (fun w HS => ?_)
  clear fs c68
  obtain ⟨pc, hpc⟩ : ∃ pc, pc = s.pc := ⟨_, rfl⟩
  rw [← hpc] at h0 h1 hi
  have HPC := Aside0.mk hpc
  clear hpc
  obtain ⟨s1, hs1e⟩ : ∃ s1 : St, s1 = { s with steps := wrap64 (s.steps + 1) } := ⟨_, rfl⟩
  rw [← hs1e] at HS
  have hs1 : s1.regs.length = 64 := by rw [hs1e]; exact hs
  have HP1 := Aside0.mk (show s1.pc = pc by rw [hs1e, HPC.out])
  have HRG := Aside0.mk (show s1.regs = s.regs by rw [hs1e])
  have HS1 := Aside0.mk hs1e
  clear hs1e
  have c64 : w.cell? ⟨gs, 64, none⟩ = some (.int .i64 pc) := by rw [← HP1.out]; exact (st_cell HS 3 rfl 64).trans (stL_pc hs1)
  go_upto_region 4 with (first | ((with_reducible refine gate_dst (N := 30) rfl ?_); go_must (refine ev_lit k53 (e := 53) HS rfl (N := 30) rfl (xs := [⟨1, pc, 0⟩]) (inner := [.int .i64 1, .int .i64 pc, .int .i64 0]) ?hrun (reps1 ⟨1, pc, 0⟩) (by first | decide | simp) ?_); (case hrun => first | (go_simp; done) | (go_simp; rfl)); clear HS; intro go1 w HS) | (((with_reducible refine gate_dst (N := 10) rfl ?_); go_must (refine ev_box HS rfl (N := 10) rfl (cs := #[.slice none 0 0]) (t := 37) ?hrun ?_); (case hrun => first | (go_simp; done) | (go_simp; rfl)); clear HS; intro go w HS); have cz := HS.cell 0 rfl; have fz := HS.frozen 0 rfl))
  refine wp_sat (varset HS 0 rfl) (fun w HS => ?_)
  clear cz fz c64
  have c64 : w.cell? ⟨gs, 64, none⟩ = some (.int .i64 pc) := by rw [← HP1.out]; exact (st_cell HS 5 rfl 64).trans (stL_pc hs1)
  have h0b : decide (pc < 0) = false := decide_eq_false (by omega)
  have h1b : decide ((code.length : Int) ≤ pc) = false := decide_eq_false (by omega)
  obtain ⟨ad, rfl, x0, x1, x2, x3, x4, x5⟩ := at_T58 (hC w HS.tail.tail.tail.tail.tail.tail) pc h0 h1
  rw [hi] at x0 x1 x2 x3 x4 x5
  dsimp only at x0 x1 x2 x3 x4 x5
  have q1 := eq_true h0
  have q2 := eq_true h1
  have HI := Aside0.mk hi
  have HH := Aside0.mk (And.intro h0 h1)
  clear hi h0 h1
  go_upto_region 8 with (first | ((with_reducible refine gate_dst (N := 12) rfl ?_); go_must (refine ev_box HS rfl (N := 12) rfl (cs := #[.int .i64 0, .int .i64 0, .int .i64 0, .int .i64 0, .int .i64 0, .int .i64 0]) (t := 58) ?hrun ?_); (case hrun => first | (go_simp; done) | (go_simp; rfl)); clear HS; intro gi w HS) | ((with_reducible refine gate_store (t := 58) (p := 12) rfl ?_); go_must (refine ev_store HS 0 rfl rfl 58 (.tmp 12) (.tmp 51) rfl rfl rfl [.int .i64 (3), .int .i64 i1, .int .i64 i2, .int .i64 i3, .int .i64 i4, .int .i64 i5] ?hx (by kernel_rfl) (by rfl) ?h1 ?_); (case hx => first | rfl | (go_simp; done)); (case h1 => simp [Value.oneCell']); clear HS; intro w HS))
  clear x0 x1 x2 x3 x4 x5 q1 q2 h0b h1b c64
  have ci := HS.cell 0 rfl
  have fs := HS.frozen 6 rfl
  have cA : w.cell? ⟨gs, i2.toNat, none⟩ = some (.int .i64 (rd s.regs i2)) := by rw [← HRG.out]; exact (st_cell HS 6 rfl i2.toNat).trans (stL_reg hs1 _ (by omega))
  have cB : w.cell? ⟨gs, i3.toNat, none⟩ = some (.int .i64 (rd s.regs i3)) := by rw [← HRG.out]; exact (st_cell HS 6 rfl i3.toNat).trans (stL_reg hs1 _ (by omega))
  have cD : w.cell? ⟨gs, i1.toNat, none⟩ = some (.int .i64 (rd s.regs i1)) := by rw [← HRG.out]; exact (st_cell HS 6 rfl i1.toNat).trans (stL_reg hs1 _ (by omega))
  have c63 : w.cell? ⟨gs, 63, none⟩ = some (.int .i64 (rd s.regs 63)) := by rw [← HRG.out]; exact (st_cell HS 6 rfl 63).trans (stL_reg hs1 63 (by decide))
  have c64 : w.cell? ⟨gs, 64, none⟩ = some (.int .i64 pc) := by rw [← HP1.out]; exact (st_cell HS 6 rfl 64).trans (stL_pc hs1)
  go_upto_region 9 with (fail)
  go_wp2
  go_still_tail 8, (by kernel_rfl)
  simp only [i64_w]
  (replace HS := HS.drew; (first | show Exit.then _ _ _ _ (World.drew w) | show wpList _ _ _ _ _ (World.drew w)); generalize World.drew w = w at HS ⊢)
  obtain ⟨X, hX⟩ : ∃ X, X = wrap64 (rd s.regs i2 + i5) := ⟨_, rfl⟩
  rw [← hX]
  have HXX := Aside0.mk hX
  clear hX
  clear ci cA cB cD c63 c64 fs
  have ci := HS.cell 0 rfl
  have fs := HS.frozen 6 rfl
  have cA : w.cell? ⟨gs, i2.toNat, none⟩ = some (.int .i64 (rd s.regs i2)) := by rw [← HRG.out]; exact (st_cell HS 6 rfl i2.toNat).trans (stL_reg hs1 _ (by omega))
  have cB : w.cell? ⟨gs, i3.toNat, none⟩ = some (.int .i64 (rd s.regs i3)) := by rw [← HRG.out]; exact (st_cell HS 6 rfl i3.toNat).trans (stL_reg hs1 _ (by omega))
  have cD : w.cell? ⟨gs, i1.toNat, none⟩ = some (.int .i64 (rd s.regs i1)) := by rw [← HRG.out]; exact (st_cell HS 6 rfl i1.toNat).trans (stL_reg hs1 _ (by omega))
  have c63 : w.cell? ⟨gs, 63, none⟩ = some (.int .i64 (rd s.regs 63)) := by rw [← HRG.out]; exact (st_cell HS 6 rfl 63).trans (stL_reg hs1 63 (by decide))
  have c64 : w.cell? ⟨gs, 64, none⟩ = some (.int .i64 pc) := by rw [← HP1.out]; exact (st_cell HS 6 rfl 64).trans (stL_pc hs1)
  have HDW := Aside0.mk (show word_Do.f 2 i4 (rd s.regs i2) (rd s.regs i3) = some ((doW i4 (rd s.regs i2) (rd s.regs i3)).1, true) from by rw [doW_some, ← hq])
  clear hq
  go_upto_region 21 with (fail)
  go_upto_region 22 with (go_at_call 25; (with_reducible refine (word_Do.calls 2 i4 (rd s.regs i2) (rd s.regs i3) _ _ _ HDW.out).mono ?_); rintro e w ⟨rfl, hd_⟩; replace HS := HS.below hd_.below; clear hd_)
  clear ci cA cB cD c63 c64 fs
  have ci := HS.cell 0 rfl
  have fs := HS.frozen 6 rfl
  have cA : w.cell? ⟨gs, i2.toNat, none⟩ = some (.int .i64 (rd s.regs i2)) := by rw [← HRG.out]; exact (st_cell HS 6 rfl i2.toNat).trans (stL_reg hs1 _ (by omega))
  have cB : w.cell? ⟨gs, i3.toNat, none⟩ = some (.int .i64 (rd s.regs i3)) := by rw [← HRG.out]; exact (st_cell HS 6 rfl i3.toNat).trans (stL_reg hs1 _ (by omega))
  have cD : w.cell? ⟨gs, i1.toNat, none⟩ = some (.int .i64 (rd s.regs i1)) := by rw [← HRG.out]; exact (st_cell HS 6 rfl i1.toNat).trans (stL_reg hs1 _ (by omega))
  have c63 : w.cell? ⟨gs, 63, none⟩ = some (.int .i64 (rd s.regs 63)) := by rw [← HRG.out]; exact (st_cell HS 6 rfl 63).trans (stL_reg hs1 63 (by decide))
  have c64 : w.cell? ⟨gs, 64, none⟩ = some (.int .i64 pc) := by rw [← HP1.out]; exact (st_cell HS 6 rfl 64).trans (stL_pc hs1)
  go_upto_region 61 with (fail)
  refine wp_sat (stset (s' := ({ s1 with regs := s.regs.set i1.toNat ((doW i4 (rd s.regs i2) (rd s.regs i3)).1) } : St)) HS 6 rfl i1.toNat (.int .i64 ((doW i4 (rd s.regs i2) (rd s.regs i3)).1)) (by rw [← HRG.out]; exact set_reg hs1 _ (by omega) _)) (fun w HS => ?_)
  have hs2 : (s.regs.set i1.toNat ((doW i4 (rd s.regs i2) (rd s.regs i3)).1)).length = 64 := by rw [List.length_set]; exact hs
  clear ci cA cB cD c63 c64 fs
  have fs := HS.frozen 6 rfl
  have c64 : w.cell? ⟨gs, 64, none⟩ = some (.int .i64 pc) := by rw [← HP1.out]; exact (st_cell HS 6 rfl 64).trans (stL_pc (s := ({ s1 with regs := s.regs.set i1.toNat ((doW i4 (rd s.regs i2) (rd s.regs i3)).1) } : St)) hs2)
  go_upto_region 62 with (fail)
  refine wp_sat (stset (s := ({ s1 with regs := s.regs.set i1.toNat ((doW i4 (rd s.regs i2) (rd s.regs i3)).1) } : St)) (s' := ({ s1 with regs := s.regs.set i1.toNat ((doW i4 (rd s.regs i2) (rd s.regs i3)).1), pc := wrap64 (pc + 1) } : St)) HS 6 rfl 64 (.int .i64 (wrap64 (pc + 1))) (set_pc (s := ({ s1 with regs := s.regs.set i1.toNat ((doW i4 (rd s.regs i2) (rd s.regs i3)).1) } : St)) hs2 _)) (fun w HS => ?_)
  clear fs c64
  refine start_ (n := 6) (S := fun w' => ∃ L', Sat W0 w' (blk gs 32 (stL ({ s1 with regs := s.regs.set i1.toNat ((doW i4 (rd s.regs i2) (rd s.regs i3)).1), pc := wrap64 (pc + 1) } : St)).toArray :: blk gm 35 #[.slice Am m.length cm] :: blk go 37 #[.slice (some ⟨go1, 0, none⟩) 1 1] :: L')) (ds := []) #[false, false, false, false, false, false] (by kernel_rfl) rfl rfl ⟨_, (((HS.drew.front 1 rfl).front 3 rfl).front 6 rfl)⟩ (fun hHeld => ?_)
  replace HS := HS.drew
  generalize World.drew w = w at HS hHeld ⊢
  refine take_ (i := 0) (N := some 300) (v := ?_) (a' := ?_) #[true, false, false, false, false, false] rfl rfl (by kernel_rfl) (fun _ _ _ h => h) (Or.inl ⟨by rfl, ?_⟩) hHeld ?_ ?_
  rotate_left
  · rintro w' ⟨L', hS⟩
    refine whole_run hS 0 rfl 32 (.tmp 4) ?_ ?_ _ Try.underlying32 rfl (size32 hs2) <;> rfl
  rotate_left
  · (try simp only [Act.put, List.setIfInBounds_toArray, List.set_cons_zero, List.set_cons_succ, i64_w, i32_w])
    rfl
  refine take_ (i := 1) (N := some 301) (v := ?_) (a' := ?_) #[true, true, false, false, false, false] rfl rfl (by kernel_rfl) (fun _ _ _ h => h) (Or.inl ⟨by rfl, ?_⟩) hHeld ?_ ?_
  rotate_left
  · rintro w' ⟨L', hS⟩
    have cm_ := hS.cell 1 rfl
    have co_ := hS.cell 2 rfl
    go_simp
    with_reducible rfl
  rotate_left
  · (try simp only [Act.put, List.setIfInBounds_toArray, List.set_cons_zero, List.set_cons_succ, i64_w, i32_w])
    rfl
  refine take_ (i := 2) (N := some 302) (v := ?_) (a' := ?_) #[true, true, true, false, false, false] rfl rfl (by kernel_rfl) (fun _ _ _ h => h) (Or.inl ⟨by rfl, ?_⟩) hHeld ?_ ?_
  rotate_left
  · rintro w' ⟨L', hS⟩
    have cm_ := hS.cell 1 rfl
    have co_ := hS.cell 2 rfl
    go_simp
    with_reducible rfl
  rotate_left
  · (try simp only [Act.put, List.setIfInBounds_toArray, List.set_cons_zero, List.set_cons_succ, i64_w, i32_w])
    rfl
  refine one_ (i := 3) (N := none) #[true, true, true, true, false, false] rfl rfl (by kernel_rfl) (by decide) (fun K hK => ?_)
  refine ev_store_step HS 5 rfl (by rfl) 32 (.tmp 6) (.tmp 300) rfl rfl rfl (stL ({ s1 with regs := s.regs.set i1.toNat ((doW i4 (rd s.regs i2) (rd s.regs i3)).1), pc := wrap64 (pc + 1) } : St)) rfl (len32 hs2) (by rw [stL_length (s := ({ s1 with regs := s.regs.set i1.toNat ((doW i4 (rd s.regs i2) (rd s.regs i3)).1), pc := wrap64 (pc + 1) } : St)) hs2]; rfl) (stL_one _) ?_
  clear HS
  intro w HS
  refine hK.out _ _ ⟨_, (((HS.front 1 rfl).front 3 rfl).front 6 rfl)⟩ (fun hHeld => ?_)
  clear hK K
  refine pure_ (i := 4) (N := some 7) (v := ?_) (a' := ?_) #[true, true, true, true, true, false] rfl rfl (by kernel_rfl) (fun _ _ _ h => h) (Or.inl ⟨by rfl, ?_⟩) ?_ ?_
  rotate_left
  · intro w'
    go_simp
    with_reducible rfl
  rotate_left
  · (try simp only [Act.put, List.setIfInBounds_toArray, List.set_cons_zero, List.set_cons_succ, i64_w, i32_w])
    rfl
  refine pure_ (i := 5) (N := some 8) (v := ?_) (a' := ?_) #[true, true, true, true, true, true] rfl rfl (by kernel_rfl) (fun _ _ _ h => h) (Or.inl ⟨by rfl, ?_⟩) ?_ ?_
  rotate_left
  · intro w'
    go_simp
    with_reducible rfl
  rotate_left
  · (try simp only [Act.put, List.setIfInBounds_toArray, List.set_cons_zero, List.set_cons_succ, i64_w, i32_w])
    rfl
  refine done_ (by kernel_rfl) ?_
  clear hHeld
  go_wp2
  obtain rfl := HPC.out
  obtain rfl := HS1.out
  have hrr := HRR.out
  obtain rfl := HXX.out
  obtain rfl := hrr
  exact bodyPost_ret (results_ctt Try.results14 _ _ g6 _ _ (0, 0) _ rfl (HS.blk 5 rfl) Try.underlying32 rfl (size32 hs2)) rfl ⟨_, _, _, _, rfl, (((((((HS.front 4 rfl).front 3 rfl).erase 2).erase 2).erase 2).erase 2).erase 2)⟩

set_option maxRecDepth 100000 in
set_option maxHeartbeats 4000000 in
theorem one_op_no (i1 i2 i3 i4 i5 : Int) (hC : ∀ w, Sat W0 w L → Kd.C k58 w A code.length code) (hM : ∀ w, Sat W0 w L → Kd.C (Kd.int .i64) w Am0 m.length m) (hml : m.length ≤ 1000000) (hs : s.regs.length = 64) (h0 : 0 ≤ s.pc) (h1 : s.pc < (code.length : Int)) (hi : rd_T58 code s.pc = ⟨3, i1, i2, i3, i4, i5⟩) (hf : Fit (⟨3, i1, i2, i3, i4, i5⟩ : S58)) (hb4 : (i4 == 4) = false) (hb5 : (i4 == 5) = false) (hq : (doW i4 (rd s.regs i2) (rd s.regs i3)).2 = false) (r : St × List Int × List S53) (hr : r = (stopF { s with steps := wrap64 (s.steps + 1) } 2, m, [⟨1, s.pc, 0⟩, ⟨5, 2, 0⟩])) (HS : Sat W0 w L) :
    Calls Try.prog 14 #[.slice A code.length c, .agg (stL s).toArray, .slice Am0 m.length cm0] w (OnePost W0 L r) := by
  have HRR := Aside0.mk hr
  clear hr
  obtain ⟨d0, d1, a0, a1, b0, b1⟩ := hf
  dsimp only at d0 d1 a0 a1 b0 b1
  go_enter Try.func14, Try.ntmps14
  go_upto_region 1 with (first | ((with_reducible refine gate_dst (N := 4) rfl ?_); go_must (refine ev_box HS rfl (N := 4) rfl (cs := (stL s).toArray) (t := 32) ?hrun ?_); (case hrun => first | (go_simp; done) | (go_simp; rfl)); clear HS; intro gs w HS) | ((with_reducible refine gate_dst (N := 6) rfl ?_); go_must (refine ev_box HS rfl (N := 6) rfl (cs := (stL z0).toArray) (t := 32) ?hrun ?_); (case hrun => first | (go_simp; done) | (go_simp; rfl)); clear HS; intro g6 w HS))
  go_upto_region 2 with (first | ((with_reducible refine gate_dst (N := 20) rfl ?_); go_must (refine ev_lit IW (e := 2) HS rfl (N := 20) rfl (xs := ([] : List Int)) (inner := []) ?hrun (Reps.none _ _) (by first | decide | simp) ?_); (case hrun => first | (go_simp; done) | (go_simp; rfl)); clear HS; intro gl w HS) | (((with_reducible refine gate_builtin (b := .append) (xs := #[.tmp 20, .tmp 21]) rfl ?_); go_must (refine ev_append IW HS 0 (.tmp 20) (.tmp 21) 35 2 (.int .i64 0) 8 rfl (hM _ HS.tail.tail.tail) (fun _ _ h => h) rfl rfl rfl rfl Try.underlying35 info2 rfl (by decide) (by omega) ((by simp; omega)) ?_); clear HS; intro vm w HS); rw [List.nil_append] at HS; obtain ⟨Am, cm, rfl⟩ := HS.slice 0 rfl) | (((with_reducible refine gate_dst (N := 9) rfl ?_); go_must (refine ev_box HS rfl (N := 9) rfl (cs := #[.slice none 0 0]) (t := 35) ?hrun ?_); (case hrun => first | (go_simp; done) | (go_simp; rfl)); clear HS; intro gm w HS); have cz := HS.cell 0 rfl; have fz := HS.frozen 0 rfl))
  refine wp_sat (varset HS 0 rfl) (fun w HS => ?_)
  clear cz fz
  have fs := HS.frozen 3 rfl
  have c68 := (st_cell HS 3 rfl 68).trans (stL_steps hs)
  go_upto_region 3 with (fail)
  refine wp_sat (stset (s' := { s with steps := wrap64 (s.steps + 1) }) HS 3 rfl 68 (.int .i64 (wrap64 (s.steps + 1))) (set_steps hs _)) (fun w HS => ?_)
  clear fs c68
  obtain ⟨pc, hpc⟩ : ∃ pc, pc = s.pc := ⟨_, rfl⟩
  rw [← hpc] at h0 h1 hi
  have HPC := Aside0.mk hpc
  clear hpc
  obtain ⟨s1, hs1e⟩ : ∃ s1 : St, s1 = { s with steps := wrap64 (s.steps + 1) } := ⟨_, rfl⟩
  rw [← hs1e] at HS
  have hs1 : s1.regs.length = 64 := by rw [hs1e]; exact hs
  have HP1 := Aside0.mk (show s1.pc = pc by rw [hs1e, HPC.out])
  have HRG := Aside0.mk (show s1.regs = s.regs by rw [hs1e])
  have HS1 := Aside0.mk hs1e
  clear hs1e
  have c64 : w.cell? ⟨gs, 64, none⟩ = some (.int .i64 pc) := by rw [← HP1.out]; exact (st_cell HS 3 rfl 64).trans (stL_pc hs1)
  go_upto_region 4 with (first | ((with_reducible refine gate_dst (N := 30) rfl ?_); go_must (refine ev_lit k53 (e := 53) HS rfl (N := 30) rfl (xs := [⟨1, pc, 0⟩]) (inner := [.int .i64 1, .int .i64 pc, .int .i64 0]) ?hrun (reps1 ⟨1, pc, 0⟩) (by first | decide | simp) ?_); (case hrun => first | (go_simp; done) | (go_simp; rfl)); clear HS; intro go1 w HS) | (((with_reducible refine gate_dst (N := 10) rfl ?_); go_must (refine ev_box HS rfl (N := 10) rfl (cs := #[.slice none 0 0]) (t := 37) ?hrun ?_); (case hrun => first | (go_simp; done) | (go_simp; rfl)); clear HS; intro go w HS); have cz := HS.cell 0 rfl; have fz := HS.frozen 0 rfl))
  refine wp_sat (varset HS 0 rfl) (fun w HS => ?_)
  clear cz fz c64
  have c64 : w.cell? ⟨gs, 64, none⟩ = some (.int .i64 pc) := by rw [← HP1.out]; exact (st_cell HS 5 rfl 64).trans (stL_pc hs1)
  have h0b : decide (pc < 0) = false := decide_eq_false (by omega)
  have h1b : decide ((code.length : Int) ≤ pc) = false := decide_eq_false (by omega)
  obtain ⟨ad, rfl, x0, x1, x2, x3, x4, x5⟩ := at_T58 (hC w HS.tail.tail.tail.tail.tail.tail) pc h0 h1
  rw [hi] at x0 x1 x2 x3 x4 x5
  dsimp only at x0 x1 x2 x3 x4 x5
  have q1 := eq_true h0
  have q2 := eq_true h1
  have HI := Aside0.mk hi
  have HH := Aside0.mk (And.intro h0 h1)
  clear hi h0 h1
  go_upto_region 8 with (first | ((with_reducible refine gate_dst (N := 12) rfl ?_); go_must (refine ev_box HS rfl (N := 12) rfl (cs := #[.int .i64 0, .int .i64 0, .int .i64 0, .int .i64 0, .int .i64 0, .int .i64 0]) (t := 58) ?hrun ?_); (case hrun => first | (go_simp; done) | (go_simp; rfl)); clear HS; intro gi w HS) | ((with_reducible refine gate_store (t := 58) (p := 12) rfl ?_); go_must (refine ev_store HS 0 rfl rfl 58 (.tmp 12) (.tmp 51) rfl rfl rfl [.int .i64 (3), .int .i64 i1, .int .i64 i2, .int .i64 i3, .int .i64 i4, .int .i64 i5] ?hx (by kernel_rfl) (by rfl) ?h1 ?_); (case hx => first | rfl | (go_simp; done)); (case h1 => simp [Value.oneCell']); clear HS; intro w HS))
  clear x0 x1 x2 x3 x4 x5 q1 q2 h0b h1b c64
  have ci := HS.cell 0 rfl
  have fs := HS.frozen 6 rfl
  have cA : w.cell? ⟨gs, i2.toNat, none⟩ = some (.int .i64 (rd s.regs i2)) := by rw [← HRG.out]; exact (st_cell HS 6 rfl i2.toNat).trans (stL_reg hs1 _ (by omega))
  have cB : w.cell? ⟨gs, i3.toNat, none⟩ = some (.int .i64 (rd s.regs i3)) := by rw [← HRG.out]; exact (st_cell HS 6 rfl i3.toNat).trans (stL_reg hs1 _ (by omega))
  have cD : w.cell? ⟨gs, i1.toNat, none⟩ = some (.int .i64 (rd s.regs i1)) := by rw [← HRG.out]; exact (st_cell HS 6 rfl i1.toNat).trans (stL_reg hs1 _ (by omega))
  have c63 : w.cell? ⟨gs, 63, none⟩ = some (.int .i64 (rd s.regs 63)) := by rw [← HRG.out]; exact (st_cell HS 6 rfl 63).trans (stL_reg hs1 63 (by decide))
  have c64 : w.cell? ⟨gs, 64, none⟩ = some (.int .i64 pc) := by rw [← HP1.out]; exact (st_cell HS 6 rfl 64).trans (stL_pc hs1)
  go_upto_region 9 with (fail)
  go_wp2
  go_still_tail 8, (by kernel_rfl)
  simp only [i64_w]
  (replace HS := HS.drew; (first | show Exit.then _ _ _ _ (World.drew w) | show wpList _ _ _ _ _ (World.drew w)); generalize World.drew w = w at HS ⊢)
  obtain ⟨X, hX⟩ : ∃ X, X = wrap64 (rd s.regs i2 + i5) := ⟨_, rfl⟩
  rw [← hX]
  have HXX := Aside0.mk hX
  clear hX
  clear ci cA cB cD c63 c64 fs
  have ci := HS.cell 0 rfl
  have fs := HS.frozen 6 rfl
  have cA : w.cell? ⟨gs, i2.toNat, none⟩ = some (.int .i64 (rd s.regs i2)) := by rw [← HRG.out]; exact (st_cell HS 6 rfl i2.toNat).trans (stL_reg hs1 _ (by omega))
  have cB : w.cell? ⟨gs, i3.toNat, none⟩ = some (.int .i64 (rd s.regs i3)) := by rw [← HRG.out]; exact (st_cell HS 6 rfl i3.toNat).trans (stL_reg hs1 _ (by omega))
  have cD : w.cell? ⟨gs, i1.toNat, none⟩ = some (.int .i64 (rd s.regs i1)) := by rw [← HRG.out]; exact (st_cell HS 6 rfl i1.toNat).trans (stL_reg hs1 _ (by omega))
  have c63 : w.cell? ⟨gs, 63, none⟩ = some (.int .i64 (rd s.regs 63)) := by rw [← HRG.out]; exact (st_cell HS 6 rfl 63).trans (stL_reg hs1 63 (by decide))
  have c64 : w.cell? ⟨gs, 64, none⟩ = some (.int .i64 pc) := by rw [← HP1.out]; exact (st_cell HS 6 rfl 64).trans (stL_pc hs1)
  have HDW := Aside0.mk (show word_Do.f 2 i4 (rd s.regs i2) (rd s.regs i3) = some ((doW i4 (rd s.regs i2) (rd s.regs i3)).1, false) from by rw [doW_some, ← hq])
  clear hq
  go_upto_region 21 with (fail)
  go_upto_region 22 with (go_at_call 25; (with_reducible refine (word_Do.calls 2 i4 (rd s.regs i2) (rd s.regs i3) _ _ _ HDW.out).mono ?_); rintro e w ⟨rfl, hd_⟩; replace HS := HS.below hd_.below; clear hd_)
  clear ci cA cB cD c63 c64 fs
  have ci := HS.cell 0 rfl
  have fs := HS.frozen 6 rfl
  have cA : w.cell? ⟨gs, i2.toNat, none⟩ = some (.int .i64 (rd s.regs i2)) := by rw [← HRG.out]; exact (st_cell HS 6 rfl i2.toNat).trans (stL_reg hs1 _ (by omega))
  have cB : w.cell? ⟨gs, i3.toNat, none⟩ = some (.int .i64 (rd s.regs i3)) := by rw [← HRG.out]; exact (st_cell HS 6 rfl i3.toNat).trans (stL_reg hs1 _ (by omega))
  have cD : w.cell? ⟨gs, i1.toNat, none⟩ = some (.int .i64 (rd s.regs i1)) := by rw [← HRG.out]; exact (st_cell HS 6 rfl i1.toNat).trans (stL_reg hs1 _ (by omega))
  have c63 : w.cell? ⟨gs, 63, none⟩ = some (.int .i64 (rd s.regs 63)) := by rw [← HRG.out]; exact (st_cell HS 6 rfl 63).trans (stL_reg hs1 63 (by decide))
  have c64 : w.cell? ⟨gs, 64, none⟩ = some (.int .i64 pc) := by rw [← HP1.out]; exact (st_cell HS 6 rfl 64).trans (stL_pc hs1)
  have HCC := Aside0.mk (stop1_calls (g6 := 0) (s := s1) (2) hs1 (by simp) HS.tail)
  go_wp2_with (first | (go_at_call 23; (with_reducible refine (HCC.out).mono ?_); rintro e w_ ⟨vs_, rfl, HS_⟩; clear HS; have HS := HS_; clear HS_) | ((with_reducible refine gate_store (t := 32) (p := 6) rfl ?_); go_must (refine ev_store HS 2 rfl rfl 32 (.tmp 6) (.tmp 123) rfl rfl rfl (stL (stopF s1 (2))) rfl (len32 (s := stopF s1 (2)) hs1) (by rw [stL_length (s := stopF s1 (2)) hs1]; rfl) (stL_one _) ?_); clear HS; intro w HS))
  obtain rfl := HPC.out
  obtain rfl := HS1.out
  have hrr := HRR.out
  obtain rfl := HXX.out
  obtain rfl := hrr
  exact bodyPost_ret (results_ctt Try.results14 _ _ g6 _ _ (0, 0) _ rfl (HS.blk 2 rfl) Try.underlying32 rfl (size32 hs1)) rfl ⟨_, _, _, _, rfl, (((HS.front 1 rfl).front 1 rfl).erase 2)⟩

set_option maxRecDepth 100000 in
set_option maxHeartbeats 4000000 in
theorem one_if_yes (i1 i2 i3 i4 i5 : Int) (hC : ∀ w, Sat W0 w L → Kd.C k58 w A code.length code) (hM : ∀ w, Sat W0 w L → Kd.C (Kd.int .i64) w Am0 m.length m) (hml : m.length ≤ 1000000) (hs : s.regs.length = 64) (h0 : 0 ≤ s.pc) (h1 : s.pc < (code.length : Int)) (hi : rd_T58 code s.pc = ⟨7, i1, i2, i3, i4, i5⟩) (hf : Fit (⟨7, i1, i2, i3, i4, i5⟩ : S58)) (hz : (rd s.regs i2 == 0) = false) (r : St × List Int × List S53) (hr : r = ({ s with steps := wrap64 (s.steps + 1), pc := i5 }, m, [⟨1, s.pc, 0⟩, ⟨3, 1, 0⟩])) (HS : Sat W0 w L) :
    Calls Try.prog 14 #[.slice A code.length c, .agg (stL s).toArray, .slice Am0 m.length cm0] w (OnePost W0 L r) := by
  have HRR := Aside0.mk hr
  clear hr
  obtain ⟨d0, d1, a0, a1, b0, b1⟩ := hf
  dsimp only at d0 d1 a0 a1 b0 b1
  go_enter Try.func14, Try.ntmps14
  go_upto_region 1 with (first | ((with_reducible refine gate_dst (N := 4) rfl ?_); go_must (refine ev_box HS rfl (N := 4) rfl (cs := (stL s).toArray) (t := 32) ?hrun ?_); (case hrun => first | (go_simp; done) | (go_simp; rfl)); clear HS; intro gs w HS) | ((with_reducible refine gate_dst (N := 6) rfl ?_); go_must (refine ev_box HS rfl (N := 6) rfl (cs := (stL z0).toArray) (t := 32) ?hrun ?_); (case hrun => first | (go_simp; done) | (go_simp; rfl)); clear HS; intro g6 w HS))
  go_upto_region 2 with (first | ((with_reducible refine gate_dst (N := 20) rfl ?_); go_must (refine ev_lit IW (e := 2) HS rfl (N := 20) rfl (xs := ([] : List Int)) (inner := []) ?hrun (Reps.none _ _) (by first | decide | simp) ?_); (case hrun => first | (go_simp; done) | (go_simp; rfl)); clear HS; intro gl w HS) | (((with_reducible refine gate_builtin (b := .append) (xs := #[.tmp 20, .tmp 21]) rfl ?_); go_must (refine ev_append IW HS 0 (.tmp 20) (.tmp 21) 35 2 (.int .i64 0) 8 rfl (hM _ HS.tail.tail.tail) (fun _ _ h => h) rfl rfl rfl rfl Try.underlying35 info2 rfl (by decide) (by omega) ((by simp; omega)) ?_); clear HS; intro vm w HS); rw [List.nil_append] at HS; obtain ⟨Am, cm, rfl⟩ := HS.slice 0 rfl) | (((with_reducible refine gate_dst (N := 9) rfl ?_); go_must (refine ev_box HS rfl (N := 9) rfl (cs := #[.slice none 0 0]) (t := 35) ?hrun ?_); (case hrun => first | (go_simp; done) | (go_simp; rfl)); clear HS; intro gm w HS); have cz := HS.cell 0 rfl; have fz := HS.frozen 0 rfl))
  refine wp_sat (varset HS 0 rfl) (fun w HS => ?_)
  clear cz fz
  have fs := HS.frozen 3 rfl
  have c68 := (st_cell HS 3 rfl 68).trans (stL_steps hs)
  go_upto_region 3 with (fail)
  refine wp_sat (stset (s' := { s with steps := wrap64 (s.steps + 1) }) HS 3 rfl 68 (.int .i64 (wrap64 (s.steps + 1))) (set_steps hs _)) (fun w HS => ?_)
  clear fs c68
  obtain ⟨pc, hpc⟩ : ∃ pc, pc = s.pc := ⟨_, rfl⟩
  rw [← hpc] at h0 h1 hi
  have HPC := Aside0.mk hpc
  clear hpc
  obtain ⟨s1, hs1e⟩ : ∃ s1 : St, s1 = { s with steps := wrap64 (s.steps + 1) } := ⟨_, rfl⟩
  rw [← hs1e] at HS
  have hs1 : s1.regs.length = 64 := by rw [hs1e]; exact hs
  have HP1 := Aside0.mk (show s1.pc = pc by rw [hs1e, HPC.out])
  have HRG := Aside0.mk (show s1.regs = s.regs by rw [hs1e])
  have HS1 := Aside0.mk hs1e
  clear hs1e
  have c64 : w.cell? ⟨gs, 64, none⟩ = some (.int .i64 pc) := by rw [← HP1.out]; exact (st_cell HS 3 rfl 64).trans (stL_pc hs1)
  go_upto_region 4 with (first | ((with_reducible refine gate_dst (N := 30) rfl ?_); go_must (refine ev_lit k53 (e := 53) HS rfl (N := 30) rfl (xs := [⟨1, pc, 0⟩]) (inner := [.int .i64 1, .int .i64 pc, .int .i64 0]) ?hrun (reps1 ⟨1, pc, 0⟩) (by first | decide | simp) ?_); (case hrun => first | (go_simp; done) | (go_simp; rfl)); clear HS; intro go1 w HS) | (((with_reducible refine gate_dst (N := 10) rfl ?_); go_must (refine ev_box HS rfl (N := 10) rfl (cs := #[.slice none 0 0]) (t := 37) ?hrun ?_); (case hrun => first | (go_simp; done) | (go_simp; rfl)); clear HS; intro go w HS); have cz := HS.cell 0 rfl; have fz := HS.frozen 0 rfl))
  refine wp_sat (varset HS 0 rfl) (fun w HS => ?_)
  clear cz fz c64
  have c64 : w.cell? ⟨gs, 64, none⟩ = some (.int .i64 pc) := by rw [← HP1.out]; exact (st_cell HS 5 rfl 64).trans (stL_pc hs1)
  have h0b : decide (pc < 0) = false := decide_eq_false (by omega)
  have h1b : decide ((code.length : Int) ≤ pc) = false := decide_eq_false (by omega)
  obtain ⟨ad, rfl, x0, x1, x2, x3, x4, x5⟩ := at_T58 (hC w HS.tail.tail.tail.tail.tail.tail) pc h0 h1
  rw [hi] at x0 x1 x2 x3 x4 x5
  dsimp only at x0 x1 x2 x3 x4 x5
  have q1 := eq_true h0
  have q2 := eq_true h1
  have HI := Aside0.mk hi
  have HH := Aside0.mk (And.intro h0 h1)
  clear hi h0 h1
  go_upto_region 8 with (first | ((with_reducible refine gate_dst (N := 12) rfl ?_); go_must (refine ev_box HS rfl (N := 12) rfl (cs := #[.int .i64 0, .int .i64 0, .int .i64 0, .int .i64 0, .int .i64 0, .int .i64 0]) (t := 58) ?hrun ?_); (case hrun => first | (go_simp; done) | (go_simp; rfl)); clear HS; intro gi w HS) | ((with_reducible refine gate_store (t := 58) (p := 12) rfl ?_); go_must (refine ev_store HS 0 rfl rfl 58 (.tmp 12) (.tmp 51) rfl rfl rfl [.int .i64 (7), .int .i64 i1, .int .i64 i2, .int .i64 i3, .int .i64 i4, .int .i64 i5] ?hx (by kernel_rfl) (by rfl) ?h1 ?_); (case hx => first | rfl | (go_simp; done)); (case h1 => simp [Value.oneCell']); clear HS; intro w HS))
  clear x0 x1 x2 x3 x4 x5 q1 q2 h0b h1b c64
  have ci := HS.cell 0 rfl
  have fs := HS.frozen 6 rfl
  have cA : w.cell? ⟨gs, i2.toNat, none⟩ = some (.int .i64 (rd s.regs i2)) := by rw [← HRG.out]; exact (st_cell HS 6 rfl i2.toNat).trans (stL_reg hs1 _ (by omega))
  have cB : w.cell? ⟨gs, i3.toNat, none⟩ = some (.int .i64 (rd s.regs i3)) := by rw [← HRG.out]; exact (st_cell HS 6 rfl i3.toNat).trans (stL_reg hs1 _ (by omega))
  have cD : w.cell? ⟨gs, i1.toNat, none⟩ = some (.int .i64 (rd s.regs i1)) := by rw [← HRG.out]; exact (st_cell HS 6 rfl i1.toNat).trans (stL_reg hs1 _ (by omega))
  have c63 : w.cell? ⟨gs, 63, none⟩ = some (.int .i64 (rd s.regs 63)) := by rw [← HRG.out]; exact (st_cell HS 6 rfl 63).trans (stL_reg hs1 63 (by decide))
  have c64 : w.cell? ⟨gs, 64, none⟩ = some (.int .i64 pc) := by rw [← HP1.out]; exact (st_cell HS 6 rfl 64).trans (stL_pc hs1)
  go_upto_region 9 with (fail)
  go_wp2
  go_still_tail 8, (by kernel_rfl)
  simp only [i64_w]
  (replace HS := HS.drew; (first | show Exit.then _ _ _ _ (World.drew w) | show wpList _ _ _ _ _ (World.drew w)); generalize World.drew w = w at HS ⊢)
  obtain ⟨X, hX⟩ : ∃ X, X = wrap64 (rd s.regs i2 + i5) := ⟨_, rfl⟩
  rw [← hX]
  have HXX := Aside0.mk hX
  clear hX
  clear ci cA cB cD c63 c64 fs
  have ci := HS.cell 0 rfl
  have fs := HS.frozen 6 rfl
  have cA : w.cell? ⟨gs, i2.toNat, none⟩ = some (.int .i64 (rd s.regs i2)) := by rw [← HRG.out]; exact (st_cell HS 6 rfl i2.toNat).trans (stL_reg hs1 _ (by omega))
  have cB : w.cell? ⟨gs, i3.toNat, none⟩ = some (.int .i64 (rd s.regs i3)) := by rw [← HRG.out]; exact (st_cell HS 6 rfl i3.toNat).trans (stL_reg hs1 _ (by omega))
  have cD : w.cell? ⟨gs, i1.toNat, none⟩ = some (.int .i64 (rd s.regs i1)) := by rw [← HRG.out]; exact (st_cell HS 6 rfl i1.toNat).trans (stL_reg hs1 _ (by omega))
  have c63 : w.cell? ⟨gs, 63, none⟩ = some (.int .i64 (rd s.regs 63)) := by rw [← HRG.out]; exact (st_cell HS 6 rfl 63).trans (stL_reg hs1 63 (by decide))
  have c64 : w.cell? ⟨gs, 64, none⟩ = some (.int .i64 pc) := by rw [← HP1.out]; exact (st_cell HS 6 rfl 64).trans (stL_pc hs1)
  go_upto_region 41 with (fail)
  refine wp_sat (stset (s' := ({ s1 with pc := i5 } : St)) HS 6 rfl 64 (.int .i64 i5) (set_pc hs1 _)) (fun w HS => ?_)
  clear ci cA cB cD c63 c64 fs
  refine start_ (n := 9) (S := fun w' => ∃ L', Sat W0 w' (blk gs 32 (stL ({ s1 with pc := i5 } : St)).toArray :: blk gm 35 #[.slice Am m.length cm] :: blk go 37 #[.slice (some ⟨go1, 0, none⟩) 1 1] :: L')) (ds := []) #[false, false, false, false, false, false, false, false, false] (by kernel_rfl) rfl rfl ⟨_, (((HS.drew.front 1 rfl).front 3 rfl).front 6 rfl)⟩ (fun hHeld => ?_)
  replace HS := HS.drew
  generalize World.drew w = w at HS hHeld ⊢
  refine take_ (i := 0) (N := some 198) (v := ?_) (a' := ?_) #[true, false, false, false, false, false, false, false, false] rfl rfl (by kernel_rfl) (fun _ _ _ h => h) (Or.inl ⟨by rfl, ?_⟩) hHeld ?_ ?_
  rotate_left
  · rintro w' ⟨L', hS⟩
    refine whole_run hS 0 rfl 32 (.tmp 4) ?_ ?_ _ Try.underlying32 rfl (size32 hs1) <;> rfl
  rotate_left
  · (try simp only [Act.put, List.setIfInBounds_toArray, List.set_cons_zero, List.set_cons_succ, i64_w, i32_w])
    rfl
  refine take_ (i := 1) (N := some 199) (v := ?_) (a' := ?_) #[true, true, false, false, false, false, false, false, false] rfl rfl (by kernel_rfl) (fun _ _ _ h => h) (Or.inl ⟨by rfl, ?_⟩) hHeld ?_ ?_
  rotate_left
  · rintro w' ⟨L', hS⟩
    have cm_ := hS.cell 1 rfl
    have co_ := hS.cell 2 rfl
    go_simp
    with_reducible rfl
  rotate_left
  · (try simp only [Act.put, List.setIfInBounds_toArray, List.set_cons_zero, List.set_cons_succ, i64_w, i32_w])
    rfl
  refine take_ (i := 2) (N := some 200) (v := ?_) (a' := ?_) #[true, true, true, false, false, false, false, false, false] rfl rfl (by kernel_rfl) (fun _ _ _ h => h) (Or.inl ⟨by rfl, ?_⟩) hHeld ?_ ?_
  rotate_left
  · rintro w' ⟨L', hS⟩
    have cm_ := hS.cell 1 rfl
    have co_ := hS.cell 2 rfl
    go_simp
    with_reducible rfl
  rotate_left
  · (try simp only [Act.put, List.setIfInBounds_toArray, List.set_cons_zero, List.set_cons_succ, i64_w, i32_w])
    rfl
  refine pure_ (i := 3) (N := some 201) (v := ?_) (a' := ?_) #[true, true, true, true, false, false, false, false, false] rfl rfl (by kernel_rfl) (fun _ _ _ h => h) (Or.inl ⟨by rfl, ?_⟩) ?_ ?_
  rotate_left
  · intro w'
    go_simp
    with_reducible rfl
  rotate_left
  · (try simp only [Act.put, List.setIfInBounds_toArray, List.set_cons_zero, List.set_cons_succ, i64_w, i32_w])
    rfl
  refine one_ (i := 4) (N := some 202) #[true, true, true, true, true, false, false, false, false] rfl rfl (by kernel_rfl) (by decide) (fun K hK => ?_)
  refine ev_lit_step k53 (e := 53) HS (by rfl) (N := 202) rfl (xs := [⟨3, 1, 0⟩]) (inner := [.int .i64 (3), .int .i64 (1), .int .i64 (0)]) ?hrun (reps1 ⟨3, 1, 0⟩) (by simp) ?_
  (case hrun => first | (go_simp; done) | (go_simp; rfl))
  clear HS
  intro gl w HS
  refine hK.out _ _ ⟨_, (((HS.front 2 rfl).front 4 rfl).front 7 rfl)⟩ (fun hHeld => ?_)
  clear hK K
  refine norm_ (a' := ?_) ?_ ?_
  rotate_left
  · show Act.put _ _ _ = _
    (try simp only [Act.put, List.setIfInBounds_toArray, List.set_cons_zero, List.set_cons_succ, i64_w, i32_w])
    rfl
  refine one_ (i := 5) (N := some 203) #[true, true, true, true, true, true, false, false, false] rfl rfl (by kernel_rfl) (by decide) (fun K hK => ?_)
  refine ev_append_step k53 HS 3 (.tmp 200) (.tmp 202) 37 53 (.agg #[.int .i64 0, .int .i64 0, .int .i64 0]) 24 rfl (HS.C 0 rfl) (fun _ _ h => h) (by rfl) (N := 203) rfl rfl (by rfl) (by rfl) Try.underlying37 info53 rfl (by decide) (by omega) (by simp) ?_
  clear HS
  intro vo w HS
  refine hK.out _ _ ⟨_, (((HS.front 2 rfl).front 4 rfl).front 7 rfl)⟩ (fun hHeld => ?_)
  clear hK K
  refine norm_ (a' := ?_) ?_ ?_
  rotate_left
  · show Act.put _ _ _ = _
    (try simp only [Act.put, List.setIfInBounds_toArray, List.set_cons_zero, List.set_cons_succ, i64_w, i32_w])
    rfl
  refine one_ (i := 6) (N := none) #[true, true, true, true, true, true, true, false, false] rfl rfl (by kernel_rfl) (by decide) (fun K hK => ?_)
  refine ev_store_step HS 6 rfl (by rfl) 32 (.tmp 6) (.tmp 198) rfl rfl rfl (stL ({ s1 with pc := i5 } : St)) rfl (len32 hs1) (by rw [stL_length (s := ({ s1 with pc := i5 } : St)) hs1]; rfl) (stL_one _) ?_
  clear HS
  intro w HS
  refine hK.out _ _ ⟨_, (((HS.front 2 rfl).front 4 rfl).front 7 rfl)⟩ (fun hHeld => ?_)
  clear hK K
  refine pure_ (i := 7) (N := some 7) (v := ?_) (a' := ?_) #[true, true, true, true, true, true, true, true, false] rfl rfl (by kernel_rfl) (fun _ _ _ h => h) (Or.inl ⟨by rfl, ?_⟩) ?_ ?_
  rotate_left
  · intro w'
    go_simp
    with_reducible rfl
  rotate_left
  · (try simp only [Act.put, List.setIfInBounds_toArray, List.set_cons_zero, List.set_cons_succ, i64_w, i32_w])
    rfl
  refine pure_ (i := 8) (N := some 8) (v := ?_) (a' := ?_) #[true, true, true, true, true, true, true, true, true] rfl rfl (by kernel_rfl) (fun _ _ _ h => h) (Or.inl ⟨by rfl, ?_⟩) ?_ ?_
  rotate_left
  · intro w'
    go_simp
    with_reducible rfl
  rotate_left
  · (try simp only [Act.put, List.setIfInBounds_toArray, List.set_cons_zero, List.set_cons_succ, i64_w, i32_w])
    rfl
  refine done_ (by kernel_rfl) ?_
  clear hHeld
  go_wp2
  obtain rfl := HPC.out
  obtain rfl := HS1.out
  have hrr := HRR.out
  obtain rfl := HXX.out
  obtain rfl := hrr
  exact bodyPost_ret (results_ctt Try.results14 _ _ g6 _ _ (0, 0) _ rfl (HS.blk 6 rfl) Try.underlying32 rfl (size32 hs1)) rfl ⟨_, _, _, _, rfl, ((((((((HS.front 5 rfl).front 4 rfl).erase 2).erase 2).erase 2).erase 2).erase 2).erase 2)⟩

set_option maxRecDepth 100000 in
set_option maxHeartbeats 4000000 in
theorem one_if_no (i1 i2 i3 i4 i5 : Int) (hC : ∀ w, Sat W0 w L → Kd.C k58 w A code.length code) (hM : ∀ w, Sat W0 w L → Kd.C (Kd.int .i64) w Am0 m.length m) (hml : m.length ≤ 1000000) (hs : s.regs.length = 64) (h0 : 0 ≤ s.pc) (h1 : s.pc < (code.length : Int)) (hi : rd_T58 code s.pc = ⟨7, i1, i2, i3, i4, i5⟩) (hf : Fit (⟨7, i1, i2, i3, i4, i5⟩ : S58)) (hz : (rd s.regs i2 == 0) = true) (r : St × List Int × List S53) (hr : r = ({ s with steps := wrap64 (s.steps + 1), pc := wrap64 (s.pc + 1) }, m, [⟨1, s.pc, 0⟩, ⟨3, 0, 0⟩])) (HS : Sat W0 w L) :
    Calls Try.prog 14 #[.slice A code.length c, .agg (stL s).toArray, .slice Am0 m.length cm0] w (OnePost W0 L r) := by
  have HRR := Aside0.mk hr
  clear hr
  obtain ⟨d0, d1, a0, a1, b0, b1⟩ := hf
  dsimp only at d0 d1 a0 a1 b0 b1
  go_enter Try.func14, Try.ntmps14
  go_upto_region 1 with (first | ((with_reducible refine gate_dst (N := 4) rfl ?_); go_must (refine ev_box HS rfl (N := 4) rfl (cs := (stL s).toArray) (t := 32) ?hrun ?_); (case hrun => first | (go_simp; done) | (go_simp; rfl)); clear HS; intro gs w HS) | ((with_reducible refine gate_dst (N := 6) rfl ?_); go_must (refine ev_box HS rfl (N := 6) rfl (cs := (stL z0).toArray) (t := 32) ?hrun ?_); (case hrun => first | (go_simp; done) | (go_simp; rfl)); clear HS; intro g6 w HS))
  go_upto_region 2 with (first | ((with_reducible refine gate_dst (N := 20) rfl ?_); go_must (refine ev_lit IW (e := 2) HS rfl (N := 20) rfl (xs := ([] : List Int)) (inner := []) ?hrun (Reps.none _ _) (by first | decide | simp) ?_); (case hrun => first | (go_simp; done) | (go_simp; rfl)); clear HS; intro gl w HS) | (((with_reducible refine gate_builtin (b := .append) (xs := #[.tmp 20, .tmp 21]) rfl ?_); go_must (refine ev_append IW HS 0 (.tmp 20) (.tmp 21) 35 2 (.int .i64 0) 8 rfl (hM _ HS.tail.tail.tail) (fun _ _ h => h) rfl rfl rfl rfl Try.underlying35 info2 rfl (by decide) (by omega) ((by simp; omega)) ?_); clear HS; intro vm w HS); rw [List.nil_append] at HS; obtain ⟨Am, cm, rfl⟩ := HS.slice 0 rfl) | (((with_reducible refine gate_dst (N := 9) rfl ?_); go_must (refine ev_box HS rfl (N := 9) rfl (cs := #[.slice none 0 0]) (t := 35) ?hrun ?_); (case hrun => first | (go_simp; done) | (go_simp; rfl)); clear HS; intro gm w HS); have cz := HS.cell 0 rfl; have fz := HS.frozen 0 rfl))
  refine wp_sat (varset HS 0 rfl) (fun w HS => ?_)
  clear cz fz
  have fs := HS.frozen 3 rfl
  have c68 := (st_cell HS 3 rfl 68).trans (stL_steps hs)
  go_upto_region 3 with (fail)
  refine wp_sat (stset (s' := { s with steps := wrap64 (s.steps + 1) }) HS 3 rfl 68 (.int .i64 (wrap64 (s.steps + 1))) (set_steps hs _)) (fun w HS => ?_)
  clear fs c68
  obtain ⟨pc, hpc⟩ : ∃ pc, pc = s.pc := ⟨_, rfl⟩
  rw [← hpc] at h0 h1 hi
  have HPC := Aside0.mk hpc
  clear hpc
  obtain ⟨s1, hs1e⟩ : ∃ s1 : St, s1 = { s with steps := wrap64 (s.steps + 1) } := ⟨_, rfl⟩
  rw [← hs1e] at HS
  have hs1 : s1.regs.length = 64 := by rw [hs1e]; exact hs
  have HP1 := Aside0.mk (show s1.pc = pc by rw [hs1e, HPC.out])
  have HRG := Aside0.mk (show s1.regs = s.regs by rw [hs1e])
  have HS1 := Aside0.mk hs1e
  clear hs1e
  have c64 : w.cell? ⟨gs, 64, none⟩ = some (.int .i64 pc) := by rw [← HP1.out]; exact (st_cell HS 3 rfl 64).trans (stL_pc hs1)
  go_upto_region 4 with (first | ((with_reducible refine gate_dst (N := 30) rfl ?_); go_must (refine ev_lit k53 (e := 53) HS rfl (N := 30) rfl (xs := [⟨1, pc, 0⟩]) (inner := [.int .i64 1, .int .i64 pc, .int .i64 0]) ?hrun (reps1 ⟨1, pc, 0⟩) (by first | decide | simp) ?_); (case hrun => first | (go_simp; done) | (go_simp; rfl)); clear HS; intro go1 w HS) | (((with_reducible refine gate_dst (N := 10) rfl ?_); go_must (refine ev_box HS rfl (N := 10) rfl (cs := #[.slice none 0 0]) (t := 37) ?hrun ?_); (case hrun => first | (go_simp; done) | (go_simp; rfl)); clear HS; intro go w HS); have cz := HS.cell 0 rfl; have fz := HS.frozen 0 rfl))
  refine wp_sat (varset HS 0 rfl) (fun w HS => ?_)
  clear cz fz c64
  have c64 : w.cell? ⟨gs, 64, none⟩ = some (.int .i64 pc) := by rw [← HP1.out]; exact (st_cell HS 5 rfl 64).trans (stL_pc hs1)
  have h0b : decide (pc < 0) = false := decide_eq_false (by omega)
  have h1b : decide ((code.length : Int) ≤ pc) = false := decide_eq_false (by omega)
  obtain ⟨ad, rfl, x0, x1, x2, x3, x4, x5⟩ := at_T58 (hC w HS.tail.tail.tail.tail.tail.tail) pc h0 h1
  rw [hi] at x0 x1 x2 x3 x4 x5
  dsimp only at x0 x1 x2 x3 x4 x5
  have q1 := eq_true h0
  have q2 := eq_true h1
  have HI := Aside0.mk hi
  have HH := Aside0.mk (And.intro h0 h1)
  clear hi h0 h1
  go_upto_region 8 with (first | ((with_reducible refine gate_dst (N := 12) rfl ?_); go_must (refine ev_box HS rfl (N := 12) rfl (cs := #[.int .i64 0, .int .i64 0, .int .i64 0, .int .i64 0, .int .i64 0, .int .i64 0]) (t := 58) ?hrun ?_); (case hrun => first | (go_simp; done) | (go_simp; rfl)); clear HS; intro gi w HS) | ((with_reducible refine gate_store (t := 58) (p := 12) rfl ?_); go_must (refine ev_store HS 0 rfl rfl 58 (.tmp 12) (.tmp 51) rfl rfl rfl [.int .i64 (7), .int .i64 i1, .int .i64 i2, .int .i64 i3, .int .i64 i4, .int .i64 i5] ?hx (by kernel_rfl) (by rfl) ?h1 ?_); (case hx => first | rfl | (go_simp; done)); (case h1 => simp [Value.oneCell']); clear HS; intro w HS))
  clear x0 x1 x2 x3 x4 x5 q1 q2 h0b h1b c64
  have ci := HS.cell 0 rfl
  have fs := HS.frozen 6 rfl
  have cA : w.cell? ⟨gs, i2.toNat, none⟩ = some (.int .i64 (rd s.regs i2)) := by rw [← HRG.out]; exact (st_cell HS 6 rfl i2.toNat).trans (stL_reg hs1 _ (by omega))
  have cB : w.cell? ⟨gs, i3.toNat, none⟩ = some (.int .i64 (rd s.regs i3)) := by rw [← HRG.out]; exact (st_cell HS 6 rfl i3.toNat).trans (stL_reg hs1 _ (by omega))
  have cD : w.cell? ⟨gs, i1.toNat, none⟩ = some (.int .i64 (rd s.regs i1)) := by rw [← HRG.out]; exact (st_cell HS 6 rfl i1.toNat).trans (stL_reg hs1 _ (by omega))
  have c63 : w.cell? ⟨gs, 63, none⟩ = some (.int .i64 (rd s.regs 63)) := by rw [← HRG.out]; exact (st_cell HS 6 rfl 63).trans (stL_reg hs1 63 (by decide))
  have c64 : w.cell? ⟨gs, 64, none⟩ = some (.int .i64 pc) := by rw [← HP1.out]; exact (st_cell HS 6 rfl 64).trans (stL_pc hs1)
  go_upto_region 9 with (fail)
  go_wp2
  go_still_tail 8, (by kernel_rfl)
  simp only [i64_w]
  (replace HS := HS.drew; (first | show Exit.then _ _ _ _ (World.drew w) | show wpList _ _ _ _ _ (World.drew w)); generalize World.drew w = w at HS ⊢)
  obtain ⟨X, hX⟩ : ∃ X, X = wrap64 (rd s.regs i2 + i5) := ⟨_, rfl⟩
  rw [← hX]
  have HXX := Aside0.mk hX
  clear hX
  clear ci cA cB cD c63 c64 fs
  have ci := HS.cell 0 rfl
  have fs := HS.frozen 6 rfl
  have cA : w.cell? ⟨gs, i2.toNat, none⟩ = some (.int .i64 (rd s.regs i2)) := by rw [← HRG.out]; exact (st_cell HS 6 rfl i2.toNat).trans (stL_reg hs1 _ (by omega))
  have cB : w.cell? ⟨gs, i3.toNat, none⟩ = some (.int .i64 (rd s.regs i3)) := by rw [← HRG.out]; exact (st_cell HS 6 rfl i3.toNat).trans (stL_reg hs1 _ (by omega))
  have cD : w.cell? ⟨gs, i1.toNat, none⟩ = some (.int .i64 (rd s.regs i1)) := by rw [← HRG.out]; exact (st_cell HS 6 rfl i1.toNat).trans (stL_reg hs1 _ (by omega))
  have c63 : w.cell? ⟨gs, 63, none⟩ = some (.int .i64 (rd s.regs 63)) := by rw [← HRG.out]; exact (st_cell HS 6 rfl 63).trans (stL_reg hs1 63 (by decide))
  have c64 : w.cell? ⟨gs, 64, none⟩ = some (.int .i64 pc) := by rw [← HP1.out]; exact (st_cell HS 6 rfl 64).trans (stL_pc hs1)
  go_upto_region 42 with (fail)
  have cg := HS.cell 1 rfl
  go_upto_region 61 with (first | ((with_reducible refine gate_dst (N := 206) rfl ?_); go_must (refine ev_lit k53 (e := 53) HS rfl (N := 206) rfl (xs := [⟨3, 0, 0⟩]) (inner := [.int .i64 3, .int .i64 (0), .int .i64 (0)]) ?hrun (reps1 ⟨3, 0, 0⟩) (by first | decide | simp) ?_); (case hrun => first | (go_simp; done) | (go_simp; rfl)); clear HS; intro gl2 w HS) | (((with_reducible refine gate_builtin (b := .append) (xs := #[.tmp 204, .tmp 206]) rfl ?_); go_must (refine ev_append k53 HS 3 (.tmp 204) (.tmp 206) 37 53 (.agg #[.int .i64 0, .int .i64 0, .int .i64 0]) 24 rfl (HS.C 0 rfl) (fun _ _ h => h) rfl rfl rfl rfl Try.underlying37 info53 rfl (by decide) (by omega) ((by simp)) ?_); clear HS; intro vo w HS); obtain ⟨Ao2, co2, rfl⟩ := HS.slice 3 rfl; have fz := HS.frozen 2 rfl; have cz := HS.cell 2 rfl))
  refine wp_sat (varset HS 2 rfl) (fun w HS => ?_)
  clear cg fz cz
  replace HS := HS.tail
  clear ci cA cB cD c63 c64 fs
  have ci := HS.cell 0 rfl
  have fs := HS.frozen 6 rfl
  have cA : w.cell? ⟨gs, i2.toNat, none⟩ = some (.int .i64 (rd s.regs i2)) := by rw [← HRG.out]; exact (st_cell HS 6 rfl i2.toNat).trans (stL_reg hs1 _ (by omega))
  have cB : w.cell? ⟨gs, i3.toNat, none⟩ = some (.int .i64 (rd s.regs i3)) := by rw [← HRG.out]; exact (st_cell HS 6 rfl i3.toNat).trans (stL_reg hs1 _ (by omega))
  have cD : w.cell? ⟨gs, i1.toNat, none⟩ = some (.int .i64 (rd s.regs i1)) := by rw [← HRG.out]; exact (st_cell HS 6 rfl i1.toNat).trans (stL_reg hs1 _ (by omega))
  have c63 : w.cell? ⟨gs, 63, none⟩ = some (.int .i64 (rd s.regs 63)) := by rw [← HRG.out]; exact (st_cell HS 6 rfl 63).trans (stL_reg hs1 63 (by decide))
  have c64 : w.cell? ⟨gs, 64, none⟩ = some (.int .i64 pc) := by rw [← HP1.out]; exact (st_cell HS 6 rfl 64).trans (stL_pc hs1)
  clear ci cA cB cD c63 c64 fs
  have fs := HS.frozen 6 rfl
  have c64 : w.cell? ⟨gs, 64, none⟩ = some (.int .i64 pc) := by rw [← HP1.out]; exact (st_cell HS 6 rfl 64).trans (stL_pc (s := s1) hs1)
  go_upto_region 62 with (fail)
  refine wp_sat (stset (s := s1) (s' := ({ s1 with pc := wrap64 (pc + 1) } : St)) HS 6 rfl 64 (.int .i64 (wrap64 (pc + 1))) (set_pc (s := s1) hs1 _)) (fun w HS => ?_)
  clear fs c64
  refine start_ (n := 6) (S := fun w' => ∃ L', Sat W0 w' (blk gs 32 (stL ({ s1 with pc := wrap64 (pc + 1) } : St)).toArray :: blk gm 35 #[.slice Am m.length cm] :: blk go 37 #[.slice Ao2 2 co2] :: L')) (ds := []) #[false, false, false, false, false, false] (by kernel_rfl) rfl rfl ⟨_, (((HS.drew.front 1 rfl).front 3 rfl).front 6 rfl)⟩ (fun hHeld => ?_)
  replace HS := HS.drew
  generalize World.drew w = w at HS hHeld ⊢
  refine take_ (i := 0) (N := some 300) (v := ?_) (a' := ?_) #[true, false, false, false, false, false] rfl rfl (by kernel_rfl) (fun _ _ _ h => h) (Or.inl ⟨by rfl, ?_⟩) hHeld ?_ ?_
  rotate_left
  · rintro w' ⟨L', hS⟩
    refine whole_run hS 0 rfl 32 (.tmp 4) ?_ ?_ _ Try.underlying32 rfl (size32 hs1) <;> rfl
  rotate_left
  · (try simp only [Act.put, List.setIfInBounds_toArray, List.set_cons_zero, List.set_cons_succ, i64_w, i32_w])
    rfl
  refine take_ (i := 1) (N := some 301) (v := ?_) (a' := ?_) #[true, true, false, false, false, false] rfl rfl (by kernel_rfl) (fun _ _ _ h => h) (Or.inl ⟨by rfl, ?_⟩) hHeld ?_ ?_
  rotate_left
  · rintro w' ⟨L', hS⟩
    have cm_ := hS.cell 1 rfl
    have co_ := hS.cell 2 rfl
    go_simp
    with_reducible rfl
  rotate_left
  · (try simp only [Act.put, List.setIfInBounds_toArray, List.set_cons_zero, List.set_cons_succ, i64_w, i32_w])
    rfl
  refine take_ (i := 2) (N := some 302) (v := ?_) (a' := ?_) #[true, true, true, false, false, false] rfl rfl (by kernel_rfl) (fun _ _ _ h => h) (Or.inl ⟨by rfl, ?_⟩) hHeld ?_ ?_
  rotate_left
  · rintro w' ⟨L', hS⟩
    have cm_ := hS.cell 1 rfl
    have co_ := hS.cell 2 rfl
    go_simp
    with_reducible rfl
  rotate_left
  · (try simp only [Act.put, List.setIfInBounds_toArray, List.set_cons_zero, List.set_cons_succ, i64_w, i32_w])
    rfl
  refine one_ (i := 3) (N := none) #[true, true, true, true, false, false] rfl rfl (by kernel_rfl) (by decide) (fun K hK => ?_)
  refine ev_store_step HS 5 rfl (by rfl) 32 (.tmp 6) (.tmp 300) rfl rfl rfl (stL ({ s1 with pc := wrap64 (pc + 1) } : St)) rfl (len32 hs1) (by rw [stL_length (s := ({ s1 with pc := wrap64 (pc + 1) } : St)) hs1]; rfl) (stL_one _) ?_
  clear HS
  intro w HS
  refine hK.out _ _ ⟨_, (((HS.front 1 rfl).front 3 rfl).front 6 rfl)⟩ (fun hHeld => ?_)
  clear hK K
  refine pure_ (i := 4) (N := some 7) (v := ?_) (a' := ?_) #[true, true, true, true, true, false] rfl rfl (by kernel_rfl) (fun _ _ _ h => h) (Or.inl ⟨by rfl, ?_⟩) ?_ ?_
  rotate_left
  · intro w'
    go_simp
    with_reducible rfl
  rotate_left
  · (try simp only [Act.put, List.setIfInBounds_toArray, List.set_cons_zero, List.set_cons_succ, i64_w, i32_w])
    rfl
  refine pure_ (i := 5) (N := some 8) (v := ?_) (a' := ?_) #[true, true, true, true, true, true] rfl rfl (by kernel_rfl) (fun _ _ _ h => h) (Or.inl ⟨by rfl, ?_⟩) ?_ ?_
  rotate_left
  · intro w'
    go_simp
    with_reducible rfl
  rotate_left
  · (try simp only [Act.put, List.setIfInBounds_toArray, List.set_cons_zero, List.set_cons_succ, i64_w, i32_w])
    rfl
  refine done_ (by kernel_rfl) ?_
  clear hHeld
  go_wp2
  obtain rfl := HPC.out
  obtain rfl := HS1.out
  have hrr := HRR.out
  obtain rfl := HXX.out
  obtain rfl := hrr
  exact bodyPost_ret (results_ctt Try.results14 _ _ g6 _ _ (0, 0) _ rfl (HS.blk 5 rfl) Try.underlying32 rfl (size32 hs1)) rfl ⟨_, _, _, _, rfl, (((((((HS.front 4 rfl).front 3 rfl).erase 2).erase 2).erase 2).erase 2).erase 2)⟩

set_option maxRecDepth 100000 in
set_option maxHeartbeats 4000000 in
theorem one_call (i1 i2 i3 i4 i5 : Int) (hC : ∀ w, Sat W0 w L → Kd.C k58 w A code.length code) (hM : ∀ w, Sat W0 w L → Kd.C (Kd.int .i64) w Am0 m.length m) (hml : m.length ≤ 1000000) (hs : s.regs.length = 64) (h0 : 0 ≤ s.pc) (h1 : s.pc < (code.length : Int)) (hi : rd_T58 code s.pc = ⟨8, i1, i2, i3, i4, i5⟩) (hf : Fit (⟨8, i1, i2, i3, i4, i5⟩ : S58)) (hin : (decide (0 ≤ (rd s.regs 63)) && decide ((rd s.regs 63) < (m.length : Int))) = true) (r : St × List Int × List S53) (hr : r = ({ s with steps := wrap64 (s.steps + 1), pc := i5 }, m.set (rd s.regs 63).toNat (wrap64 (s.pc + 1)), [⟨1, s.pc, 0⟩, ⟨2, (rd s.regs 63), 0⟩])) (HS : Sat W0 w L) :
    Calls Try.prog 14 #[.slice A code.length c, .agg (stL s).toArray, .slice Am0 m.length cm0] w (OnePost W0 L r) := by
  have HRR := Aside0.mk hr
  clear hr
  obtain ⟨d0, d1, a0, a1, b0, b1⟩ := hf
  dsimp only at d0 d1 a0 a1 b0 b1
  go_enter Try.func14, Try.ntmps14
  go_upto_region 1 with (first | ((with_reducible refine gate_dst (N := 4) rfl ?_); go_must (refine ev_box HS rfl (N := 4) rfl (cs := (stL s).toArray) (t := 32) ?hrun ?_); (case hrun => first | (go_simp; done) | (go_simp; rfl)); clear HS; intro gs w HS) | ((with_reducible refine gate_dst (N := 6) rfl ?_); go_must (refine ev_box HS rfl (N := 6) rfl (cs := (stL z0).toArray) (t := 32) ?hrun ?_); (case hrun => first | (go_simp; done) | (go_simp; rfl)); clear HS; intro g6 w HS))
  go_upto_region 2 with (first | ((with_reducible refine gate_dst (N := 20) rfl ?_); go_must (refine ev_lit IW (e := 2) HS rfl (N := 20) rfl (xs := ([] : List Int)) (inner := []) ?hrun (Reps.none _ _) (by first | decide | simp) ?_); (case hrun => first | (go_simp; done) | (go_simp; rfl)); clear HS; intro gl w HS) | (((with_reducible refine gate_builtin (b := .append) (xs := #[.tmp 20, .tmp 21]) rfl ?_); go_must (refine ev_append IW HS 0 (.tmp 20) (.tmp 21) 35 2 (.int .i64 0) 8 rfl (hM _ HS.tail.tail.tail) (fun _ _ h => h) rfl rfl rfl rfl Try.underlying35 info2 rfl (by decide) (by omega) ((by simp; omega)) ?_); clear HS; intro vm w HS); rw [List.nil_append] at HS; obtain ⟨Am, cm, rfl⟩ := HS.slice 0 rfl) | (((with_reducible refine gate_dst (N := 9) rfl ?_); go_must (refine ev_box HS rfl (N := 9) rfl (cs := #[.slice none 0 0]) (t := 35) ?hrun ?_); (case hrun => first | (go_simp; done) | (go_simp; rfl)); clear HS; intro gm w HS); have cz := HS.cell 0 rfl; have fz := HS.frozen 0 rfl))
  refine wp_sat (varset HS 0 rfl) (fun w HS => ?_)
  clear cz fz
  have fs := HS.frozen 3 rfl
  have c68 := (st_cell HS 3 rfl 68).trans (stL_steps hs)
  go_upto_region 3 with (fail)
  refine wp_sat (stset (s' := { s with steps := wrap64 (s.steps + 1) }) HS 3 rfl 68 (.int .i64 (wrap64 (s.steps + 1))) (set_steps hs _)) (fun w HS => ?_)
  clear fs c68
  obtain ⟨pc, hpc⟩ : ∃ pc, pc = s.pc := ⟨_, rfl⟩
  rw [← hpc] at h0 h1 hi
  have HPC := Aside0.mk hpc
  clear hpc
  obtain ⟨s1, hs1e⟩ : ∃ s1 : St, s1 = { s with steps := wrap64 (s.steps + 1) } := ⟨_, rfl⟩
  rw [← hs1e] at HS
  have hs1 : s1.regs.length = 64 := by rw [hs1e]; exact hs
  have HP1 := Aside0.mk (show s1.pc = pc by rw [hs1e, HPC.out])
  have HRG := Aside0.mk (show s1.regs = s.regs by rw [hs1e])
  have HS1 := Aside0.mk hs1e
  clear hs1e
  have c64 : w.cell? ⟨gs, 64, none⟩ = some (.int .i64 pc) := by rw [← HP1.out]; exact (st_cell HS 3 rfl 64).trans (stL_pc hs1)
  go_upto_region 4 with (first | ((with_reducible refine gate_dst (N := 30) rfl ?_); go_must (refine ev_lit k53 (e := 53) HS rfl (N := 30) rfl (xs := [⟨1, pc, 0⟩]) (inner := [.int .i64 1, .int .i64 pc, .int .i64 0]) ?hrun (reps1 ⟨1, pc, 0⟩) (by first | decide | simp) ?_); (case hrun => first | (go_simp; done) | (go_simp; rfl)); clear HS; intro go1 w HS) | (((with_reducible refine gate_dst (N := 10) rfl ?_); go_must (refine ev_box HS rfl (N := 10) rfl (cs := #[.slice none 0 0]) (t := 37) ?hrun ?_); (case hrun => first | (go_simp; done) | (go_simp; rfl)); clear HS; intro go w HS); have cz := HS.cell 0 rfl; have fz := HS.frozen 0 rfl))
  refine wp_sat (varset HS 0 rfl) (fun w HS => ?_)
  clear cz fz c64
  have c64 : w.cell? ⟨gs, 64, none⟩ = some (.int .i64 pc) := by rw [← HP1.out]; exact (st_cell HS 5 rfl 64).trans (stL_pc hs1)
  have h0b : decide (pc < 0) = false := decide_eq_false (by omega)
  have h1b : decide ((code.length : Int) ≤ pc) = false := decide_eq_false (by omega)
  obtain ⟨ad, rfl, x0, x1, x2, x3, x4, x5⟩ := at_T58 (hC w HS.tail.tail.tail.tail.tail.tail) pc h0 h1
  rw [hi] at x0 x1 x2 x3 x4 x5
  dsimp only at x0 x1 x2 x3 x4 x5
  have q1 := eq_true h0
  have q2 := eq_true h1
  have HI := Aside0.mk hi
  have HH := Aside0.mk (And.intro h0 h1)
  clear hi h0 h1
  go_upto_region 8 with (first | ((with_reducible refine gate_dst (N := 12) rfl ?_); go_must (refine ev_box HS rfl (N := 12) rfl (cs := #[.int .i64 0, .int .i64 0, .int .i64 0, .int .i64 0, .int .i64 0, .int .i64 0]) (t := 58) ?hrun ?_); (case hrun => first | (go_simp; done) | (go_simp; rfl)); clear HS; intro gi w HS) | ((with_reducible refine gate_store (t := 58) (p := 12) rfl ?_); go_must (refine ev_store HS 0 rfl rfl 58 (.tmp 12) (.tmp 51) rfl rfl rfl [.int .i64 (8), .int .i64 i1, .int .i64 i2, .int .i64 i3, .int .i64 i4, .int .i64 i5] ?hx (by kernel_rfl) (by rfl) ?h1 ?_); (case hx => first | rfl | (go_simp; done)); (case h1 => simp [Value.oneCell']); clear HS; intro w HS))
  clear x0 x1 x2 x3 x4 x5 q1 q2 h0b h1b c64
  have ci := HS.cell 0 rfl
  have fs := HS.frozen 6 rfl
  have cA : w.cell? ⟨gs, i2.toNat, none⟩ = some (.int .i64 (rd s.regs i2)) := by rw [← HRG.out]; exact (st_cell HS 6 rfl i2.toNat).trans (stL_reg hs1 _ (by omega))
  have cB : w.cell? ⟨gs, i3.toNat, none⟩ = some (.int .i64 (rd s.regs i3)) := by rw [← HRG.out]; exact (st_cell HS 6 rfl i3.toNat).trans (stL_reg hs1 _ (by omega))
  have cD : w.cell? ⟨gs, i1.toNat, none⟩ = some (.int .i64 (rd s.regs i1)) := by rw [← HRG.out]; exact (st_cell HS 6 rfl i1.toNat).trans (stL_reg hs1 _ (by omega))
  have c63 : w.cell? ⟨gs, 63, none⟩ = some (.int .i64 (rd s.regs 63)) := by rw [← HRG.out]; exact (st_cell HS 6 rfl 63).trans (stL_reg hs1 63 (by decide))
  have c64 : w.cell? ⟨gs, 64, none⟩ = some (.int .i64 pc) := by rw [← HP1.out]; exact (st_cell HS 6 rfl 64).trans (stL_pc hs1)
  go_upto_region 9 with (fail)
  go_wp2
  go_still_tail 8, (by kernel_rfl)
  simp only [i64_w]
  (replace HS := HS.drew; (first | show Exit.then _ _ _ _ (World.drew w) | show wpList _ _ _ _ _ (World.drew w)); generalize World.drew w = w at HS ⊢)
  obtain ⟨X, hX⟩ : ∃ X, X = wrap64 (rd s.regs i2 + i5) := ⟨_, rfl⟩
  rw [← hX]
  have HXX := Aside0.mk hX
  clear hX
  clear ci cA cB cD c63 c64 fs
  have ci := HS.cell 0 rfl
  have fs := HS.frozen 6 rfl
  have cA : w.cell? ⟨gs, i2.toNat, none⟩ = some (.int .i64 (rd s.regs i2)) := by rw [← HRG.out]; exact (st_cell HS 6 rfl i2.toNat).trans (stL_reg hs1 _ (by omega))
  have cB : w.cell? ⟨gs, i3.toNat, none⟩ = some (.int .i64 (rd s.regs i3)) := by rw [← HRG.out]; exact (st_cell HS 6 rfl i3.toNat).trans (stL_reg hs1 _ (by omega))
  have cD : w.cell? ⟨gs, i1.toNat, none⟩ = some (.int .i64 (rd s.regs i1)) := by rw [← HRG.out]; exact (st_cell HS 6 rfl i1.toNat).trans (stL_reg hs1 _ (by omega))
  have c63 : w.cell? ⟨gs, 63, none⟩ = some (.int .i64 (rd s.regs 63)) := by rw [← HRG.out]; exact (st_cell HS 6 rfl 63).trans (stL_reg hs1 63 (by decide))
  have c64 : w.cell? ⟨gs, 64, none⟩ = some (.int .i64 pc) := by rw [← HP1.out]; exact (st_cell HS 6 rfl 64).trans (stL_pc hs1)
  have hX0 : 0 ≤ (rd s.regs 63) := by simp only [Bool.and_eq_true, decide_eq_true_eq] at hin; exact hin.1
  have hX1 : (rd s.regs 63) < (m.length : Int) := by simp only [Bool.and_eq_true, decide_eq_true_eq] at hin; exact hin.2
  have cg := HS.cell 1 rfl
  go_upto_region 45 with (first | ((with_reducible refine gate_dst (N := 213) rfl ?_); go_must (refine ev_lit k53 (e := 53) HS rfl (N := 213) rfl (xs := [⟨2, (rd s.regs 63), 0⟩]) (inner := [.int .i64 2, .int .i64 ((rd s.regs 63)), .int .i64 (0)]) ?hrun (reps1 ⟨2, (rd s.regs 63), 0⟩) (by first | decide | simp) ?_); (case hrun => first | (go_simp; done) | (go_simp; rfl)); clear HS; intro gl2 w HS) | (((with_reducible refine gate_builtin (b := .append) (xs := #[.tmp 210, .tmp 213]) rfl ?_); go_must (refine ev_append k53 HS 3 (.tmp 210) (.tmp 213) 37 53 (.agg #[.int .i64 0, .int .i64 0, .int .i64 0]) 24 rfl (HS.C 0 rfl) (fun _ _ h => h) rfl rfl rfl rfl Try.underlying37 info53 rfl (by decide) (by omega) ((by simp)) ?_); clear HS; intro vo w HS); obtain ⟨Ao2, co2, rfl⟩ := HS.slice 3 rfl; have fz := HS.frozen 2 rfl; have cz := HS.cell 2 rfl))
  refine wp_sat (varset HS 2 rfl) (fun w HS => ?_)
  clear cg fz cz
  replace HS := HS.tail
  clear ci cA cB cD c63 c64 fs
  have ci := HS.cell 0 rfl
  have fs := HS.frozen 6 rfl
  have cA : w.cell? ⟨gs, i2.toNat, none⟩ = some (.int .i64 (rd s.regs i2)) := by rw [← HRG.out]; exact (st_cell HS 6 rfl i2.toNat).trans (stL_reg hs1 _ (by omega))
  have cB : w.cell? ⟨gs, i3.toNat, none⟩ = some (.int .i64 (rd s.regs i3)) := by rw [← HRG.out]; exact (st_cell HS 6 rfl i3.toNat).trans (stL_reg hs1 _ (by omega))
  have cD : w.cell? ⟨gs, i1.toNat, none⟩ = some (.int .i64 (rd s.regs i1)) := by rw [← HRG.out]; exact (st_cell HS 6 rfl i1.toNat).trans (stL_reg hs1 _ (by omega))
  have c63 : w.cell? ⟨gs, 63, none⟩ = some (.int .i64 (rd s.regs 63)) := by rw [← HRG.out]; exact (st_cell HS 6 rfl 63).trans (stL_reg hs1 63 (by decide))
  have c64 : w.cell? ⟨gs, 64, none⟩ = some (.int .i64 pc) := by rw [← HP1.out]; exact (st_cell HS 6 rfl 64).trans (stL_pc hs1)
  go_upto_region 47 with (go_at_call 24; (with_reducible refine (in1_calls ((rd s.regs 63)) 3 rfl HS).mono ?_); rintro e w ⟨rfl, HS_⟩; clear HS; have HS := HS_; clear HS_)
  clear ci cA cB cD c63 c64 fs
  have ci := HS.cell 0 rfl
  have fs := HS.frozen 6 rfl
  have cA : w.cell? ⟨gs, i2.toNat, none⟩ = some (.int .i64 (rd s.regs i2)) := by rw [← HRG.out]; exact (st_cell HS 6 rfl i2.toNat).trans (stL_reg hs1 _ (by omega))
  have cB : w.cell? ⟨gs, i3.toNat, none⟩ = some (.int .i64 (rd s.regs i3)) := by rw [← HRG.out]; exact (st_cell HS 6 rfl i3.toNat).trans (stL_reg hs1 _ (by omega))
  have cD : w.cell? ⟨gs, i1.toNat, none⟩ = some (.int .i64 (rd s.regs i1)) := by rw [← HRG.out]; exact (st_cell HS 6 rfl i1.toNat).trans (stL_reg hs1 _ (by omega))
  have c63 : w.cell? ⟨gs, 63, none⟩ = some (.int .i64 (rd s.regs 63)) := by rw [← HRG.out]; exact (st_cell HS 6 rfl 63).trans (stL_reg hs1 63 (by decide))
  have c64 : w.cell? ⟨gs, 64, none⟩ = some (.int .i64 pc) := by rw [← HP1.out]; exact (st_cell HS 6 rfl 64).trans (stL_pc hs1)
  have cm_ := HS.cell 3 rfl
  obtain ⟨gq, rfl, hcell, hfr, hset⟩ := Sat.word HS 4 rfl (rd s.regs 63) hX0 hX1
  have hx0t := eq_true hX0
  have hx1t := eq_true hX1
  go_upto_region 48 with (fail)
  refine wp_sat (hset (wrap64 (pc + 1))) (fun w HS => ?_)
  clear hcell hfr hset hx0t hx1t cm_
  clear ci cA cB cD c63 c64 fs
  have ci := HS.cell 0 rfl
  have fs := HS.frozen 6 rfl
  have cA : w.cell? ⟨gs, i2.toNat, none⟩ = some (.int .i64 (rd s.regs i2)) := by rw [← HRG.out]; exact (st_cell HS 6 rfl i2.toNat).trans (stL_reg hs1 _ (by omega))
  have cB : w.cell? ⟨gs, i3.toNat, none⟩ = some (.int .i64 (rd s.regs i3)) := by rw [← HRG.out]; exact (st_cell HS 6 rfl i3.toNat).trans (stL_reg hs1 _ (by omega))
  have cD : w.cell? ⟨gs, i1.toNat, none⟩ = some (.int .i64 (rd s.regs i1)) := by rw [← HRG.out]; exact (st_cell HS 6 rfl i1.toNat).trans (stL_reg hs1 _ (by omega))
  have c63 : w.cell? ⟨gs, 63, none⟩ = some (.int .i64 (rd s.regs 63)) := by rw [← HRG.out]; exact (st_cell HS 6 rfl 63).trans (stL_reg hs1 63 (by decide))
  have c64 : w.cell? ⟨gs, 64, none⟩ = some (.int .i64 pc) := by rw [← HP1.out]; exact (st_cell HS 6 rfl 64).trans (stL_pc hs1)
  go_upto_region 49 with (fail)
  refine wp_sat (stset (s' := ({ s1 with pc := i5 } : St)) HS 6 rfl 64 (.int .i64 i5) (set_pc hs1 _)) (fun w HS => ?_)
  clear ci cA cB cD c63 c64 fs
  refine start_ (n := 6) (S := fun w' => ∃ L', Sat W0 w' (blk gs 32 (stL ({ s1 with pc := i5 } : St)).toArray :: blk gm 35 #[.slice (some ⟨gq, 0, none⟩) m.length cm] :: blk go 37 #[.slice Ao2 2 co2] :: L')) (ds := []) #[false, false, false, false, false, false] (by kernel_rfl) rfl rfl ⟨_, (((HS.drew.front 1 rfl).front 3 rfl).front 6 rfl)⟩ (fun hHeld => ?_)
  replace HS := HS.drew
  generalize World.drew w = w at HS hHeld ⊢
  refine take_ (i := 0) (N := some 233) (v := ?_) (a' := ?_) #[true, false, false, false, false, false] rfl rfl (by kernel_rfl) (fun _ _ _ h => h) (Or.inl ⟨by rfl, ?_⟩) hHeld ?_ ?_
  rotate_left
  · rintro w' ⟨L', hS⟩
    refine whole_run hS 0 rfl 32 (.tmp 4) ?_ ?_ _ Try.underlying32 rfl (size32 hs1) <;> rfl
  rotate_left
  · (try simp only [Act.put, List.setIfInBounds_toArray, List.set_cons_zero, List.set_cons_succ, i64_w, i32_w])
    rfl
  refine take_ (i := 1) (N := some 234) (v := ?_) (a' := ?_) #[true, true, false, false, false, false] rfl rfl (by kernel_rfl) (fun _ _ _ h => h) (Or.inl ⟨by rfl, ?_⟩) hHeld ?_ ?_
  rotate_left
  · rintro w' ⟨L', hS⟩
    have cm_ := hS.cell 1 rfl
    have co_ := hS.cell 2 rfl
    go_simp
    with_reducible rfl
  rotate_left
  · (try simp only [Act.put, List.setIfInBounds_toArray, List.set_cons_zero, List.set_cons_succ, i64_w, i32_w])
    rfl
  refine take_ (i := 2) (N := some 235) (v := ?_) (a' := ?_) #[true, true, true, false, false, false] rfl rfl (by kernel_rfl) (fun _ _ _ h => h) (Or.inl ⟨by rfl, ?_⟩) hHeld ?_ ?_
  rotate_left
  · rintro w' ⟨L', hS⟩
    have cm_ := hS.cell 1 rfl
    have co_ := hS.cell 2 rfl
    go_simp
    with_reducible rfl
  rotate_left
  · (try simp only [Act.put, List.setIfInBounds_toArray, List.set_cons_zero, List.set_cons_succ, i64_w, i32_w])
    rfl
  refine one_ (i := 3) (N := none) #[true, true, true, true, false, false] rfl rfl (by kernel_rfl) (by decide) (fun K hK => ?_)
  refine ev_store_step HS 5 rfl (by rfl) 32 (.tmp 6) (.tmp 233) rfl rfl rfl (stL ({ s1 with pc := i5 } : St)) rfl (len32 hs1) (by rw [stL_length (s := ({ s1 with pc := i5 } : St)) hs1]; rfl) (stL_one _) ?_
  clear HS
  intro w HS
  refine hK.out _ _ ⟨_, (((HS.front 1 rfl).front 3 rfl).front 6 rfl)⟩ (fun hHeld => ?_)
  clear hK K
  refine pure_ (i := 4) (N := some 7) (v := ?_) (a' := ?_) #[true, true, true, true, true, false] rfl rfl (by kernel_rfl) (fun _ _ _ h => h) (Or.inl ⟨by rfl, ?_⟩) ?_ ?_
  rotate_left
  · intro w'
    go_simp
    with_reducible rfl
  rotate_left
  · (try simp only [Act.put, List.setIfInBounds_toArray, List.set_cons_zero, List.set_cons_succ, i64_w, i32_w])
    rfl
  refine pure_ (i := 5) (N := some 8) (v := ?_) (a' := ?_) #[true, true, true, true, true, true] rfl rfl (by kernel_rfl) (fun _ _ _ h => h) (Or.inl ⟨by rfl, ?_⟩) ?_ ?_
  rotate_left
  · intro w'
    go_simp
    with_reducible rfl
  rotate_left
  · (try simp only [Act.put, List.setIfInBounds_toArray, List.set_cons_zero, List.set_cons_succ, i64_w, i32_w])
    rfl
  refine done_ (by kernel_rfl) ?_
  clear hHeld
  go_wp2
  obtain rfl := HPC.out
  obtain rfl := HS1.out
  have hrr := HRR.out
  obtain rfl := HXX.out
  obtain rfl := hrr
  exact bodyPost_ret (results_ctt Try.results14 _ _ g6 _ _ (0, 0) _ rfl (HS.blk 5 rfl) Try.underlying32 rfl (size32 hs1)) rfl ⟨_, _, _, _, rfl, (((((((HS.front 4 rfl).front 3 rfl).erase 2).erase 2).erase 2).erase 2).erase 2)⟩

set_option maxRecDepth 100000 in
set_option maxHeartbeats 4000000 in
theorem one_call_no (i1 i2 i3 i4 i5 : Int) (hC : ∀ w, Sat W0 w L → Kd.C k58 w A code.length code) (hM : ∀ w, Sat W0 w L → Kd.C (Kd.int .i64) w Am0 m.length m) (hml : m.length ≤ 1000000) (hs : s.regs.length = 64) (h0 : 0 ≤ s.pc) (h1 : s.pc < (code.length : Int)) (hi : rd_T58 code s.pc = ⟨8, i1, i2, i3, i4, i5⟩) (hf : Fit (⟨8, i1, i2, i3, i4, i5⟩ : S58)) (hin : (decide (0 ≤ (rd s.regs 63)) && decide ((rd s.regs 63) < (m.length : Int))) = false) (r : St × List Int × List S53) (hr : r = (stopF { s with steps := wrap64 (s.steps + 1) } 4, m, [⟨1, s.pc, 0⟩, ⟨2, (rd s.regs 63), 0⟩, ⟨5, 4, 0⟩])) (HS : Sat W0 w L) :
    Calls Try.prog 14 #[.slice A code.length c, .agg (stL s).toArray, .slice Am0 m.length cm0] w (OnePost W0 L r) := by
  have HRR := Aside0.mk hr
  clear hr
  obtain ⟨d0, d1, a0, a1, b0, b1⟩ := hf
  dsimp only at d0 d1 a0 a1 b0 b1
  go_enter Try.func14, Try.ntmps14
  go_upto_region 1 with (first | ((with_reducible refine gate_dst (N := 4) rfl ?_); go_must (refine ev_box HS rfl (N := 4) rfl (cs := (stL s).toArray) (t := 32) ?hrun ?_); (case hrun => first | (go_simp; done) | (go_simp; rfl)); clear HS; intro gs w HS) | ((with_reducible refine gate_dst (N := 6) rfl ?_); go_must (refine ev_box HS rfl (N := 6) rfl (cs := (stL z0).toArray) (t := 32) ?hrun ?_); (case hrun => first | (go_simp; done) | (go_simp; rfl)); clear HS; intro g6 w HS))
  go_upto_region 2 with (first | ((with_reducible refine gate_dst (N := 20) rfl ?_); go_must (refine ev_lit IW (e := 2) HS rfl (N := 20) rfl (xs := ([] : List Int)) (inner := []) ?hrun (Reps.none _ _) (by first | decide | simp) ?_); (case hrun => first | (go_simp; done) | (go_simp; rfl)); clear HS; intro gl w HS) | (((with_reducible refine gate_builtin (b := .append) (xs := #[.tmp 20, .tmp 21]) rfl ?_); go_must (refine ev_append IW HS 0 (.tmp 20) (.tmp 21) 35 2 (.int .i64 0) 8 rfl (hM _ HS.tail.tail.tail) (fun _ _ h => h) rfl rfl rfl rfl Try.underlying35 info2 rfl (by decide) (by omega) ((by simp; omega)) ?_); clear HS; intro vm w HS); rw [List.nil_append] at HS; obtain ⟨Am, cm, rfl⟩ := HS.slice 0 rfl) | (((with_reducible refine gate_dst (N := 9) rfl ?_); go_must (refine ev_box HS rfl (N := 9) rfl (cs := #[.slice none 0 0]) (t := 35) ?hrun ?_); (case hrun => first | (go_simp; done) | (go_simp; rfl)); clear HS; intro gm w HS); have cz := HS.cell 0 rfl; have fz := HS.frozen 0 rfl))
  refine wp_sat (varset HS 0 rfl) (fun w HS => ?_)
  clear cz fz
  have fs := HS.frozen 3 rfl
  have c68 := (st_cell HS 3 rfl 68).trans (stL_steps hs)
  go_upto_region 3 with (fail)
  refine wp_sat (stset (s' := { s with steps := wrap64 (s.steps + 1) }) HS 3 rfl 68 (.int .i64 (wrap64 (s.steps + 1))) (set_steps hs _)) (fun w HS => ?_)
  clear fs c68
  obtain ⟨pc, hpc⟩ : ∃ pc, pc = s.pc := ⟨_, rfl⟩
  rw [← hpc] at h0 h1 hi
  have HPC := Aside0.mk hpc
  clear hpc
  obtain ⟨s1, hs1e⟩ : ∃ s1 : St, s1 = { s with steps := wrap64 (s.steps + 1) } := ⟨_, rfl⟩
  rw [← hs1e] at HS
  have hs1 : s1.regs.length = 64 := by rw [hs1e]; exact hs
  have HP1 := Aside0.mk (show s1.pc = pc by rw [hs1e, HPC.out])
  have HRG := Aside0.mk (show s1.regs = s.regs by rw [hs1e])
  have HS1 := Aside0.mk hs1e
  clear hs1e
  have c64 : w.cell? ⟨gs, 64, none⟩ = some (.int .i64 pc) := by rw [← HP1.out]; exact (st_cell HS 3 rfl 64).trans (stL_pc hs1)
  go_upto_region 4 with (first | ((with_reducible refine gate_dst (N := 30) rfl ?_); go_must (refine ev_lit k53 (e := 53) HS rfl (N := 30) rfl (xs := [⟨1, pc, 0⟩]) (inner := [.int .i64 1, .int .i64 pc, .int .i64 0]) ?hrun (reps1 ⟨1, pc, 0⟩) (by first | decide | simp) ?_); (case hrun => first | (go_simp; done) | (go_simp; rfl)); clear HS; intro go1 w HS) | (((with_reducible refine gate_dst (N := 10) rfl ?_); go_must (refine ev_box HS rfl (N := 10) rfl (cs := #[.slice none 0 0]) (t := 37) ?hrun ?_); (case hrun => first | (go_simp; done) | (go_simp; rfl)); clear HS; intro go w HS); have cz := HS.cell 0 rfl; have fz := HS.frozen 0 rfl))
  refine wp_sat (varset HS 0 rfl) (fun w HS => ?_)
  clear cz fz c64
  have c64 : w.cell? ⟨gs, 64, none⟩ = some (.int .i64 pc) := by rw [← HP1.out]; exact (st_cell HS 5 rfl 64).trans (stL_pc hs1)
  have h0b : decide (pc < 0) = false := decide_eq_false (by omega)
  have h1b : decide ((code.length : Int) ≤ pc) = false := decide_eq_false (by omega)
  obtain ⟨ad, rfl, x0, x1, x2, x3, x4, x5⟩ := at_T58 (hC w HS.tail.tail.tail.tail.tail.tail) pc h0 h1
  rw [hi] at x0 x1 x2 x3 x4 x5
  dsimp only at x0 x1 x2 x3 x4 x5
  have q1 := eq_true h0
  have q2 := eq_true h1
  have HI := Aside0.mk hi
  have HH := Aside0.mk (And.intro h0 h1)
  clear hi h0 h1
  go_upto_region 8 with (first | ((with_reducible refine gate_dst (N := 12) rfl ?_); go_must (refine ev_box HS rfl (N := 12) rfl (cs := #[.int .i64 0, .int .i64 0, .int .i64 0, .int .i64 0, .int .i64 0, .int .i64 0]) (t := 58) ?hrun ?_); (case hrun => first | (go_simp; done) | (go_simp; rfl)); clear HS; intro gi w HS) | ((with_reducible refine gate_store (t := 58) (p := 12) rfl ?_); go_must (refine ev_store HS 0 rfl rfl 58 (.tmp 12) (.tmp 51) rfl rfl rfl [.int .i64 (8), .int .i64 i1, .int .i64 i2, .int .i64 i3, .int .i64 i4, .int .i64 i5] ?hx (by kernel_rfl) (by rfl) ?h1 ?_); (case hx => first | rfl | (go_simp; done)); (case h1 => simp [Value.oneCell']); clear HS; intro w HS))
  clear x0 x1 x2 x3 x4 x5 q1 q2 h0b h1b c64
  have ci := HS.cell 0 rfl
  have fs := HS.frozen 6 rfl
  have cA : w.cell? ⟨gs, i2.toNat, none⟩ = some (.int .i64 (rd s.regs i2)) := by rw [← HRG.out]; exact (st_cell HS 6 rfl i2.toNat).trans (stL_reg hs1 _ (by omega))
  have cB : w.cell? ⟨gs, i3.toNat, none⟩ = some (.int .i64 (rd s.regs i3)) := by rw [← HRG.out]; exact (st_cell HS 6 rfl i3.toNat).trans (stL_reg hs1 _ (by omega))
  have cD : w.cell? ⟨gs, i1.toNat, none⟩ = some (.int .i64 (rd s.regs i1)) := by rw [← HRG.out]; exact (st_cell HS 6 rfl i1.toNat).trans (stL_reg hs1 _ (by omega))
  have c63 : w.cell? ⟨gs, 63, none⟩ = some (.int .i64 (rd s.regs 63)) := by rw [← HRG.out]; exact (st_cell HS 6 rfl 63).trans (stL_reg hs1 63 (by decide))
  have c64 : w.cell? ⟨gs, 64, none⟩ = some (.int .i64 pc) := by rw [← HP1.out]; exact (st_cell HS 6 rfl 64).trans (stL_pc hs1)
  go_upto_region 9 with (fail)
  go_wp2
  go_still_tail 8, (by kernel_rfl)
  simp only [i64_w]
  (replace HS := HS.drew; (first | show Exit.then _ _ _ _ (World.drew w) | show wpList _ _ _ _ _ (World.drew w)); generalize World.drew w = w at HS ⊢)
  obtain ⟨X, hX⟩ : ∃ X, X = wrap64 (rd s.regs i2 + i5) := ⟨_, rfl⟩
  rw [← hX]
  have HXX := Aside0.mk hX
  clear hX
  clear ci cA cB cD c63 c64 fs
  have ci := HS.cell 0 rfl
  have fs := HS.frozen 6 rfl
  have cA : w.cell? ⟨gs, i2.toNat, none⟩ = some (.int .i64 (rd s.regs i2)) := by rw [← HRG.out]; exact (st_cell HS 6 rfl i2.toNat).trans (stL_reg hs1 _ (by omega))
  have cB : w.cell? ⟨gs, i3.toNat, none⟩ = some (.int .i64 (rd s.regs i3)) := by rw [← HRG.out]; exact (st_cell HS 6 rfl i3.toNat).trans (stL_reg hs1 _ (by omega))
  have cD : w.cell? ⟨gs, i1.toNat, none⟩ = some (.int .i64 (rd s.regs i1)) := by rw [← HRG.out]; exact (st_cell HS 6 rfl i1.toNat).trans (stL_reg hs1 _ (by omega))
  have c63 : w.cell? ⟨gs, 63, none⟩ = some (.int .i64 (rd s.regs 63)) := by rw [← HRG.out]; exact (st_cell HS 6 rfl 63).trans (stL_reg hs1 63 (by decide))
  have c64 : w.cell? ⟨gs, 64, none⟩ = some (.int .i64 pc) := by rw [← HP1.out]; exact (st_cell HS 6 rfl 64).trans (stL_pc hs1)
  have cg := HS.cell 1 rfl
  go_upto_region 45 with (first | ((with_reducible refine gate_dst (N := 213) rfl ?_); go_must (refine ev_lit k53 (e := 53) HS rfl (N := 213) rfl (xs := [⟨2, (rd s.regs 63), 0⟩]) (inner := [.int .i64 2, .int .i64 ((rd s.regs 63)), .int .i64 (0)]) ?hrun (reps1 ⟨2, (rd s.regs 63), 0⟩) (by first | decide | simp) ?_); (case hrun => first | (go_simp; done) | (go_simp; rfl)); clear HS; intro gl2 w HS) | (((with_reducible refine gate_builtin (b := .append) (xs := #[.tmp 210, .tmp 213]) rfl ?_); go_must (refine ev_append k53 HS 3 (.tmp 210) (.tmp 213) 37 53 (.agg #[.int .i64 0, .int .i64 0, .int .i64 0]) 24 rfl (HS.C 0 rfl) (fun _ _ h => h) rfl rfl rfl rfl Try.underlying37 info53 rfl (by decide) (by omega) ((by simp)) ?_); clear HS; intro vo w HS); obtain ⟨Ao2, co2, rfl⟩ := HS.slice 3 rfl; have fz := HS.frozen 2 rfl; have cz := HS.cell 2 rfl))
  refine wp_sat (varset HS 2 rfl) (fun w HS => ?_)
  clear cg fz cz
  replace HS := HS.tail
  clear ci cA cB cD c63 c64 fs
  have ci := HS.cell 0 rfl
  have fs := HS.frozen 6 rfl
  have cA : w.cell? ⟨gs, i2.toNat, none⟩ = some (.int .i64 (rd s.regs i2)) := by rw [← HRG.out]; exact (st_cell HS 6 rfl i2.toNat).trans (stL_reg hs1 _ (by omega))
  have cB : w.cell? ⟨gs, i3.toNat, none⟩ = some (.int .i64 (rd s.regs i3)) := by rw [← HRG.out]; exact (st_cell HS 6 rfl i3.toNat).trans (stL_reg hs1 _ (by omega))
  have cD : w.cell? ⟨gs, i1.toNat, none⟩ = some (.int .i64 (rd s.regs i1)) := by rw [← HRG.out]; exact (st_cell HS 6 rfl i1.toNat).trans (stL_reg hs1 _ (by omega))
  have c63 : w.cell? ⟨gs, 63, none⟩ = some (.int .i64 (rd s.regs 63)) := by rw [← HRG.out]; exact (st_cell HS 6 rfl 63).trans (stL_reg hs1 63 (by decide))
  have c64 : w.cell? ⟨gs, 64, none⟩ = some (.int .i64 pc) := by rw [← HP1.out]; exact (st_cell HS 6 rfl 64).trans (stL_pc hs1)
  go_upto_region 46 with (go_at_call 24; (with_reducible refine (in1_calls ((rd s.regs 63)) 3 rfl HS).mono ?_); rintro e w ⟨rfl, HS_⟩; clear HS; have HS := HS_; clear HS_)
  have HCC := Aside0.mk (stop1_calls (g6 := 0) (s := s1) (4) hs1 (by simp) HS.tail)
  go_wp2_with (first | (go_at_call 23; (with_reducible refine (HCC.out).mono ?_); rintro e w_ ⟨vs_, rfl, HS_⟩; clear HS; have HS := HS_; clear HS_) | ((with_reducible refine gate_store (t := 32) (p := 6) rfl ?_); go_must (refine ev_store HS 2 rfl rfl 32 (.tmp 6) (.tmp 221) rfl rfl rfl (stL (stopF s1 (4))) rfl (len32 (s := stopF s1 (4)) hs1) (by rw [stL_length (s := stopF s1 (4)) hs1]; rfl) (stL_one _) ?_); clear HS; intro w HS))
  obtain rfl := HPC.out
  obtain rfl := HS1.out
  have hrr := HRR.out
  obtain rfl := HXX.out
  obtain rfl := hrr
  exact bodyPost_ret (results_ctt Try.results14 _ _ g6 _ _ (0, 0) _ rfl (HS.blk 2 rfl) Try.underlying32 rfl (size32 hs1)) rfl ⟨_, _, _, _, rfl, (((HS.front 1 rfl).front 1 rfl).erase 2)⟩

set_option maxRecDepth 100000 in
set_option maxHeartbeats 4000000 in
theorem one_ret (i1 i2 i3 i4 i5 : Int) (hC : ∀ w, Sat W0 w L → Kd.C k58 w A code.length code) (hM : ∀ w, Sat W0 w L → Kd.C (Kd.int .i64) w Am0 m.length m) (hml : m.length ≤ 1000000) (hs : s.regs.length = 64) (h0 : 0 ≤ s.pc) (h1 : s.pc < (code.length : Int)) (hi : rd_T58 code s.pc = ⟨9, i1, i2, i3, i4, i5⟩) (hf : Fit (⟨9, i1, i2, i3, i4, i5⟩ : S58)) (hin : (decide (0 ≤ (rd s.regs 63)) && decide ((rd s.regs 63) < (m.length : Int))) = true) (hv0 : decide ((rd m (rd s.regs 63)) < 0) = false) (hv1 : decide (32767 < (rd m (rd s.regs 63))) = false) (r : St × List Int × List S53) (hr : r = ({ s with steps := wrap64 (s.steps + 1), pc := (rd m (rd s.regs 63)) }, m, [⟨1, s.pc, 0⟩, ⟨2, (rd s.regs 63), 0⟩])) (HS : Sat W0 w L) :
    Calls Try.prog 14 #[.slice A code.length c, .agg (stL s).toArray, .slice Am0 m.length cm0] w (OnePost W0 L r) := by
  have HRR := Aside0.mk hr
  clear hr
  obtain ⟨d0, d1, a0, a1, b0, b1⟩ := hf
  dsimp only at d0 d1 a0 a1 b0 b1
  go_enter Try.func14, Try.ntmps14
  go_upto_region 1 with (first | ((with_reducible refine gate_dst (N := 4) rfl ?_); go_must (refine ev_box HS rfl (N := 4) rfl (cs := (stL s).toArray) (t := 32) ?hrun ?_); (case hrun => first | (go_simp; done) | (go_simp; rfl)); clear HS; intro gs w HS) | ((with_reducible refine gate_dst (N := 6) rfl ?_); go_must (refine ev_box HS rfl (N := 6) rfl (cs := (stL z0).toArray) (t := 32) ?hrun ?_); (case hrun => first | (go_simp; done) | (go_simp; rfl)); clear HS; intro g6 w HS))
  go_upto_region 2 with (first | ((with_reducible refine gate_dst (N := 20) rfl ?_); go_must (refine ev_lit IW (e := 2) HS rfl (N := 20) rfl (xs := ([] : List Int)) (inner := []) ?hrun (Reps.none _ _) (by first | decide | simp) ?_); (case hrun => first | (go_simp; done) | (go_simp; rfl)); clear HS; intro gl w HS) | (((with_reducible refine gate_builtin (b := .append) (xs := #[.tmp 20, .tmp 21]) rfl ?_); go_must (refine ev_append IW HS 0 (.tmp 20) (.tmp 21) 35 2 (.int .i64 0) 8 rfl (hM _ HS.tail.tail.tail) (fun _ _ h => h) rfl rfl rfl rfl Try.underlying35 info2 rfl (by decide) (by omega) ((by simp; omega)) ?_); clear HS; intro vm w HS); rw [List.nil_append] at HS; obtain ⟨Am, cm, rfl⟩ := HS.slice 0 rfl) | (((with_reducible refine gate_dst (N := 9) rfl ?_); go_must (refine ev_box HS rfl (N := 9) rfl (cs := #[.slice none 0 0]) (t := 35) ?hrun ?_); (case hrun => first | (go_simp; done) | (go_simp; rfl)); clear HS; intro gm w HS); have cz := HS.cell 0 rfl; have fz := HS.frozen 0 rfl))
  refine wp_sat (varset HS 0 rfl) (fun w HS => ?_)
  clear cz fz
  have fs := HS.frozen 3 rfl
  have c68 := (st_cell HS 3 rfl 68).trans (stL_steps hs)
  go_upto_region 3 with (fail)
  refine wp_sat (stset (s' := { s with steps := wrap64 (s.steps + 1) }) HS 3 rfl 68 (.int .i64 (wrap64 (s.steps + 1))) (set_steps hs _)) (fun w HS => ?_)
  clear fs c68
  obtain ⟨pc, hpc⟩ : ∃ pc, pc = s.pc := ⟨_, rfl⟩
  rw [← hpc] at h0 h1 hi
  have HPC := Aside0.mk hpc
  clear hpc
  obtain ⟨s1, hs1e⟩ : ∃ s1 : St, s1 = { s with steps := wrap64 (s.steps + 1) } := ⟨_, rfl⟩
  rw [← hs1e] at HS
  have hs1 : s1.regs.length = 64 := by rw [hs1e]; exact hs
  have HP1 := Aside0.mk (show s1.pc = pc by rw [hs1e, HPC.out])
  have HRG := Aside0.mk (show s1.regs = s.regs by rw [hs1e])
  have HS1 := Aside0.mk hs1e
  clear hs1e
  have c64 : w.cell? ⟨gs, 64, none⟩ = some (.int .i64 pc) := by rw [← HP1.out]; exact (st_cell HS 3 rfl 64).trans (stL_pc hs1)
  go_upto_region 4 with (first | ((with_reducible refine gate_dst (N := 30) rfl ?_); go_must (refine ev_lit k53 (e := 53) HS rfl (N := 30) rfl (xs := [⟨1, pc, 0⟩]) (inner := [.int .i64 1, .int .i64 pc, .int .i64 0]) ?hrun (reps1 ⟨1, pc, 0⟩) (by first | decide | simp) ?_); (case hrun => first | (go_simp; done) | (go_simp; rfl)); clear HS; intro go1 w HS) | (((with_reducible refine gate_dst (N := 10) rfl ?_); go_must (refine ev_box HS rfl (N := 10) rfl (cs := #[.slice none 0 0]) (t := 37) ?hrun ?_); (case hrun => first | (go_simp; done) | (go_simp; rfl)); clear HS; intro go w HS); have cz := HS.cell 0 rfl; have fz := HS.frozen 0 rfl))
  refine wp_sat (varset HS 0 rfl) (fun w HS => ?_)
  clear cz fz c64
  have c64 : w.cell? ⟨gs, 64, none⟩ = some (.int .i64 pc) := by rw [← HP1.out]; exact (st_cell HS 5 rfl 64).trans (stL_pc hs1)
  have h0b : decide (pc < 0) = false := decide_eq_false (by omega)
  have h1b : decide ((code.length : Int) ≤ pc) = false := decide_eq_false (by omega)
  obtain ⟨ad, rfl, x0, x1, x2, x3, x4, x5⟩ := at_T58 (hC w HS.tail.tail.tail.tail.tail.tail) pc h0 h1
  rw [hi] at x0 x1 x2 x3 x4 x5
  dsimp only at x0 x1 x2 x3 x4 x5
  have q1 := eq_true h0
  have q2 := eq_true h1
  have HI := Aside0.mk hi
  have HH := Aside0.mk (And.intro h0 h1)
  clear hi h0 h1
  go_upto_region 8 with (first | ((with_reducible refine gate_dst (N := 12) rfl ?_); go_must (refine ev_box HS rfl (N := 12) rfl (cs := #[.int .i64 0, .int .i64 0, .int .i64 0, .int .i64 0, .int .i64 0, .int .i64 0]) (t := 58) ?hrun ?_); (case hrun => first | (go_simp; done) | (go_simp; rfl)); clear HS; intro gi w HS) | ((with_reducible refine gate_store (t := 58) (p := 12) rfl ?_); go_must (refine ev_store HS 0 rfl rfl 58 (.tmp 12) (.tmp 51) rfl rfl rfl [.int .i64 (9), .int .i64 i1, .int .i64 i2, .int .i64 i3, .int .i64 i4, .int .i64 i5] ?hx (by kernel_rfl) (by rfl) ?h1 ?_); (case hx => first | rfl | (go_simp; done)); (case h1 => simp [Value.oneCell']); clear HS; intro w HS))
  clear x0 x1 x2 x3 x4 x5 q1 q2 h0b h1b c64
  have ci := HS.cell 0 rfl
  have fs := HS.frozen 6 rfl
  have cA : w.cell? ⟨gs, i2.toNat, none⟩ = some (.int .i64 (rd s.regs i2)) := by rw [← HRG.out]; exact (st_cell HS 6 rfl i2.toNat).trans (stL_reg hs1 _ (by omega))
  have cB : w.cell? ⟨gs, i3.toNat, none⟩ = some (.int .i64 (rd s.regs i3)) := by rw [← HRG.out]; exact (st_cell HS 6 rfl i3.toNat).trans (stL_reg hs1 _ (by omega))
  have cD : w.cell? ⟨gs, i1.toNat, none⟩ = some (.int .i64 (rd s.regs i1)) := by rw [← HRG.out]; exact (st_cell HS 6 rfl i1.toNat).trans (stL_reg hs1 _ (by omega))
  have c63 : w.cell? ⟨gs, 63, none⟩ = some (.int .i64 (rd s.regs 63)) := by rw [← HRG.out]; exact (st_cell HS 6 rfl 63).trans (stL_reg hs1 63 (by decide))
  have c64 : w.cell? ⟨gs, 64, none⟩ = some (.int .i64 pc) := by rw [← HP1.out]; exact (st_cell HS 6 rfl 64).trans (stL_pc hs1)
  go_upto_region 9 with (fail)
  go_wp2
  go_still_tail 8, (by kernel_rfl)
  simp only [i64_w]
  (replace HS := HS.drew; (first | show Exit.then _ _ _ _ (World.drew w) | show wpList _ _ _ _ _ (World.drew w)); generalize World.drew w = w at HS ⊢)
  obtain ⟨X, hX⟩ : ∃ X, X = wrap64 (rd s.regs i2 + i5) := ⟨_, rfl⟩
  rw [← hX]
  have HXX := Aside0.mk hX
  clear hX
  clear ci cA cB cD c63 c64 fs
  have ci := HS.cell 0 rfl
  have fs := HS.frozen 6 rfl
  have cA : w.cell? ⟨gs, i2.toNat, none⟩ = some (.int .i64 (rd s.regs i2)) := by rw [← HRG.out]; exact (st_cell HS 6 rfl i2.toNat).trans (stL_reg hs1 _ (by omega))
  have cB : w.cell? ⟨gs, i3.toNat, none⟩ = some (.int .i64 (rd s.regs i3)) := by rw [← HRG.out]; exact (st_cell HS 6 rfl i3.toNat).trans (stL_reg hs1 _ (by omega))
  have cD : w.cell? ⟨gs, i1.toNat, none⟩ = some (.int .i64 (rd s.regs i1)) := by rw [← HRG.out]; exact (st_cell HS 6 rfl i1.toNat).trans (stL_reg hs1 _ (by omega))
  have c63 : w.cell? ⟨gs, 63, none⟩ = some (.int .i64 (rd s.regs 63)) := by rw [← HRG.out]; exact (st_cell HS 6 rfl 63).trans (stL_reg hs1 63 (by decide))
  have c64 : w.cell? ⟨gs, 64, none⟩ = some (.int .i64 pc) := by rw [← HP1.out]; exact (st_cell HS 6 rfl 64).trans (stL_pc hs1)
  have hX0 : 0 ≤ (rd s.regs 63) := by simp only [Bool.and_eq_true, decide_eq_true_eq] at hin; exact hin.1
  have hX1 : (rd s.regs 63) < (m.length : Int) := by simp only [Bool.and_eq_true, decide_eq_true_eq] at hin; exact hin.2
  have hx0t := eq_true hX0
  have hx1t := eq_true hX1
  have cg := HS.cell 1 rfl
  go_upto_region 52 with (first | ((with_reducible refine gate_dst (N := 241) rfl ?_); go_must (refine ev_lit k53 (e := 53) HS rfl (N := 241) rfl (xs := [⟨2, (rd s.regs 63), 0⟩]) (inner := [.int .i64 2, .int .i64 ((rd s.regs 63)), .int .i64 (0)]) ?hrun (reps1 ⟨2, (rd s.regs 63), 0⟩) (by first | decide | simp) ?_); (case hrun => first | (go_simp; done) | (go_simp; rfl)); clear HS; intro gl2 w HS) | (((with_reducible refine gate_builtin (b := .append) (xs := #[.tmp 238, .tmp 241]) rfl ?_); go_must (refine ev_append k53 HS 3 (.tmp 238) (.tmp 241) 37 53 (.agg #[.int .i64 0, .int .i64 0, .int .i64 0]) 24 rfl (HS.C 0 rfl) (fun _ _ h => h) rfl rfl rfl rfl Try.underlying37 info53 rfl (by decide) (by omega) ((by simp)) ?_); clear HS; intro vo w HS); obtain ⟨Ao2, co2, rfl⟩ := HS.slice 3 rfl; have fz := HS.frozen 2 rfl; have cz := HS.cell 2 rfl))
  refine wp_sat (varset HS 2 rfl) (fun w HS => ?_)
  clear cg fz cz
  replace HS := HS.tail
  clear ci cA cB cD c63 c64 fs
  have ci := HS.cell 0 rfl
  have fs := HS.frozen 6 rfl
  have cA : w.cell? ⟨gs, i2.toNat, none⟩ = some (.int .i64 (rd s.regs i2)) := by rw [← HRG.out]; exact (st_cell HS 6 rfl i2.toNat).trans (stL_reg hs1 _ (by omega))
  have cB : w.cell? ⟨gs, i3.toNat, none⟩ = some (.int .i64 (rd s.regs i3)) := by rw [← HRG.out]; exact (st_cell HS 6 rfl i3.toNat).trans (stL_reg hs1 _ (by omega))
  have cD : w.cell? ⟨gs, i1.toNat, none⟩ = some (.int .i64 (rd s.regs i1)) := by rw [← HRG.out]; exact (st_cell HS 6 rfl i1.toNat).trans (stL_reg hs1 _ (by omega))
  have c63 : w.cell? ⟨gs, 63, none⟩ = some (.int .i64 (rd s.regs 63)) := by rw [← HRG.out]; exact (st_cell HS 6 rfl 63).trans (stL_reg hs1 63 (by decide))
  have c64 : w.cell? ⟨gs, 64, none⟩ = some (.int .i64 pc) := by rw [← HP1.out]; exact (st_cell HS 6 rfl 64).trans (stL_pc hs1)
  go_upto_region 54 with (go_at_call 24; (with_reducible refine (in1_calls ((rd s.regs 63)) 3 rfl HS).mono ?_); rintro e w ⟨rfl, HS_⟩; clear HS; have HS := HS_; clear HS_; have cm_ := HS.cell 3 rfl; obtain ⟨gq, rfl, hcell, hfr, hset⟩ := Sat.word HS 4 rfl (rd s.regs 63) hX0 hX1)
  clear ci cA cB cD c63 c64 fs
  have ci := HS.cell 0 rfl
  have fs := HS.frozen 6 rfl
  have cA : w.cell? ⟨gs, i2.toNat, none⟩ = some (.int .i64 (rd s.regs i2)) := by rw [← HRG.out]; exact (st_cell HS 6 rfl i2.toNat).trans (stL_reg hs1 _ (by omega))
  have cB : w.cell? ⟨gs, i3.toNat, none⟩ = some (.int .i64 (rd s.regs i3)) := by rw [← HRG.out]; exact (st_cell HS 6 rfl i3.toNat).trans (stL_reg hs1 _ (by omega))
  have cD : w.cell? ⟨gs, i1.toNat, none⟩ = some (.int .i64 (rd s.regs i1)) := by rw [← HRG.out]; exact (st_cell HS 6 rfl i1.toNat).trans (stL_reg hs1 _ (by omega))
  have c63 : w.cell? ⟨gs, 63, none⟩ = some (.int .i64 (rd s.regs 63)) := by rw [← HRG.out]; exact (st_cell HS 6 rfl 63).trans (stL_reg hs1 63 (by decide))
  have c64 : w.cell? ⟨gs, 64, none⟩ = some (.int .i64 pc) := by rw [← HP1.out]; exact (st_cell HS 6 rfl 64).trans (stL_pc hs1)
  go_upto_region 55 with (fail)
  clear hcell hfr hset cm_
  refine wp_sat (stset (s' := ({ s1 with pc := (rd m (rd s.regs 63)) } : St)) HS 6 rfl 64 (.int .i64 (rd m (rd s.regs 63))) (set_pc hs1 _)) (fun w HS => ?_)
  clear ci cA cB cD c63 c64 fs
  refine start_ (n := 6) (S := fun w' => ∃ L', Sat W0 w' (blk gs 32 (stL ({ s1 with pc := (rd m (rd s.regs 63)) } : St)).toArray :: blk gm 35 #[.slice (some ⟨gq, 0, none⟩) m.length cm] :: blk go 37 #[.slice Ao2 2 co2] :: L')) (ds := []) #[false, false, false, false, false, false] (by kernel_rfl) rfl rfl ⟨_, (((HS.drew.front 1 rfl).front 3 rfl).front 6 rfl)⟩ (fun hHeld => ?_)
  replace HS := HS.drew
  generalize World.drew w = w at HS hHeld ⊢
  refine take_ (i := 0) (N := some 271) (v := ?_) (a' := ?_) #[true, false, false, false, false, false] rfl rfl (by kernel_rfl) (fun _ _ _ h => h) (Or.inl ⟨by rfl, ?_⟩) hHeld ?_ ?_
  rotate_left
  · rintro w' ⟨L', hS⟩
    refine whole_run hS 0 rfl 32 (.tmp 4) ?_ ?_ _ Try.underlying32 rfl (size32 hs1) <;> rfl
  rotate_left
  · (try simp only [Act.put, List.setIfInBounds_toArray, List.set_cons_zero, List.set_cons_succ, i64_w, i32_w])
    rfl
  refine take_ (i := 1) (N := some 272) (v := ?_) (a' := ?_) #[true, true, false, false, false, false] rfl rfl (by kernel_rfl) (fun _ _ _ h => h) (Or.inl ⟨by rfl, ?_⟩) hHeld ?_ ?_
  rotate_left
  · rintro w' ⟨L', hS⟩
    have cm_ := hS.cell 1 rfl
    have co_ := hS.cell 2 rfl
    go_simp
    with_reducible rfl
  rotate_left
  · (try simp only [Act.put, List.setIfInBounds_toArray, List.set_cons_zero, List.set_cons_succ, i64_w, i32_w])
    rfl
  refine take_ (i := 2) (N := some 273) (v := ?_) (a' := ?_) #[true, true, true, false, false, false] rfl rfl (by kernel_rfl) (fun _ _ _ h => h) (Or.inl ⟨by rfl, ?_⟩) hHeld ?_ ?_
  rotate_left
  · rintro w' ⟨L', hS⟩
    have cm_ := hS.cell 1 rfl
    have co_ := hS.cell 2 rfl
    go_simp
    with_reducible rfl
  rotate_left
  · (try simp only [Act.put, List.setIfInBounds_toArray, List.set_cons_zero, List.set_cons_succ, i64_w, i32_w])
    rfl
  refine one_ (i := 3) (N := none) #[true, true, true, true, false, false] rfl rfl (by kernel_rfl) (by decide) (fun K hK => ?_)
  refine ev_store_step HS 5 rfl (by rfl) 32 (.tmp 6) (.tmp 271) rfl rfl rfl (stL ({ s1 with pc := (rd m (rd s.regs 63)) } : St)) rfl (len32 hs1) (by rw [stL_length (s := ({ s1 with pc := (rd m (rd s.regs 63)) } : St)) hs1]; rfl) (stL_one _) ?_
  clear HS
  intro w HS
  refine hK.out _ _ ⟨_, (((HS.front 1 rfl).front 3 rfl).front 6 rfl)⟩ (fun hHeld => ?_)
  clear hK K
  refine pure_ (i := 4) (N := some 7) (v := ?_) (a' := ?_) #[true, true, true, true, true, false] rfl rfl (by kernel_rfl) (fun _ _ _ h => h) (Or.inl ⟨by rfl, ?_⟩) ?_ ?_
  rotate_left
  · intro w'
    go_simp
    with_reducible rfl
  rotate_left
  · (try simp only [Act.put, List.setIfInBounds_toArray, List.set_cons_zero, List.set_cons_succ, i64_w, i32_w])
    rfl
  refine pure_ (i := 5) (N := some 8) (v := ?_) (a' := ?_) #[true, true, true, true, true, true] rfl rfl (by kernel_rfl) (fun _ _ _ h => h) (Or.inl ⟨by rfl, ?_⟩) ?_ ?_
  rotate_left
  · intro w'
    go_simp
    with_reducible rfl
  rotate_left
  · (try simp only [Act.put, List.setIfInBounds_toArray, List.set_cons_zero, List.set_cons_succ, i64_w, i32_w])
    rfl
  refine done_ (by kernel_rfl) ?_
  clear hHeld
  go_wp2
  obtain rfl := HPC.out
  obtain rfl := HS1.out
  have hrr := HRR.out
  obtain rfl := HXX.out
  obtain rfl := hrr
  exact bodyPost_ret (results_ctt Try.results14 _ _ g6 _ _ (0, 0) _ rfl (HS.blk 5 rfl) Try.underlying32 rfl (size32 hs1)) rfl ⟨_, _, _, _, rfl, (((((((HS.front 4 rfl).front 3 rfl).erase 2).erase 2).erase 2).erase 2).erase 2)⟩

set_option maxRecDepth 100000 in
set_option maxHeartbeats 4000000 in
theorem one_ret_no (i1 i2 i3 i4 i5 : Int) (hC : ∀ w, Sat W0 w L → Kd.C k58 w A code.length code) (hM : ∀ w, Sat W0 w L → Kd.C (Kd.int .i64) w Am0 m.length m) (hml : m.length ≤ 1000000) (hs : s.regs.length = 64) (h0 : 0 ≤ s.pc) (h1 : s.pc < (code.length : Int)) (hi : rd_T58 code s.pc = ⟨9, i1, i2, i3, i4, i5⟩) (hf : Fit (⟨9, i1, i2, i3, i4, i5⟩ : S58)) (hin : (decide (0 ≤ (rd s.regs 63)) && decide ((rd s.regs 63) < (m.length : Int))) = false) (r : St × List Int × List S53) (hr : r = (stopF { s with steps := wrap64 (s.steps + 1) } 4, m, [⟨1, s.pc, 0⟩, ⟨2, (rd s.regs 63), 0⟩, ⟨5, 4, 0⟩])) (HS : Sat W0 w L) :
    Calls Try.prog 14 #[.slice A code.length c, .agg (stL s).toArray, .slice Am0 m.length cm0] w (OnePost W0 L r) := by
  have HRR := Aside0.mk hr
  clear hr
  obtain ⟨d0, d1, a0, a1, b0, b1⟩ := hf
  dsimp only at d0 d1 a0 a1 b0 b1
  go_enter Try.func14, Try.ntmps14
  go_upto_region 1 with (first | ((with_reducible refine gate_dst (N := 4) rfl ?_); go_must (refine ev_box HS rfl (N := 4) rfl (cs := (stL s).toArray) (t := 32) ?hrun ?_); (case hrun => first | (go_simp; done) | (go_simp; rfl)); clear HS; intro gs w HS) | ((with_reducible refine gate_dst (N := 6) rfl ?_); go_must (refine ev_box HS rfl (N := 6) rfl (cs := (stL z0).toArray) (t := 32) ?hrun ?_); (case hrun => first | (go_simp; done) | (go_simp; rfl)); clear HS; intro g6 w HS))
  go_upto_region 2 with (first | ((with_reducible refine gate_dst (N := 20) rfl ?_); go_must (refine ev_lit IW (e := 2) HS rfl (N := 20) rfl (xs := ([] : List Int)) (inner := []) ?hrun (Reps.none _ _) (by first | decide | simp) ?_); (case hrun => first | (go_simp; done) | (go_simp; rfl)); clear HS; intro gl w HS) | (((with_reducible refine gate_builtin (b := .append) (xs := #[.tmp 20, .tmp 21]) rfl ?_); go_must (refine ev_append IW HS 0 (.tmp 20) (.tmp 21) 35 2 (.int .i64 0) 8 rfl (hM _ HS.tail.tail.tail) (fun _ _ h => h) rfl rfl rfl rfl Try.underlying35 info2 rfl (by decide) (by omega) ((by simp; omega)) ?_); clear HS; intro vm w HS); rw [List.nil_append] at HS; obtain ⟨Am, cm, rfl⟩ := HS.slice 0 rfl) | (((with_reducible refine gate_dst (N := 9) rfl ?_); go_must (refine ev_box HS rfl (N := 9) rfl (cs := #[.slice none 0 0]) (t := 35) ?hrun ?_); (case hrun => first | (go_simp; done) | (go_simp; rfl)); clear HS; intro gm w HS); have cz := HS.cell 0 rfl; have fz := HS.frozen 0 rfl))
  refine wp_sat (varset HS 0 rfl) (fun w HS => ?_)
  clear cz fz
  have fs := HS.frozen 3 rfl
  have c68 := (st_cell HS 3 rfl 68).trans (stL_steps hs)
  go_upto_region 3 with (fail)
  refine wp_sat (stset (s' := { s with steps := wrap64 (s.steps + 1) }) HS 3 rfl 68 (.int .i64 (wrap64 (s.steps + 1))) (set_steps hs _)) (fun w HS => ?_)
  clear fs c68
  obtain ⟨pc, hpc⟩ : ∃ pc, pc = s.pc := ⟨_, rfl⟩
  rw [← hpc] at h0 h1 hi
  have HPC := Aside0.mk hpc
  clear hpc
  obtain ⟨s1, hs1e⟩ : ∃ s1 : St, s1 = { s with steps := wrap64 (s.steps + 1) } := ⟨_, rfl⟩
  rw [← hs1e] at HS
  have hs1 : s1.regs.length = 64 := by rw [hs1e]; exact hs
  have HP1 := Aside0.mk (show s1.pc = pc by rw [hs1e, HPC.out])
  have HRG := Aside0.mk (show s1.regs = s.regs by rw [hs1e])
  have HS1 := Aside0.mk hs1e
  clear hs1e
  have c64 : w.cell? ⟨gs, 64, none⟩ = some (.int .i64 pc) := by rw [← HP1.out]; exact (st_cell HS 3 rfl 64).trans (stL_pc hs1)
  go_upto_region 4 with (first | ((with_reducible refine gate_dst (N := 30) rfl ?_); go_must (refine ev_lit k53 (e := 53) HS rfl (N := 30) rfl (xs := [⟨1, pc, 0⟩]) (inner := [.int .i64 1, .int .i64 pc, .int .i64 0]) ?hrun (reps1 ⟨1, pc, 0⟩) (by first | decide | simp) ?_); (case hrun => first | (go_simp; done) | (go_simp; rfl)); clear HS; intro go1 w HS) | (((with_reducible refine gate_dst (N := 10) rfl ?_); go_must (refine ev_box HS rfl (N := 10) rfl (cs := #[.slice none 0 0]) (t := 37) ?hrun ?_); (case hrun => first | (go_simp; done) | (go_simp; rfl)); clear HS; intro go w HS); have cz := HS.cell 0 rfl; have fz := HS.frozen 0 rfl))
  refine wp_sat (varset HS 0 rfl) (fun w HS => ?_)
  clear cz fz c64
  have c64 : w.cell? ⟨gs, 64, none⟩ = some (.int .i64 pc) := by rw [← HP1.out]; exact (st_cell HS 5 rfl 64).trans (stL_pc hs1)
  have h0b : decide (pc < 0) = false := decide_eq_false (by omega)
  have h1b : decide ((code.length : Int) ≤ pc) = false := decide_eq_false (by omega)
  obtain ⟨ad, rfl, x0, x1, x2, x3, x4, x5⟩ := at_T58 (hC w HS.tail.tail.tail.tail.tail.tail) pc h0 h1
  rw [hi] at x0 x1 x2 x3 x4 x5
  dsimp only at x0 x1 x2 x3 x4 x5
  have q1 := eq_true h0
  have q2 := eq_true h1
  have HI := Aside0.mk hi
  have HH := Aside0.mk (And.intro h0 h1)
  clear hi h0 h1
  go_upto_region 8 with (first | ((with_reducible refine gate_dst (N := 12) rfl ?_); go_must (refine ev_box HS rfl (N := 12) rfl (cs := #[.int .i64 0, .int .i64 0, .int .i64 0, .int .i64 0, .int .i64 0, .int .i64 0]) (t := 58) ?hrun ?_); (case hrun => first | (go_simp; done) | (go_simp; rfl)); clear HS; intro gi w HS) | ((with_reducible refine gate_store (t := 58) (p := 12) rfl ?_); go_must (refine ev_store HS 0 rfl rfl 58 (.tmp 12) (.tmp 51) rfl rfl rfl [.int .i64 (9), .int .i64 i1, .int .i64 i2, .int .i64 i3, .int .i64 i4, .int .i64 i5] ?hx (by kernel_rfl) (by rfl) ?h1 ?_); (case hx => first | rfl | (go_simp; done)); (case h1 => simp [Value.oneCell']); clear HS; intro w HS))
  clear x0 x1 x2 x3 x4 x5 q1 q2 h0b h1b c64
  have ci := HS.cell 0 rfl
  have fs := HS.frozen 6 rfl
  have cA : w.cell? ⟨gs, i2.toNat, none⟩ = some (.int .i64 (rd s.regs i2)) := by rw [← HRG.out]; exact (st_cell HS 6 rfl i2.toNat).trans (stL_reg hs1 _ (by omega))
  have cB : w.cell? ⟨gs, i3.toNat, none⟩ = some (.int .i64 (rd s.regs i3)) := by rw [← HRG.out]; exact (st_cell HS 6 rfl i3.toNat).trans (stL_reg hs1 _ (by omega))
  have cD : w.cell? ⟨gs, i1.toNat, none⟩ = some (.int .i64 (rd s.regs i1)) := by rw [← HRG.out]; exact (st_cell HS 6 rfl i1.toNat).trans (stL_reg hs1 _ (by omega))
  have c63 : w.cell? ⟨gs, 63, none⟩ = some (.int .i64 (rd s.regs 63)) := by rw [← HRG.out]; exact (st_cell HS 6 rfl 63).trans (stL_reg hs1 63 (by decide))
  have c64 : w.cell? ⟨gs, 64, none⟩ = some (.int .i64 pc) := by rw [← HP1.out]; exact (st_cell HS 6 rfl 64).trans (stL_pc hs1)
  go_upto_region 9 with (fail)
  go_wp2
  go_still_tail 8, (by kernel_rfl)
  simp only [i64_w]
  (replace HS := HS.drew; (first | show Exit.then _ _ _ _ (World.drew w) | show wpList _ _ _ _ _ (World.drew w)); generalize World.drew w = w at HS ⊢)
  obtain ⟨X, hX⟩ : ∃ X, X = wrap64 (rd s.regs i2 + i5) := ⟨_, rfl⟩
  rw [← hX]
  have HXX := Aside0.mk hX
  clear hX
  clear ci cA cB cD c63 c64 fs
  have ci := HS.cell 0 rfl
  have fs := HS.frozen 6 rfl
  have cA : w.cell? ⟨gs, i2.toNat, none⟩ = some (.int .i64 (rd s.regs i2)) := by rw [← HRG.out]; exact (st_cell HS 6 rfl i2.toNat).trans (stL_reg hs1 _ (by omega))
  have cB : w.cell? ⟨gs, i3.toNat, none⟩ = some (.int .i64 (rd s.regs i3)) := by rw [← HRG.out]; exact (st_cell HS 6 rfl i3.toNat).trans (stL_reg hs1 _ (by omega))
  have cD : w.cell? ⟨gs, i1.toNat, none⟩ = some (.int .i64 (rd s.regs i1)) := by rw [← HRG.out]; exact (st_cell HS 6 rfl i1.toNat).trans (stL_reg hs1 _ (by omega))
  have c63 : w.cell? ⟨gs, 63, none⟩ = some (.int .i64 (rd s.regs 63)) := by rw [← HRG.out]; exact (st_cell HS 6 rfl 63).trans (stL_reg hs1 63 (by decide))
  have c64 : w.cell? ⟨gs, 64, none⟩ = some (.int .i64 pc) := by rw [← HP1.out]; exact (st_cell HS 6 rfl 64).trans (stL_pc hs1)
  have cg := HS.cell 1 rfl
  go_upto_region 52 with (first | ((with_reducible refine gate_dst (N := 241) rfl ?_); go_must (refine ev_lit k53 (e := 53) HS rfl (N := 241) rfl (xs := [⟨2, (rd s.regs 63), 0⟩]) (inner := [.int .i64 2, .int .i64 ((rd s.regs 63)), .int .i64 (0)]) ?hrun (reps1 ⟨2, (rd s.regs 63), 0⟩) (by first | decide | simp) ?_); (case hrun => first | (go_simp; done) | (go_simp; rfl)); clear HS; intro gl2 w HS) | (((with_reducible refine gate_builtin (b := .append) (xs := #[.tmp 238, .tmp 241]) rfl ?_); go_must (refine ev_append k53 HS 3 (.tmp 238) (.tmp 241) 37 53 (.agg #[.int .i64 0, .int .i64 0, .int .i64 0]) 24 rfl (HS.C 0 rfl) (fun _ _ h => h) rfl rfl rfl rfl Try.underlying37 info53 rfl (by decide) (by omega) ((by simp)) ?_); clear HS; intro vo w HS); obtain ⟨Ao2, co2, rfl⟩ := HS.slice 3 rfl; have fz := HS.frozen 2 rfl; have cz := HS.cell 2 rfl))
  refine wp_sat (varset HS 2 rfl) (fun w HS => ?_)
  clear cg fz cz
  replace HS := HS.tail
  clear ci cA cB cD c63 c64 fs
  have ci := HS.cell 0 rfl
  have fs := HS.frozen 6 rfl
  have cA : w.cell? ⟨gs, i2.toNat, none⟩ = some (.int .i64 (rd s.regs i2)) := by rw [← HRG.out]; exact (st_cell HS 6 rfl i2.toNat).trans (stL_reg hs1 _ (by omega))
  have cB : w.cell? ⟨gs, i3.toNat, none⟩ = some (.int .i64 (rd s.regs i3)) := by rw [← HRG.out]; exact (st_cell HS 6 rfl i3.toNat).trans (stL_reg hs1 _ (by omega))
  have cD : w.cell? ⟨gs, i1.toNat, none⟩ = some (.int .i64 (rd s.regs i1)) := by rw [← HRG.out]; exact (st_cell HS 6 rfl i1.toNat).trans (stL_reg hs1 _ (by omega))
  have c63 : w.cell? ⟨gs, 63, none⟩ = some (.int .i64 (rd s.regs 63)) := by rw [← HRG.out]; exact (st_cell HS 6 rfl 63).trans (stL_reg hs1 63 (by decide))
  have c64 : w.cell? ⟨gs, 64, none⟩ = some (.int .i64 pc) := by rw [← HP1.out]; exact (st_cell HS 6 rfl 64).trans (stL_pc hs1)
  go_upto_region 53 with (go_at_call 24; (with_reducible refine (in1_calls ((rd s.regs 63)) 3 rfl HS).mono ?_); rintro e w ⟨rfl, HS_⟩; clear HS; have HS := HS_; clear HS_)
  have HCC := Aside0.mk (stop1_calls (g6 := 0) (s := s1) (4) hs1 (by simp) HS.tail)
  go_wp2_with (first | (go_at_call 23; (with_reducible refine (HCC.out).mono ?_); rintro e w_ ⟨vs_, rfl, HS_⟩; clear HS; have HS := HS_; clear HS_) | ((with_reducible refine gate_store (t := 32) (p := 6) rfl ?_); go_must (refine ev_store HS 2 rfl rfl 32 (.tmp 6) (.tmp 263) rfl rfl rfl (stL (stopF s1 (4))) rfl (len32 (s := stopF s1 (4)) hs1) (by rw [stL_length (s := stopF s1 (4)) hs1]; rfl) (stL_one _) ?_); clear HS; intro w HS))
  obtain rfl := HPC.out
  obtain rfl := HS1.out
  have hrr := HRR.out
  obtain rfl := HXX.out
  obtain rfl := hrr
  exact bodyPost_ret (results_ctt Try.results14 _ _ g6 _ _ (0, 0) _ rfl (HS.blk 2 rfl) Try.underlying32 rfl (size32 hs1)) rfl ⟨_, _, _, _, rfl, (((HS.front 1 rfl).front 1 rfl).erase 2)⟩

set_option maxRecDepth 100000 in
set_option maxHeartbeats 4000000 in
theorem one_ret_neg (i1 i2 i3 i4 i5 : Int) (hC : ∀ w, Sat W0 w L → Kd.C k58 w A code.length code) (hM : ∀ w, Sat W0 w L → Kd.C (Kd.int .i64) w Am0 m.length m) (hml : m.length ≤ 1000000) (hs : s.regs.length = 64) (h0 : 0 ≤ s.pc) (h1 : s.pc < (code.length : Int)) (hi : rd_T58 code s.pc = ⟨9, i1, i2, i3, i4, i5⟩) (hf : Fit (⟨9, i1, i2, i3, i4, i5⟩ : S58)) (hin : (decide (0 ≤ (rd s.regs 63)) && decide ((rd s.regs 63) < (m.length : Int))) = true) (hv0 : decide ((rd m (rd s.regs 63)) < 0) = true) (r : St × List Int × List S53) (hr : r = (stopF { s with steps := wrap64 (s.steps + 1) } 4, m, [⟨1, s.pc, 0⟩, ⟨2, (rd s.regs 63), 0⟩, ⟨5, 4, 0⟩])) (HS : Sat W0 w L) :
    Calls Try.prog 14 #[.slice A code.length c, .agg (stL s).toArray, .slice Am0 m.length cm0] w (OnePost W0 L r) := by
  have HRR := Aside0.mk hr
  clear hr
  obtain ⟨d0, d1, a0, a1, b0, b1⟩ := hf
  dsimp only at d0 d1 a0 a1 b0 b1
  go_enter Try.func14, Try.ntmps14
  go_upto_region 1 with (first | ((with_reducible refine gate_dst (N := 4) rfl ?_); go_must (refine ev_box HS rfl (N := 4) rfl (cs := (stL s).toArray) (t := 32) ?hrun ?_); (case hrun => first | (go_simp; done) | (go_simp; rfl)); clear HS; intro gs w HS) | ((with_reducible refine gate_dst (N := 6) rfl ?_); go_must (refine ev_box HS rfl (N := 6) rfl (cs := (stL z0).toArray) (t := 32) ?hrun ?_); (case hrun => first | (go_simp; done) | (go_simp; rfl)); clear HS; intro g6 w HS))
  go_upto_region 2 with (first | ((with_reducible refine gate_dst (N := 20) rfl ?_); go_must (refine ev_lit IW (e := 2) HS rfl (N := 20) rfl (xs := ([] : List Int)) (inner := []) ?hrun (Reps.none _ _) (by first | decide | simp) ?_); (case hrun => first | (go_simp; done) | (go_simp; rfl)); clear HS; intro gl w HS) | (((with_reducible refine gate_builtin (b := .append) (xs := #[.tmp 20, .tmp 21]) rfl ?_); go_must (refine ev_append IW HS 0 (.tmp 20) (.tmp 21) 35 2 (.int .i64 0) 8 rfl (hM _ HS.tail.tail.tail) (fun _ _ h => h) rfl rfl rfl rfl Try.underlying35 info2 rfl (by decide) (by omega) ((by simp; omega)) ?_); clear HS; intro vm w HS); rw [List.nil_append] at HS; obtain ⟨Am, cm, rfl⟩ := HS.slice 0 rfl) | (((with_reducible refine gate_dst (N := 9) rfl ?_); go_must (refine ev_box HS rfl (N := 9) rfl (cs := #[.slice none 0 0]) (t := 35) ?hrun ?_); (case hrun => first | (go_simp; done) | (go_simp; rfl)); clear HS; intro gm w HS); have cz := HS.cell 0 rfl; have fz := HS.frozen 0 rfl))
  refine wp_sat (varset HS 0 rfl) (fun w HS => ?_)
  clear cz fz
  have fs := HS.frozen 3 rfl
  have c68 := (st_cell HS 3 rfl 68).trans (stL_steps hs)
  go_upto_region 3 with (fail)
  refine wp_sat (stset (s' := { s with steps := wrap64 (s.steps + 1) }) HS 3 rfl 68 (.int .i64 (wrap64 (s.steps + 1))) (set_steps hs _)) (fun w HS => ?_)
  clear fs c68
  obtain ⟨pc, hpc⟩ : ∃ pc, pc = s.pc := ⟨_, rfl⟩
  rw [← hpc] at h0 h1 hi
  have HPC := Aside0.mk hpc
  clear hpc
  obtain ⟨s1, hs1e⟩ : ∃ s1 : St, s1 = { s with steps := wrap64 (s.steps + 1) } := ⟨_, rfl⟩
  rw [← hs1e] at HS
  have hs1 : s1.regs.length = 64 := by rw [hs1e]; exact hs
  have HP1 := Aside0.mk (show s1.pc = pc by rw [hs1e, HPC.out])
  have HRG := Aside0.mk (show s1.regs = s.regs by rw [hs1e])
  have HS1 := Aside0.mk hs1e
  clear hs1e
  have c64 : w.cell? ⟨gs, 64, none⟩ = some (.int .i64 pc) := by rw [← HP1.out]; exact (st_cell HS 3 rfl 64).trans (stL_pc hs1)
  go_upto_region 4 with (first | ((with_reducible refine gate_dst (N := 30) rfl ?_); go_must (refine ev_lit k53 (e := 53) HS rfl (N := 30) rfl (xs := [⟨1, pc, 0⟩]) (inner := [.int .i64 1, .int .i64 pc, .int .i64 0]) ?hrun (reps1 ⟨1, pc, 0⟩) (by first | decide | simp) ?_); (case hrun => first | (go_simp; done) | (go_simp; rfl)); clear HS; intro go1 w HS) | (((with_reducible refine gate_dst (N := 10) rfl ?_); go_must (refine ev_box HS rfl (N := 10) rfl (cs := #[.slice none 0 0]) (t := 37) ?hrun ?_); (case hrun => first | (go_simp; done) | (go_simp; rfl)); clear HS; intro go w HS); have cz := HS.cell 0 rfl; have fz := HS.frozen 0 rfl))
  refine wp_sat (varset HS 0 rfl) (fun w HS => ?_)
  clear cz fz c64
  have c64 : w.cell? ⟨gs, 64, none⟩ = some (.int .i64 pc) := by rw [← HP1.out]; exact (st_cell HS 5 rfl 64).trans (stL_pc hs1)
  have h0b : decide (pc < 0) = false := decide_eq_false (by omega)
  have h1b : decide ((code.length : Int) ≤ pc) = false := decide_eq_false (by omega)
  obtain ⟨ad, rfl, x0, x1, x2, x3, x4, x5⟩ := at_T58 (hC w HS.tail.tail.tail.tail.tail.tail) pc h0 h1
  rw [hi] at x0 x1 x2 x3 x4 x5
  dsimp only at x0 x1 x2 x3 x4 x5
  have q1 := eq_true h0
  have q2 := eq_true h1
  have HI := Aside0.mk hi
  have HH := Aside0.mk (And.intro h0 h1)
  clear hi h0 h1
  go_upto_region 8 with (first | ((with_reducible refine gate_dst (N := 12) rfl ?_); go_must (refine ev_box HS rfl (N := 12) rfl (cs := #[.int .i64 0, .int .i64 0, .int .i64 0, .int .i64 0, .int .i64 0, .int .i64 0]) (t := 58) ?hrun ?_); (case hrun => first | (go_simp; done) | (go_simp; rfl)); clear HS; intro gi w HS) | ((with_reducible refine gate_store (t := 58) (p := 12) rfl ?_); go_must (refine ev_store HS 0 rfl rfl 58 (.tmp 12) (.tmp 51) rfl rfl rfl [.int .i64 (9), .int .i64 i1, .int .i64 i2, .int .i64 i3, .int .i64 i4, .int .i64 i5] ?hx (by kernel_rfl) (by rfl) ?h1 ?_); (case hx => first | rfl | (go_simp; done)); (case h1 => simp [Value.oneCell']); clear HS; intro w HS))
  clear x0 x1 x2 x3 x4 x5 q1 q2 h0b h1b c64
  have ci := HS.cell 0 rfl
  have fs := HS.frozen 6 rfl
  have cA : w.cell? ⟨gs, i2.toNat, none⟩ = some (.int .i64 (rd s.regs i2)) := by rw [← HRG.out]; exact (st_cell HS 6 rfl i2.toNat).trans (stL_reg hs1 _ (by omega))
  have cB : w.cell? ⟨gs, i3.toNat, none⟩ = some (.int .i64 (rd s.regs i3)) := by rw [← HRG.out]; exact (st_cell HS 6 rfl i3.toNat).trans (stL_reg hs1 _ (by omega))
  have cD : w.cell? ⟨gs, i1.toNat, none⟩ = some (.int .i64 (rd s.regs i1)) := by rw [← HRG.out]; exact (st_cell HS 6 rfl i1.toNat).trans (stL_reg hs1 _ (by omega))
  have c63 : w.cell? ⟨gs, 63, none⟩ = some (.int .i64 (rd s.regs 63)) := by rw [← HRG.out]; exact (st_cell HS 6 rfl 63).trans (stL_reg hs1 63 (by decide))
  have c64 : w.cell? ⟨gs, 64, none⟩ = some (.int .i64 pc) := by rw [← HP1.out]; exact (st_cell HS 6 rfl 64).trans (stL_pc hs1)
  go_upto_region 9 with (fail)
  go_wp2
  go_still_tail 8, (by kernel_rfl)
  simp only [i64_w]
  (replace HS := HS.drew; (first | show Exit.then _ _ _ _ (World.drew w) | show wpList _ _ _ _ _ (World.drew w)); generalize World.drew w = w at HS ⊢)
  obtain ⟨X, hX⟩ : ∃ X, X = wrap64 (rd s.regs i2 + i5) := ⟨_, rfl⟩
  rw [← hX]
  have HXX := Aside0.mk hX
  clear hX
  clear ci cA cB cD c63 c64 fs
  have ci := HS.cell 0 rfl
  have fs := HS.frozen 6 rfl
  have cA : w.cell? ⟨gs, i2.toNat, none⟩ = some (.int .i64 (rd s.regs i2)) := by rw [← HRG.out]; exact (st_cell HS 6 rfl i2.toNat).trans (stL_reg hs1 _ (by omega))
  have cB : w.cell? ⟨gs, i3.toNat, none⟩ = some (.int .i64 (rd s.regs i3)) := by rw [← HRG.out]; exact (st_cell HS 6 rfl i3.toNat).trans (stL_reg hs1 _ (by omega))
  have cD : w.cell? ⟨gs, i1.toNat, none⟩ = some (.int .i64 (rd s.regs i1)) := by rw [← HRG.out]; exact (st_cell HS 6 rfl i1.toNat).trans (stL_reg hs1 _ (by omega))
  have c63 : w.cell? ⟨gs, 63, none⟩ = some (.int .i64 (rd s.regs 63)) := by rw [← HRG.out]; exact (st_cell HS 6 rfl 63).trans (stL_reg hs1 63 (by decide))
  have c64 : w.cell? ⟨gs, 64, none⟩ = some (.int .i64 pc) := by rw [← HP1.out]; exact (st_cell HS 6 rfl 64).trans (stL_pc hs1)
  have hX0 : 0 ≤ (rd s.regs 63) := by simp only [Bool.and_eq_true, decide_eq_true_eq] at hin; exact hin.1
  have hX1 : (rd s.regs 63) < (m.length : Int) := by simp only [Bool.and_eq_true, decide_eq_true_eq] at hin; exact hin.2
  have hx0t := eq_true hX0
  have hx1t := eq_true hX1
  have cg := HS.cell 1 rfl
  go_upto_region 52 with (first | ((with_reducible refine gate_dst (N := 241) rfl ?_); go_must (refine ev_lit k53 (e := 53) HS rfl (N := 241) rfl (xs := [⟨2, (rd s.regs 63), 0⟩]) (inner := [.int .i64 2, .int .i64 ((rd s.regs 63)), .int .i64 (0)]) ?hrun (reps1 ⟨2, (rd s.regs 63), 0⟩) (by first | decide | simp) ?_); (case hrun => first | (go_simp; done) | (go_simp; rfl)); clear HS; intro gl2 w HS) | (((with_reducible refine gate_builtin (b := .append) (xs := #[.tmp 238, .tmp 241]) rfl ?_); go_must (refine ev_append k53 HS 3 (.tmp 238) (.tmp 241) 37 53 (.agg #[.int .i64 0, .int .i64 0, .int .i64 0]) 24 rfl (HS.C 0 rfl) (fun _ _ h => h) rfl rfl rfl rfl Try.underlying37 info53 rfl (by decide) (by omega) ((by simp)) ?_); clear HS; intro vo w HS); obtain ⟨Ao2, co2, rfl⟩ := HS.slice 3 rfl; have fz := HS.frozen 2 rfl; have cz := HS.cell 2 rfl))
  refine wp_sat (varset HS 2 rfl) (fun w HS => ?_)
  clear cg fz cz
  replace HS := HS.tail
  clear ci cA cB cD c63 c64 fs
  have ci := HS.cell 0 rfl
  have fs := HS.frozen 6 rfl
  have cA : w.cell? ⟨gs, i2.toNat, none⟩ = some (.int .i64 (rd s.regs i2)) := by rw [← HRG.out]; exact (st_cell HS 6 rfl i2.toNat).trans (stL_reg hs1 _ (by omega))
  have cB : w.cell? ⟨gs, i3.toNat, none⟩ = some (.int .i64 (rd s.regs i3)) := by rw [← HRG.out]; exact (st_cell HS 6 rfl i3.toNat).trans (stL_reg hs1 _ (by omega))
  have cD : w.cell? ⟨gs, i1.toNat, none⟩ = some (.int .i64 (rd s.regs i1)) := by rw [← HRG.out]; exact (st_cell HS 6 rfl i1.toNat).trans (stL_reg hs1 _ (by omega))
  have c63 : w.cell? ⟨gs, 63, none⟩ = some (.int .i64 (rd s.regs 63)) := by rw [← HRG.out]; exact (st_cell HS 6 rfl 63).trans (stL_reg hs1 63 (by decide))
  have c64 : w.cell? ⟨gs, 64, none⟩ = some (.int .i64 pc) := by rw [← HP1.out]; exact (st_cell HS 6 rfl 64).trans (stL_pc hs1)
  go_upto_region 53 with (go_at_call 24; (with_reducible refine (in1_calls ((rd s.regs 63)) 3 rfl HS).mono ?_); rintro e w ⟨rfl, HS_⟩; clear HS; have HS := HS_; clear HS_; have cm_ := HS.cell 3 rfl; obtain ⟨gq, rfl, hcell, hfr, hset⟩ := Sat.word HS 4 rfl (rd s.regs 63) hX0 hX1)
  clear hcell hfr hset cm_
  have HCC := Aside0.mk (stop1_calls (g6 := 0) (s := s1) (4) hs1 (by simp) HS.tail)
  go_wp2_with (first | (go_at_call 23; (with_reducible refine (HCC.out).mono ?_); rintro e w_ ⟨vs_, rfl, HS_⟩; clear HS; have HS := HS_; clear HS_) | ((with_reducible refine gate_store (t := 32) (p := 6) rfl ?_); go_must (refine ev_store HS 2 rfl rfl 32 (.tmp 6) (.tmp 263) rfl rfl rfl (stL (stopF s1 (4))) rfl (len32 (s := stopF s1 (4)) hs1) (by rw [stL_length (s := stopF s1 (4)) hs1]; rfl) (stL_one _) ?_); clear HS; intro w HS))
  obtain rfl := HPC.out
  obtain rfl := HS1.out
  have hrr := HRR.out
  obtain rfl := HXX.out
  obtain rfl := hrr
  exact bodyPost_ret (results_ctt Try.results14 _ _ g6 _ _ (0, 0) _ rfl (HS.blk 2 rfl) Try.underlying32 rfl (size32 hs1)) rfl ⟨_, _, _, _, rfl, (((HS.front 1 rfl).front 1 rfl).erase 2)⟩

set_option maxRecDepth 100000 in
set_option maxHeartbeats 4000000 in
theorem one_ret_far (i1 i2 i3 i4 i5 : Int) (hC : ∀ w, Sat W0 w L → Kd.C k58 w A code.length code) (hM : ∀ w, Sat W0 w L → Kd.C (Kd.int .i64) w Am0 m.length m) (hml : m.length ≤ 1000000) (hs : s.regs.length = 64) (h0 : 0 ≤ s.pc) (h1 : s.pc < (code.length : Int)) (hi : rd_T58 code s.pc = ⟨9, i1, i2, i3, i4, i5⟩) (hf : Fit (⟨9, i1, i2, i3, i4, i5⟩ : S58)) (hin : (decide (0 ≤ (rd s.regs 63)) && decide ((rd s.regs 63) < (m.length : Int))) = true) (hv0 : decide ((rd m (rd s.regs 63)) < 0) = false) (hv1 : decide (32767 < (rd m (rd s.regs 63))) = true) (r : St × List Int × List S53) (hr : r = (stopF { s with steps := wrap64 (s.steps + 1) } 4, m, [⟨1, s.pc, 0⟩, ⟨2, (rd s.regs 63), 0⟩, ⟨5, 4, 0⟩])) (HS : Sat W0 w L) :
    Calls Try.prog 14 #[.slice A code.length c, .agg (stL s).toArray, .slice Am0 m.length cm0] w (OnePost W0 L r) := by
  have HRR := Aside0.mk hr
  clear hr
  obtain ⟨d0, d1, a0, a1, b0, b1⟩ := hf
  dsimp only at d0 d1 a0 a1 b0 b1
  go_enter Try.func14, Try.ntmps14
  go_upto_region 1 with (first | ((with_reducible refine gate_dst (N := 4) rfl ?_); go_must (refine ev_box HS rfl (N := 4) rfl (cs := (stL s).toArray) (t := 32) ?hrun ?_); (case hrun => first | (go_simp; done) | (go_simp; rfl)); clear HS; intro gs w HS) | ((with_reducible refine gate_dst (N := 6) rfl ?_); go_must (refine ev_box HS rfl (N := 6) rfl (cs := (stL z0).toArray) (t := 32) ?hrun ?_); (case hrun => first | (go_simp; done) | (go_simp; rfl)); clear HS; intro g6 w HS))
  go_upto_region 2 with (first | ((with_reducible refine gate_dst (N := 20) rfl ?_); go_must (refine ev_lit IW (e := 2) HS rfl (N := 20) rfl (xs := ([] : List Int)) (inner := []) ?hrun (Reps.none _ _) (by first | decide | simp) ?_); (case hrun => first | (go_simp; done) | (go_simp; rfl)); clear HS; intro gl w HS) | (((with_reducible refine gate_builtin (b := .append) (xs := #[.tmp 20, .tmp 21]) rfl ?_); go_must (refine ev_append IW HS 0 (.tmp 20) (.tmp 21) 35 2 (.int .i64 0) 8 rfl (hM _ HS.tail.tail.tail) (fun _ _ h => h) rfl rfl rfl rfl Try.underlying35 info2 rfl (by decide) (by omega) ((by simp; omega)) ?_); clear HS; intro vm w HS); rw [List.nil_append] at HS; obtain ⟨Am, cm, rfl⟩ := HS.slice 0 rfl) | (((with_reducible refine gate_dst (N := 9) rfl ?_); go_must (refine ev_box HS rfl (N := 9) rfl (cs := #[.slice none 0 0]) (t := 35) ?hrun ?_); (case hrun => first | (go_simp; done) | (go_simp; rfl)); clear HS; intro gm w HS); have cz := HS.cell 0 rfl; have fz := HS.frozen 0 rfl))
  refine wp_sat (varset HS 0 rfl) (fun w HS => ?_)
  clear cz fz
  have fs := HS.frozen 3 rfl
  have c68 := (st_cell HS 3 rfl 68).trans (stL_steps hs)
  go_upto_region 3 with (fail)
  refine wp_sat (stset (s' := { s with steps := wrap64 (s.steps + 1) }) HS 3 rfl 68 (.int .i64 (wrap64 (s.steps + 1))) (set_steps hs _)) (fun w HS => ?_)
  clear fs c68
  obtain ⟨pc, hpc⟩ : ∃ pc, pc = s.pc := ⟨_, rfl⟩
  rw [← hpc] at h0 h1 hi
  have HPC := Aside0.mk hpc
  clear hpc
  obtain ⟨s1, hs1e⟩ : ∃ s1 : St, s1 = { s with steps := wrap64 (s.steps + 1) } := ⟨_, rfl⟩
  rw [← hs1e] at HS
  have hs1 : s1.regs.length = 64 := by rw [hs1e]; exact hs
  have HP1 := Aside0.mk (show s1.pc = pc by rw [hs1e, HPC.out])
  have HRG := Aside0.mk (show s1.regs = s.regs by rw [hs1e])
  have HS1 := Aside0.mk hs1e
  clear hs1e
  have c64 : w.cell? ⟨gs, 64, none⟩ = some (.int .i64 pc) := by rw [← HP1.out]; exact (st_cell HS 3 rfl 64).trans (stL_pc hs1)
  go_upto_region 4 with (first | ((with_reducible refine gate_dst (N := 30) rfl ?_); go_must (refine ev_lit k53 (e := 53) HS rfl (N := 30) rfl (xs := [⟨1, pc, 0⟩]) (inner := [.int .i64 1, .int .i64 pc, .int .i64 0]) ?hrun (reps1 ⟨1, pc, 0⟩) (by first | decide | simp) ?_); (case hrun => first | (go_simp; done) | (go_simp; rfl)); clear HS; intro go1 w HS) | (((with_reducible refine gate_dst (N := 10) rfl ?_); go_must (refine ev_box HS rfl (N := 10) rfl (cs := #[.slice none 0 0]) (t := 37) ?hrun ?_); (case hrun => first | (go_simp; done) | (go_simp; rfl)); clear HS; intro go w HS); have cz := HS.cell 0 rfl; have fz := HS.frozen 0 rfl))
  refine wp_sat (varset HS 0 rfl) (fun w HS => ?_)
  clear cz fz c64
  have c64 : w.cell? ⟨gs, 64, none⟩ = some (.int .i64 pc) := by rw [← HP1.out]; exact (st_cell HS 5 rfl 64).trans (stL_pc hs1)
  have h0b : decide (pc < 0) = false := decide_eq_false (by omega)
  have h1b : decide ((code.length : Int) ≤ pc) = false := decide_eq_false (by omega)
  obtain ⟨ad, rfl, x0, x1, x2, x3, x4, x5⟩ := at_T58 (hC w HS.tail.tail.tail.tail.tail.tail) pc h0 h1
  rw [hi] at x0 x1 x2 x3 x4 x5
  dsimp only at x0 x1 x2 x3 x4 x5
  have q1 := eq_true h0
  have q2 := eq_true h1
  have HI := Aside0.mk hi
  have HH := Aside0.mk (And.intro h0 h1)
  clear hi h0 h1
  go_upto_region 8 with (first | ((with_reducible refine gate_dst (N := 12) rfl ?_); go_must (refine ev_box HS rfl (N := 12) rfl (cs := #[.int .i64 0, .int .i64 0, .int .i64 0, .int .i64 0, .int .i64 0, .int .i64 0]) (t := 58) ?hrun ?_); (case hrun => first | (go_simp; done) | (go_simp; rfl)); clear HS; intro gi w HS) | ((with_reducible refine gate_store (t := 58) (p := 12) rfl ?_); go_must (refine ev_store HS 0 rfl rfl 58 (.tmp 12) (.tmp 51) rfl rfl rfl [.int .i64 (9), .int .i64 i1, .int .i64 i2, .int .i64 i3, .int .i64 i4, .int .i64 i5] ?hx (by kernel_rfl) (by rfl) ?h1 ?_); (case hx => first | rfl | (go_simp; done)); (case h1 => simp [Value.oneCell']); clear HS; intro w HS))
  clear x0 x1 x2 x3 x4 x5 q1 q2 h0b h1b c64
  have ci := HS.cell 0 rfl
  have fs := HS.frozen 6 rfl
  have cA : w.cell? ⟨gs, i2.toNat, none⟩ = some (.int .i64 (rd s.regs i2)) := by rw [← HRG.out]; exact (st_cell HS 6 rfl i2.toNat).trans (stL_reg hs1 _ (by omega))
  have cB : w.cell? ⟨gs, i3.toNat, none⟩ = some (.int .i64 (rd s.regs i3)) := by rw [← HRG.out]; exact (st_cell HS 6 rfl i3.toNat).trans (stL_reg hs1 _ (by omega))
  have cD : w.cell? ⟨gs, i1.toNat, none⟩ = some (.int .i64 (rd s.regs i1)) := by rw [← HRG.out]; exact (st_cell HS 6 rfl i1.toNat).trans (stL_reg hs1 _ (by omega))
  have c63 : w.cell? ⟨gs, 63, none⟩ = some (.int .i64 (rd s.regs 63)) := by rw [← HRG.out]; exact (st_cell HS 6 rfl 63).trans (stL_reg hs1 63 (by decide))
  have c64 : w.cell? ⟨gs, 64, none⟩ = some (.int .i64 pc) := by rw [← HP1.out]; exact (st_cell HS 6 rfl 64).trans (stL_pc hs1)
  go_upto_region 9 with (fail)
  go_wp2
  go_still_tail 8, (by kernel_rfl)
  simp only [i64_w]
  (replace HS := HS.drew; (first | show Exit.then _ _ _ _ (World.drew w) | show wpList _ _ _ _ _ (World.drew w)); generalize World.drew w = w at HS ⊢)
  obtain ⟨X, hX⟩ : ∃ X, X = wrap64 (rd s.regs i2 + i5) := ⟨_, rfl⟩
  rw [← hX]
  have HXX := Aside0.mk hX
  clear hX
  clear ci cA cB cD c63 c64 fs
  have ci := HS.cell 0 rfl
  have fs := HS.frozen 6 rfl
  have cA : w.cell? ⟨gs, i2.toNat, none⟩ = some (.int .i64 (rd s.regs i2)) := by rw [← HRG.out]; exact (st_cell HS 6 rfl i2.toNat).trans (stL_reg hs1 _ (by omega))
  have cB : w.cell? ⟨gs, i3.toNat, none⟩ = some (.int .i64 (rd s.regs i3)) := by rw [← HRG.out]; exact (st_cell HS 6 rfl i3.toNat).trans (stL_reg hs1 _ (by omega))
  have cD : w.cell? ⟨gs, i1.toNat, none⟩ = some (.int .i64 (rd s.regs i1)) := by rw [← HRG.out]; exact (st_cell HS 6 rfl i1.toNat).trans (stL_reg hs1 _ (by omega))
  have c63 : w.cell? ⟨gs, 63, none⟩ = some (.int .i64 (rd s.regs 63)) := by rw [← HRG.out]; exact (st_cell HS 6 rfl 63).trans (stL_reg hs1 63 (by decide))
  have c64 : w.cell? ⟨gs, 64, none⟩ = some (.int .i64 pc) := by rw [← HP1.out]; exact (st_cell HS 6 rfl 64).trans (stL_pc hs1)
  have hX0 : 0 ≤ (rd s.regs 63) := by simp only [Bool.and_eq_true, decide_eq_true_eq] at hin; exact hin.1
  have hX1 : (rd s.regs 63) < (m.length : Int) := by simp only [Bool.and_eq_true, decide_eq_true_eq] at hin; exact hin.2
  have hx0t := eq_true hX0
  have hx1t := eq_true hX1
  have cg := HS.cell 1 rfl
  go_upto_region 52 with (first | ((with_reducible refine gate_dst (N := 241) rfl ?_); go_must (refine ev_lit k53 (e := 53) HS rfl (N := 241) rfl (xs := [⟨2, (rd s.regs 63), 0⟩]) (inner := [.int .i64 2, .int .i64 ((rd s.regs 63)), .int .i64 (0)]) ?hrun (reps1 ⟨2, (rd s.regs 63), 0⟩) (by first | decide | simp) ?_); (case hrun => first | (go_simp; done) | (go_simp; rfl)); clear HS; intro gl2 w HS) | (((with_reducible refine gate_builtin (b := .append) (xs := #[.tmp 238, .tmp 241]) rfl ?_); go_must (refine ev_append k53 HS 3 (.tmp 238) (.tmp 241) 37 53 (.agg #[.int .i64 0, .int .i64 0, .int .i64 0]) 24 rfl (HS.C 0 rfl) (fun _ _ h => h) rfl rfl rfl rfl Try.underlying37 info53 rfl (by decide) (by omega) ((by simp)) ?_); clear HS; intro vo w HS); obtain ⟨Ao2, co2, rfl⟩ := HS.slice 3 rfl; have fz := HS.frozen 2 rfl; have cz := HS.cell 2 rfl))
  refine wp_sat (varset HS 2 rfl) (fun w HS => ?_)
  clear cg fz cz
  replace HS := HS.tail
  clear ci cA cB cD c63 c64 fs
  have ci := HS.cell 0 rfl
  have fs := HS.frozen 6 rfl
  have cA : w.cell? ⟨gs, i2.toNat, none⟩ = some (.int .i64 (rd s.regs i2)) := by rw [← HRG.out]; exact (st_cell HS 6 rfl i2.toNat).trans (stL_reg hs1 _ (by omega))
  have cB : w.cell? ⟨gs, i3.toNat, none⟩ = some (.int .i64 (rd s.regs i3)) := by rw [← HRG.out]; exact (st_cell HS 6 rfl i3.toNat).trans (stL_reg hs1 _ (by omega))
  have cD : w.cell? ⟨gs, i1.toNat, none⟩ = some (.int .i64 (rd s.regs i1)) := by rw [← HRG.out]; exact (st_cell HS 6 rfl i1.toNat).trans (stL_reg hs1 _ (by omega))
  have c63 : w.cell? ⟨gs, 63, none⟩ = some (.int .i64 (rd s.regs 63)) := by rw [← HRG.out]; exact (st_cell HS 6 rfl 63).trans (stL_reg hs1 63 (by decide))
  have c64 : w.cell? ⟨gs, 64, none⟩ = some (.int .i64 pc) := by rw [← HP1.out]; exact (st_cell HS 6 rfl 64).trans (stL_pc hs1)
  go_upto_region 53 with (go_at_call 24; (with_reducible refine (in1_calls ((rd s.regs 63)) 3 rfl HS).mono ?_); rintro e w ⟨rfl, HS_⟩; clear HS; have HS := HS_; clear HS_; have cm_ := HS.cell 3 rfl; obtain ⟨gq, rfl, hcell, hfr, hset⟩ := Sat.word HS 4 rfl (rd s.regs 63) hX0 hX1)
  clear hcell hfr hset cm_
  have HCC := Aside0.mk (stop1_calls (g6 := 0) (s := s1) (4) hs1 (by simp) HS.tail)
  go_wp2_with (first | (go_at_call 23; (with_reducible refine (HCC.out).mono ?_); rintro e w_ ⟨vs_, rfl, HS_⟩; clear HS; have HS := HS_; clear HS_) | ((with_reducible refine gate_store (t := 32) (p := 6) rfl ?_); go_must (refine ev_store HS 2 rfl rfl 32 (.tmp 6) (.tmp 263) rfl rfl rfl (stL (stopF s1 (4))) rfl (len32 (s := stopF s1 (4)) hs1) (by rw [stL_length (s := stopF s1 (4)) hs1]; rfl) (stL_one _) ?_); clear HS; intro w HS))
  obtain rfl := HPC.out
  obtain rfl := HS1.out
  have hrr := HRR.out
  obtain rfl := HXX.out
  obtain rfl := hrr
  exact bodyPost_ret (results_ctt Try.results14 _ _ g6 _ _ (0, 0) _ rfl (HS.blk 2 rfl) Try.underlying32 rfl (size32 hs1)) rfl ⟨_, _, _, _, rfl, (((HS.front 1 rfl).front 1 rfl).erase 2)⟩

set_option maxRecDepth 100000 in
set_option maxHeartbeats 4000000 in
theorem one_wild0 (hM : ∀ w, Sat W0 w L → Kd.C (Kd.int .i64) w Am0 m.length m) (hml : m.length ≤ 1000000) (hs : s.regs.length = 64) (hw0 : decide (s.pc < 0) = true) (r : St × List Int × List S53) (hr : r = (stopF { s with steps := wrap64 (s.steps + 1) } 4, m, [⟨1, s.pc, 0⟩, ⟨5, 4, 0⟩])) (HS : Sat W0 w L) :
    Calls Try.prog 14 #[.slice A code.length c, .agg (stL s).toArray, .slice Am0 m.length cm0] w (OnePost W0 L r) := by
  have HRR := Aside0.mk hr
  clear hr
  go_enter Try.func14, Try.ntmps14
  go_upto_region 1 with (first | ((with_reducible refine gate_dst (N := 4) rfl ?_); go_must (refine ev_box HS rfl (N := 4) rfl (cs := (stL s).toArray) (t := 32) ?hrun ?_); (case hrun => first | (go_simp; done) | (go_simp; rfl)); clear HS; intro gs w HS) | ((with_reducible refine gate_dst (N := 6) rfl ?_); go_must (refine ev_box HS rfl (N := 6) rfl (cs := (stL z0).toArray) (t := 32) ?hrun ?_); (case hrun => first | (go_simp; done) | (go_simp; rfl)); clear HS; intro g6 w HS))
  go_upto_region 2 with (first | ((with_reducible refine gate_dst (N := 20) rfl ?_); go_must (refine ev_lit IW (e := 2) HS rfl (N := 20) rfl (xs := ([] : List Int)) (inner := []) ?hrun (Reps.none _ _) (by first | decide | simp) ?_); (case hrun => first | (go_simp; done) | (go_simp; rfl)); clear HS; intro gl w HS) | (((with_reducible refine gate_builtin (b := .append) (xs := #[.tmp 20, .tmp 21]) rfl ?_); go_must (refine ev_append IW HS 0 (.tmp 20) (.tmp 21) 35 2 (.int .i64 0) 8 rfl (hM _ HS.tail.tail.tail) (fun _ _ h => h) rfl rfl rfl rfl Try.underlying35 info2 rfl (by decide) (by omega) ((by simp; omega)) ?_); clear HS; intro vm w HS); rw [List.nil_append] at HS; obtain ⟨Am, cm, rfl⟩ := HS.slice 0 rfl) | (((with_reducible refine gate_dst (N := 9) rfl ?_); go_must (refine ev_box HS rfl (N := 9) rfl (cs := #[.slice none 0 0]) (t := 35) ?hrun ?_); (case hrun => first | (go_simp; done) | (go_simp; rfl)); clear HS; intro gm w HS); have cz := HS.cell 0 rfl; have fz := HS.frozen 0 rfl))
  refine wp_sat (varset HS 0 rfl) (fun w HS => ?_)
  clear cz fz
  have fs := HS.frozen 3 rfl
  have c68 := (st_cell HS 3 rfl 68).trans (stL_steps hs)
  go_upto_region 3 with (fail)
  refine wp_sat (stset (s' := { s with steps := wrap64 (s.steps + 1) }) HS 3 rfl 68 (.int .i64 (wrap64 (s.steps + 1))) (set_steps hs _)) (fun w HS => ?_)
  clear fs c68
  obtain ⟨pc, hpc⟩ : ∃ pc, pc = s.pc := ⟨_, rfl⟩
  rw [← hpc] at hw0
  have HPC := Aside0.mk hpc
  clear hpc
  obtain ⟨s1, hs1e⟩ : ∃ s1 : St, s1 = { s with steps := wrap64 (s.steps + 1) } := ⟨_, rfl⟩
  rw [← hs1e] at HS
  have hs1 : s1.regs.length = 64 := by rw [hs1e]; exact hs
  have HP1 := Aside0.mk (show s1.pc = pc by rw [hs1e, HPC.out])
  have HRG := Aside0.mk (show s1.regs = s.regs by rw [hs1e])
  have HS1 := Aside0.mk hs1e
  clear hs1e
  have c64 : w.cell? ⟨gs, 64, none⟩ = some (.int .i64 pc) := by rw [← HP1.out]; exact (st_cell HS 3 rfl 64).trans (stL_pc hs1)
  go_upto_region 4 with (first | ((with_reducible refine gate_dst (N := 30) rfl ?_); go_must (refine ev_lit k53 (e := 53) HS rfl (N := 30) rfl (xs := [⟨1, pc, 0⟩]) (inner := [.int .i64 1, .int .i64 pc, .int .i64 0]) ?hrun (reps1 ⟨1, pc, 0⟩) (by first | decide | simp) ?_); (case hrun => first | (go_simp; done) | (go_simp; rfl)); clear HS; intro go1 w HS) | (((with_reducible refine gate_dst (N := 10) rfl ?_); go_must (refine ev_box HS rfl (N := 10) rfl (cs := #[.slice none 0 0]) (t := 37) ?hrun ?_); (case hrun => first | (go_simp; done) | (go_simp; rfl)); clear HS; intro go w HS); have cz := HS.cell 0 rfl; have fz := HS.frozen 0 rfl))
  refine wp_sat (varset HS 0 rfl) (fun w HS => ?_)
  clear cz fz c64
  have c64 : w.cell? ⟨gs, 64, none⟩ = some (.int .i64 pc) := by rw [← HP1.out]; exact (st_cell HS 5 rfl 64).trans (stL_pc hs1)
  have HCC := Aside0.mk (stop1_calls (g6 := 0) (s := s1) (4) hs1 (by simp) HS)
  go_wp2_with (first | (go_at_call 23; (with_reducible refine (HCC.out).mono ?_); rintro e w_ ⟨vs_, rfl, HS_⟩; clear HS; have HS := HS_; clear HS_) | ((with_reducible refine gate_store (t := 32) (p := 6) rfl ?_); go_must (refine ev_store HS 2 rfl rfl 32 (.tmp 6) (.tmp 44) rfl rfl rfl (stL (stopF s1 (4))) rfl (len32 (s := stopF s1 (4)) hs1) (by rw [stL_length (s := stopF s1 (4)) hs1]; rfl) (stL_one _) ?_); clear HS; intro w HS))
  obtain rfl := HPC.out
  obtain rfl := HS1.out
  have hrr := HRR.out
  obtain rfl := hrr
  exact bodyPost_ret (results_ctt Try.results14 _ _ g6 _ _ (0, 0) _ rfl (HS.blk 2 rfl) Try.underlying32 rfl (size32 hs1)) rfl ⟨_, _, _, _, rfl, (((HS.front 1 rfl).front 1 rfl).erase 2)⟩

set_option maxRecDepth 100000 in
set_option maxHeartbeats 4000000 in
theorem one_wild1 (hM : ∀ w, Sat W0 w L → Kd.C (Kd.int .i64) w Am0 m.length m) (hml : m.length ≤ 1000000) (hs : s.regs.length = 64) (hw0 : decide (s.pc < 0) = false) (hw1 : decide ((code.length : Int) ≤ s.pc) = true) (r : St × List Int × List S53) (hr : r = (stopF { s with steps := wrap64 (s.steps + 1) } 4, m, [⟨1, s.pc, 0⟩, ⟨5, 4, 0⟩])) (HS : Sat W0 w L) :
    Calls Try.prog 14 #[.slice A code.length c, .agg (stL s).toArray, .slice Am0 m.length cm0] w (OnePost W0 L r) := by
  have HRR := Aside0.mk hr
  clear hr
  go_enter Try.func14, Try.ntmps14
  go_upto_region 1 with (first | ((with_reducible refine gate_dst (N := 4) rfl ?_); go_must (refine ev_box HS rfl (N := 4) rfl (cs := (stL s).toArray) (t := 32) ?hrun ?_); (case hrun => first | (go_simp; done) | (go_simp; rfl)); clear HS; intro gs w HS) | ((with_reducible refine gate_dst (N := 6) rfl ?_); go_must (refine ev_box HS rfl (N := 6) rfl (cs := (stL z0).toArray) (t := 32) ?hrun ?_); (case hrun => first | (go_simp; done) | (go_simp; rfl)); clear HS; intro g6 w HS))
  go_upto_region 2 with (first | ((with_reducible refine gate_dst (N := 20) rfl ?_); go_must (refine ev_lit IW (e := 2) HS rfl (N := 20) rfl (xs := ([] : List Int)) (inner := []) ?hrun (Reps.none _ _) (by first | decide | simp) ?_); (case hrun => first | (go_simp; done) | (go_simp; rfl)); clear HS; intro gl w HS) | (((with_reducible refine gate_builtin (b := .append) (xs := #[.tmp 20, .tmp 21]) rfl ?_); go_must (refine ev_append IW HS 0 (.tmp 20) (.tmp 21) 35 2 (.int .i64 0) 8 rfl (hM _ HS.tail.tail.tail) (fun _ _ h => h) rfl rfl rfl rfl Try.underlying35 info2 rfl (by decide) (by omega) ((by simp; omega)) ?_); clear HS; intro vm w HS); rw [List.nil_append] at HS; obtain ⟨Am, cm, rfl⟩ := HS.slice 0 rfl) | (((with_reducible refine gate_dst (N := 9) rfl ?_); go_must (refine ev_box HS rfl (N := 9) rfl (cs := #[.slice none 0 0]) (t := 35) ?hrun ?_); (case hrun => first | (go_simp; done) | (go_simp; rfl)); clear HS; intro gm w HS); have cz := HS.cell 0 rfl; have fz := HS.frozen 0 rfl))
  refine wp_sat (varset HS 0 rfl) (fun w HS => ?_)
  clear cz fz
  have fs := HS.frozen 3 rfl
  have c68 := (st_cell HS 3 rfl 68).trans (stL_steps hs)
  go_upto_region 3 with (fail)
  refine wp_sat (stset (s' := { s with steps := wrap64 (s.steps + 1) }) HS 3 rfl 68 (.int .i64 (wrap64 (s.steps + 1))) (set_steps hs _)) (fun w HS => ?_)
  clear fs c68
  obtain ⟨pc, hpc⟩ : ∃ pc, pc = s.pc := ⟨_, rfl⟩
  rw [← hpc] at hw0 hw1
  have HPC := Aside0.mk hpc
  clear hpc
  obtain ⟨s1, hs1e⟩ : ∃ s1 : St, s1 = { s with steps := wrap64 (s.steps + 1) } := ⟨_, rfl⟩
  rw [← hs1e] at HS
  have hs1 : s1.regs.length = 64 := by rw [hs1e]; exact hs
  have HP1 := Aside0.mk (show s1.pc = pc by rw [hs1e, HPC.out])
  have HRG := Aside0.mk (show s1.regs = s.regs by rw [hs1e])
  have HS1 := Aside0.mk hs1e
  clear hs1e
  have c64 : w.cell? ⟨gs, 64, none⟩ = some (.int .i64 pc) := by rw [← HP1.out]; exact (st_cell HS 3 rfl 64).trans (stL_pc hs1)
  go_upto_region 4 with (first | ((with_reducible refine gate_dst (N := 30) rfl ?_); go_must (refine ev_lit k53 (e := 53) HS rfl (N := 30) rfl (xs := [⟨1, pc, 0⟩]) (inner := [.int .i64 1, .int .i64 pc, .int .i64 0]) ?hrun (reps1 ⟨1, pc, 0⟩) (by first | decide | simp) ?_); (case hrun => first | (go_simp; done) | (go_simp; rfl)); clear HS; intro go1 w HS) | (((with_reducible refine gate_dst (N := 10) rfl ?_); go_must (refine ev_box HS rfl (N := 10) rfl (cs := #[.slice none 0 0]) (t := 37) ?hrun ?_); (case hrun => first | (go_simp; done) | (go_simp; rfl)); clear HS; intro go w HS); have cz := HS.cell 0 rfl; have fz := HS.frozen 0 rfl))
  refine wp_sat (varset HS 0 rfl) (fun w HS => ?_)
  clear cz fz c64
  have c64 : w.cell? ⟨gs, 64, none⟩ = some (.int .i64 pc) := by rw [← HP1.out]; exact (st_cell HS 5 rfl 64).trans (stL_pc hs1)
  have HCC := Aside0.mk (stop1_calls (g6 := 0) (s := s1) (4) hs1 (by simp) HS)
  go_wp2_with (first | (go_at_call 23; (with_reducible refine (HCC.out).mono ?_); rintro e w_ ⟨vs_, rfl, HS_⟩; clear HS; have HS := HS_; clear HS_) | ((with_reducible refine gate_store (t := 32) (p := 6) rfl ?_); go_must (refine ev_store HS 2 rfl rfl 32 (.tmp 6) (.tmp 44) rfl rfl rfl (stL (stopF s1 (4))) rfl (len32 (s := stopF s1 (4)) hs1) (by rw [stL_length (s := stopF s1 (4)) hs1]; rfl) (stL_one _) ?_); clear HS; intro w HS))
  obtain rfl := HPC.out
  obtain rfl := HS1.out
  have hrr := HRR.out
  obtain rfl := hrr
  exact bodyPost_ret (results_ctt Try.results14 _ _ g6 _ _ (0, 0) _ rfl (HS.blk 2 rfl) Try.underlying32 rfl (size32 hs1)) rfl ⟨_, _, _, _, rfl, (((HS.front 1 rfl).front 1 rfl).erase 2)⟩

end
end Go.Proofs.Ytigimkcppocodaa.B
