/- The machine's steps: contracts of Stop, reach, call, do and Step over any memory. -/
import Derived.Test.YtkgoljbimblkhaaBx4
import Derived.Test.YtkgoljbimblkhaaOpen
import Derived.Test.YtkgoljbimblkhaaSep
import Derived.StillTailTactics
import Derived.Deep.DeepMust
namespace Go.Proofs.Ytkgoljbimblkhaa.B
open Go.RowKit Go.Proofs.Ytkgoljbimblkhaa.Mine Go.Proofs.Ytkgoljbimblkhaa.Sep Go.Proofs.YtkgoljbimblkhaaW.PrintWords Go.Proofs.YtkgoljbimblkhaaW.PrintLast Go.Proofs.YtkgoljbimblkhaaW.PrintMore
set_option linter.unusedVariables false
set_option linter.unusedSimpArgs false

/-- A machine's state. -/
structure St where
  regs : List Int
  pc : Int
  ended : Bool
  val : Int
  trap : Int
  steps : Int
def stL (s : St) : List Value := s.regs.map (Value.int .i64) ++ [.int .i64 s.pc, .bool s.ended, .int .i64 s.val, .int .i64 s.trap, .int .i64 s.steps]
theorem stL_length {s : St} (h : s.regs.length = 64) : (stL s).length = 69 := by simp [stL, h]
theorem stL_reg {s : St} (h : s.regs.length = 64) (i : Nat) (hi : i < 64) : (stL s)[i]? = some (.int .i64 (s.regs.getD i 0)) := by
  unfold stL
  rw [List.getElem?_append_left (by rw [List.length_map, h]; exact hi), List.getElem?_map, List.getElem?_eq_getElem (by omega), List.getD_eq_getElem?_getD, List.getElem?_eq_getElem (by omega)]
  rfl
theorem stL_tail {s : St} (h : s.regs.length = 64) (j : Nat) : (stL s)[64 + j]? = [Value.int .i64 s.pc, .bool s.ended, .int .i64 s.val, .int .i64 s.trap, .int .i64 s.steps][j]? := by
  unfold stL
  rw [List.getElem?_append_right (by rw [List.length_map, h]; omega), List.length_map, h]
  congr 1
  omega
theorem stL_pc {s : St} (h : s.regs.length = 64) : (stL s)[64]? = some (.int .i64 s.pc) := stL_tail h 0
theorem stL_ended {s : St} (h : s.regs.length = 64) : (stL s)[65]? = some (.bool s.ended) := stL_tail h 1
theorem stL_val {s : St} (h : s.regs.length = 64) : (stL s)[66]? = some (.int .i64 s.val) := stL_tail h 2
theorem stL_trap {s : St} (h : s.regs.length = 64) : (stL s)[67]? = some (.int .i64 s.trap) := stL_tail h 3
theorem stL_steps {s : St} (h : s.regs.length = 64) : (stL s)[68]? = some (.int .i64 s.steps) := stL_tail h 4
theorem set_reg {s : St} (h : s.regs.length = 64) (i : Nat) (hi : i < 64) (v : Int) : stL { s with regs := s.regs.set i v } = (stL s).set i (.int .i64 v) := by
  unfold stL
  rw [List.set_append_left _ _ (by rw [List.length_map, h]; exact hi), List.map_set]
theorem set_tail {s s' : St} (h : s.regs.length = 64) (hr : s'.regs = s.regs) (j : Nat) (v : Value) (he : [Value.int .i64 s'.pc, .bool s'.ended, .int .i64 s'.val, .int .i64 s'.trap, .int .i64 s'.steps] = [Value.int .i64 s.pc, .bool s.ended, .int .i64 s.val, .int .i64 s.trap, .int .i64 s.steps].set j v) : stL s' = (stL s).set (64 + j) v := by
  unfold stL
  rw [List.set_append_right _ _ (by rw [List.length_map, h]; omega), List.length_map, h, hr, he]
  congr 2
  omega

theorem info66 : (Try.prog.info? 66).map (fun i => (i.zero, i.size, i.bytes)) = some (some (.agg #[.int .i64 0, .int .i64 0, .int .i64 0]), 3, 24) := by kernel_rfl
theorem set_pc {s : St} (h : s.regs.length = 64) (v : Int) : stL { s with pc := v } = (stL s).set 64 (.int .i64 v) := set_tail (s' := { s with pc := v }) h rfl 0 (.int .i64 v) rfl
theorem set_ended {s : St} (h : s.regs.length = 64) (v : Bool) : stL { s with ended := v } = (stL s).set 65 (.bool v) := set_tail (s' := { s with ended := v }) h rfl 1 (.bool v) rfl
theorem set_val {s : St} (h : s.regs.length = 64) (v : Int) : stL { s with val := v } = (stL s).set 66 (.int .i64 v) := set_tail (s' := { s with val := v }) h rfl 2 (.int .i64 v) rfl
theorem set_trap {s : St} (h : s.regs.length = 64) (v : Int) : stL { s with trap := v } = (stL s).set 67 (.int .i64 v) := set_tail (s' := { s with trap := v }) h rfl 3 (.int .i64 v) rfl
theorem set_steps {s : St} (h : s.regs.length = 64) (v : Int) : stL { s with steps := v } = (stL s).set 68 (.int .i64 v) := set_tail (s' := { s with steps := v }) h rfl 4 (.int .i64 v) rfl
/-- What a memory answers. -/
structure MF (M : Type) where
  rd : M → Int → Int × Bool
  wr : M → Int → Int → M × Bool
/-- A memory, and the block g in which the machine's state stands. -/
structure Mem (g : Nat) (M : Type) where
  f : MF M
  T : TypeId
  self : Value
  fR : FuncId
  fW : FuncId
  sR : Value
  sW : Value
  ch : St → M → Chunk
  ok : M → Prop
  cell : ∀ {W0 w : World} {L : List Chunk} {s : St} {m : M}, Sat W0 w (ch s m :: L) → ∀ j, j < 69 → w.cell? ⟨g, j, none⟩ = (stL s)[j]?
  frz : ∀ {W0 w : World} {L : List Chunk} {s : St} {m : M}, Sat W0 w (ch s m :: L) → ∀ j, w.frozen? ⟨g, j, none⟩ = false
  set : ∀ {W0 w : World} {L : List Chunk} {s s' : St} {m : M}, Sat W0 w (ch s m :: L) → ∀ j v, j < 69 → stL s' = (stL s).set j v → Sat W0 (w.setCell ⟨g, j, none⟩ v) (ch s' m :: L)
  mR : ∀ w : World, (method 224 T self "Read").run Try.prog w = .ok (fR, sR) w
  mW : ∀ w : World, (method 224 T self "Write").run Try.prog w = .ok (fW, sW) w
  nW : ∀ w : World, (nilAhead 224 T self "Write").run Try.prog w = .ok (some false) w
  eR : ∀ (args : Array Value) (w : World), (callFunc fR args).run Try.prog w = .ok (.enter fR args) w
  eW : ∀ (args : Array Value) (w : World), (callFunc fW args).run Try.prog w = .ok (.enter fW args) w
  hR : ∀ {W0 w : World} {L : List Chunk} {s : St} {m : M} (a : Int), s.regs.length = 64 → ok m → Sat W0 w (ch s m :: L) →
    Calls Try.prog fR #[sR, .int .i64 a] w fun e w' => e = .returned (.tuple #[.int .i64 (f.rd m a).1, .bool (f.rd m a).2]) ∧ Sat W0 w' (ch s m :: L)
  hW : ∀ {W0 w : World} {L : List Chunk} {s : St} {m : M} (a v : Int), s.regs.length = 64 → ok m → Sat W0 w (ch s m :: L) →
    Calls Try.prog fW #[sW, .int .i64 a, .int .i64 v] w fun e w' => e = .returned (.bool (f.wr m a v).2) ∧ Sat W0 w' (ch s (f.wr m a v).1 :: L)

theorem mem_reg {g : Nat} {M : Type} (Me : Mem g M) {W0 w : World} {L : List Chunk} {s : St} {m : M} (hs : s.regs.length = 64) (HS : Sat W0 w (Me.ch s m :: L)) (i : Int) (h0 : 0 ≤ i) (h1 : i < 64) :
    w.cell? ⟨g, i.toNat, none⟩ = some (.int .i64 (rd s.regs i)) := (Me.cell HS i.toNat (by omega)).trans (stL_reg hs _ (by omega))

def stopF (s : St) (t : Int) : St := { s with ended := true, trap := t }
set_option maxRecDepth 100000 in
set_option maxHeartbeats 1000000 in
theorem stop_calls {g : Nat} {M : Type} (Me : Mem g M) {W0 w : World} {L : List Chunk} {s : St} {m : M} (t : Int) (hs : s.regs.length = 64) (HS : Sat W0 w (Me.ch s m :: L)) :
    Calls Try.prog 26 #[.pointer (some ⟨g, 0, none⟩), .int .i64 t] w fun e w' => e = .returned (.agg #[.int .i64 5, .int .i64 t, .int .i64 0]) ∧ Sat W0 w' (Me.ch (stopF s t) m :: L) := by
  go_enter Try.func26, Try.ntmps26
  go_upto_region 1 with ((with_reducible refine gate_dst (N := 4) rfl ?_); go_must (refine ev_box HS rfl (N := 4) rfl (cs := #[.int .i64 0, .int .i64 0, .int .i64 0]) (t := 66) ?hrun ?_); (case hrun => first | (go_simp; done) | (go_simp; rfl)); clear HS; intro gb w HS)
  have HT := HS.swap
  have c65 := (Me.cell HT 65 (by decide)).trans (stL_ended hs)
  have c67 := (Me.cell HT 67 (by decide)).trans (stL_trap hs)
  have fs := Me.frz HT
  go_upto_region 2 with (fail)
  refine wp_sat (Me.set (s' := stopF s t) (Me.set (s' := { s with ended := true }) HT 65 (.bool true) (by decide) (set_tail (s' := { s with ended := true }) hs rfl 1 _ rfl)) 67 (.int .i64 t) (by decide) (set_tail (s := { s with ended := true }) (s' := stopF s t) hs rfl 3 _ rfl)).swap (fun w1 HU => ?_)
  have cb := HU.cell 0 rfl
  have fb := HU.frozen 0 rfl
  go_wp2
  have HV := ((HU.store 0 rfl 0 (.int .i64 5)).store 0 rfl 1 (.int .i64 t)).store 0 rfl 2 (.int .i64 0)
  have cv := HV.cell 0 rfl
  exact bodyPost_ret (v := .agg #[.int .i64 5, .int .i64 t, .int .i64 0]) (by simp [results, Try.results26, go_sem, cb]) rfl ⟨rfl, HV.tail⟩

def reachF {M : Type} (f : MF M) (i : S56) (s : St) (m : M) : St × M × List S66 :=
  if i.f0 = 4 then
    if (f.rd m (wrap64 (rd s.regs i.f2 + i.f5))).2 = true then ({ s with regs := s.regs.set i.f1.toNat (f.rd m (wrap64 (rd s.regs i.f2 + i.f5))).1, pc := wrap64 (s.pc + 1) }, m, [⟨2, wrap64 (rd s.regs i.f2 + i.f5), 0⟩])
    else (stopF s 4, m, [⟨2, wrap64 (rd s.regs i.f2 + i.f5), 0⟩, ⟨5, 4, 0⟩])
  else
    if (f.wr m (wrap64 (rd s.regs i.f2 + i.f5)) (rd s.regs i.f3)).2 = true then ({ s with pc := wrap64 (s.pc + 1) }, (f.wr m (wrap64 (rd s.regs i.f2 + i.f5)) (rd s.regs i.f3)).1, [⟨2, wrap64 (rd s.regs i.f2 + i.f5), 0⟩])
    else (stopF s 4, (f.wr m (wrap64 (rd s.regs i.f2 + i.f5)) (rd s.regs i.f3)).1, [⟨2, wrap64 (rd s.regs i.f2 + i.f5), 0⟩, ⟨5, 4, 0⟩])
/-- An instruction's registers are registers. -/
structure Fit (i : S56) : Prop where
  d0 : 0 ≤ i.f1
  d1 : i.f1 < 64
  a0 : 0 ≤ i.f2
  a1 : i.f2 < 64
  b0 : 0 ≤ i.f3
  b1 : i.f3 < 64
def insV (i : S56) : Value := .agg #[.int .i64 i.f0, .int .i64 i.f1, .int .i64 i.f2, .int .i64 i.f3, .int .i64 i.f4, .int .i64 i.f5]
theorem reps1 {w : World} (x : S66) : Reps (k66.M w 0 (fun _ => False)) k66.sz [x] [.int .i64 x.f0, .int .i64 x.f1, .int .i64 x.f2] :=
  (Reps.none _ _).snoc ⟨[.int .i64 x.f0], [.int .i64 x.f1, .int .i64 x.f2], rfl, rfl, [.int .i64 x.f1], [.int .i64 x.f2], rfl, rfl, rfl⟩ rfl
set_option maxRecDepth 100000 in
set_option maxHeartbeats 1000000 in
theorem reach_calls {g : Nat} {M : Type} (Me : Mem g M) {W0 w : World} {L : List Chunk} {s : St} {m : M} (i : S56) (hi : Fit i) (hok : Me.ok m) (hs : s.regs.length = 64) (HS : Sat W0 w (Me.ch s m :: L)) :
    Calls Try.prog 36 #[.pointer (some ⟨g, 0, none⟩), insV i, .iface Me.T Me.self] w fun e w' => ∃ v, e = .returned v ∧ Sat W0 w' (row k66 66 v (reachF Me.f i s m).2.2 :: Me.ch (reachF Me.f i s m).1 (reachF Me.f i s m).2.1 :: L) := by
  obtain ⟨i0, i1, i2, i3, i4, i5⟩ := i
  obtain ⟨d0, d1, a0, a1, b0, b1⟩ := hi
  dsimp only at d0 d1 a0 a1 b0 b1
  unfold insV
  dsimp only
  have e15 : (0 : Int) ≤ i2 := a0
  go_enter Try.func36, Try.ntmps36
  go_upto_region 1 with ((with_reducible refine gate_dst (N := 4) rfl ?_); go_must (refine ev_box HS rfl (N := 4) rfl (cs := #[.int .i64 i0, .int .i64 i1, .int .i64 i2, .int .i64 i3, .int .i64 i4, .int .i64 i5]) (t := 56) ?hrun ?_); (case hrun => first | (go_simp; done) | (go_simp; rfl)); clear HS; intro gb w HS)
  have HT := HS.swap
  have ca := mem_reg Me hs HT i2 a0 a1
  have fs := Me.frz HT
  have cb := HS.cell 0 rfl
  have fb := HS.frozen 0 rfl
  go_wp2
  refine wp_region_still_lit (by kernel_rfl) (by kernel_rfl) ?_
  repeat still_step
  refine wpStill_nil ?_
  (replace HS := HS.drew; (first | show Exit.then _ _ _ _ (World.drew w) | show wpList _ _ _ _ _ (World.drew w)); generalize World.drew w = wd at HS ⊢)
  simp only [i64_w]
  obtain ⟨a, ha⟩ : ∃ a, a = wrap64 (rd s.regs i2 + i5) := ⟨_, rfl⟩
  rw [← ha]
  have hF : reachF Me.f (⟨i0, i1, i2, i3, i4, i5⟩ : S56) s m = (if i0 = 4 then
    if (Me.f.rd m a).2 = true then ({ s with regs := s.regs.set i1.toNat (Me.f.rd m a).1, pc := wrap64 (s.pc + 1) }, m, [⟨2, a, 0⟩])
    else (stopF s 4, m, [⟨2, a, 0⟩, ⟨5, 4, 0⟩])
  else
    if (Me.f.wr m a (rd s.regs i3)).2 = true then ({ s with pc := wrap64 (s.pc + 1) }, (Me.f.wr m a (rd s.regs i3)).1, [⟨2, a, 0⟩])
    else (stopF s 4, (Me.f.wr m a (rd s.regs i3)).1, [⟨2, a, 0⟩, ⟨5, 4, 0⟩])) := by subst ha; rfl
  have HF := Aside0.mk hF
  clear hF ha
  go_upto_region 4 with ((with_reducible refine gate_dst (N := 23) rfl ?_); go_must (refine ev_lit k66 (e := 66) HS rfl (N := 23) rfl (xs := [⟨2, a, 0⟩]) (inner := [.int .i64 2, .int .i64 a, .int .i64 0]) ?hrun (reps1 ⟨2, a, 0⟩) (by first | decide | simp) ?_); (case hrun => first | (go_simp; done) | (go_simp; rfl)); clear HS; intro gl w HS)
  have cb := HS.cell 1 rfl
  by_cases h4 : i0 = 4
  · have mR := Me.mR
    have eR := Me.eR
    by_cases hq : (Me.f.rd m a).2 = true
    · have e := HF.out
      rw [if_pos h4, if_pos hq] at e
      have E := Aside0.mk e
      clear HF e
      subst h4
      go_wp2_with ((with_reducible refine (Me.hR a hs hok (HS.front 2 rfl)).mono ?_); rintro e w_ ⟨rfl, HS_⟩; clear HS; have HS := HS_; clear HS_)
      have cb := HS.cell 2 rfl
      have fs := Me.frz HS
      have cd := mem_reg Me hs HS i1 d0 d1
      go_still_tail 7, (by kernel_rfl)
      go_upto_region 10 with (fail)
      replace HS := Me.set (s' := { s with regs := s.regs.set i1.toNat (Me.f.rd m a).1 }) HS.drew i1.toNat (.int .i64 (Me.f.rd m a).1) (by omega) (set_reg hs _ (by omega) _)
      refine wp_sat HS (fun w2 HS => ?_)
      have hs2 : (s.regs.set i1.toNat (Me.f.rd m a).1).length = 64 := by rw [List.length_set]; exact hs
      have c64 := (Me.cell HS 64 (by decide)).trans (stL_pc hs2)
      have fs := Me.frz HS
      go_wp2
      go_ret
      rw [E.out]
      exact ⟨_, rfl, (Me.set HS 64 (.int .i64 (wrap64 (s.pc + 1))) (by decide) (set_pc (s := { s with regs := s.regs.set i1.toNat (Me.f.rd m a).1 }) hs2 _)).swap.erase 2⟩
    · have e := HF.out
      rw [if_pos h4, if_neg hq] at e
      have E := Aside0.mk e
      clear HF e
      subst h4
      have hqb : (Me.f.rd m a).2 = false := by simpa using hq
      go_wp2_with (first | ((with_reducible refine (Me.hR a hs hok (HS.front 2 rfl)).mono ?_); rintro e w_ ⟨rfl, HS_⟩; clear HS; have HS := HS_; clear HS_) | (go_at_call 26; (with_reducible refine (stop_calls Me 4 hs HS).mono ?_); rintro e w_ ⟨rfl, HS_⟩; clear HS; have HS := HS_; clear HS_) | ((with_reducible refine gate_dst (N := 59) rfl ?_); go_must (refine ev_lit k66 (e := 66) HS rfl (N := 59) rfl (xs := [⟨5, 4, 0⟩]) (inner := [.int .i64 5, .int .i64 (4), .int .i64 0]) ?hrun (reps1 ⟨5, 4, 0⟩) (by first | decide | simp) ?_); (case hrun => first | (go_simp; done) | (go_simp; rfl)); clear HS; intro gm w HS) | ((with_reducible refine gate_builtin (b := .append) (xs := #[.tmp 56, .tmp 59]) rfl ?_); go_must (refine ev_append k66 HS 2 (.tmp 56) (.tmp 59) 31 66 (.agg #[.int .i64 0, .int .i64 0, .int .i64 0]) 24 rfl (HS.C 0 rfl) (fun _ _ h => h) rfl rfl rfl rfl Try.underlying31 info66 rfl (by decide) (by omega) ((by simp)) ?_); clear HS; intro vo w HS))
      go_ret
      rw [E.out]
      exact ⟨_, rfl, HS.tail.swap.erase 2⟩
  · have h4b : (i0 == 4) = false := beq_eq_false_iff_ne.mpr h4
    have mW := Me.mW
    have eW := Me.eW
    have nW := Me.nW
    have HT := HS.front 2 rfl
    have fs := Me.frz HT
    have c3 := mem_reg Me hs HT i3 b0 b1
    have e16 : (0 : Int) ≤ i3 := b0
    by_cases hq : (Me.f.wr m a (rd s.regs i3)).2 = true
    · have e := HF.out
      rw [if_neg h4, if_pos hq] at e
      have E := Aside0.mk e
      clear HF e
      go_wp2
      go_still_tail 12, (by kernel_rfl)
      (replace HS := HS.drew; (first | show Exit.then _ _ _ _ (World.drew w) | show wpList _ _ _ _ _ (World.drew w)); generalize World.drew w = wd at HS ⊢)
      replace HS := HS.front 2 rfl
      go_upto_region 12 with ((with_reducible refine (Me.hW a (rd s.regs i3) hs hok HS).mono ?_); rintro e w_ ⟨rfl, HS_⟩; clear HS; have HS := HS_; clear HS_)
      have c64 := (Me.cell HS 64 (by decide)).trans (stL_pc hs)
      have fs := Me.frz HS
      go_wp2
      go_ret
      rw [E.out]
      exact ⟨_, rfl, (Me.set HS 64 (.int .i64 (wrap64 (s.pc + 1))) (by decide) (set_pc hs _)).swap.erase 2⟩
    · have e := HF.out
      rw [if_neg h4, if_neg hq] at e
      have E := Aside0.mk e
      clear HF e
      have hqb : (Me.f.wr m a (rd s.regs i3)).2 = false := by simpa using hq
      go_wp2
      go_still_tail 12, (by kernel_rfl)
      (replace HS := HS.drew; (first | show Exit.then _ _ _ _ (World.drew w) | show wpList _ _ _ _ _ (World.drew w)); generalize World.drew w = wd at HS ⊢)
      replace HS := HS.front 2 rfl
      go_upto_region 11 with ((with_reducible refine (Me.hW a (rd s.regs i3) hs hok HS).mono ?_); rintro e w_ ⟨rfl, HS_⟩; clear HS; have HS := HS_; clear HS_)
      go_wp2_with (first | (go_at_call 26; (with_reducible refine (stop_calls Me 4 hs HS).mono ?_); rintro e w_ ⟨rfl, HS_⟩; clear HS; have HS := HS_; clear HS_) | ((with_reducible refine gate_dst (N := 59) rfl ?_); go_must (refine ev_lit k66 (e := 66) HS rfl (N := 59) rfl (xs := [⟨5, 4, 0⟩]) (inner := [.int .i64 5, .int .i64 (4), .int .i64 0]) ?hrun (reps1 ⟨5, 4, 0⟩) (by first | decide | simp) ?_); (case hrun => first | (go_simp; done) | (go_simp; rfl)); clear HS; intro gm w HS) | ((with_reducible refine gate_builtin (b := .append) (xs := #[.tmp 56, .tmp 59]) rfl ?_); go_must (refine ev_append k66 HS 2 (.tmp 56) (.tmp 59) 31 66 (.agg #[.int .i64 0, .int .i64 0, .int .i64 0]) 24 rfl (HS.C 0 rfl) (fun _ _ h => h) rfl rfl rfl rfl Try.underlying31 info66 rfl (by decide) (by omega) ((by simp)) ?_); clear HS; intro vo w HS))
      go_ret
      rw [E.out]
      exact ⟨_, rfl, HS.tail.swap.erase 2⟩
end Go.Proofs.Ytkgoljbimblkhaa.B
