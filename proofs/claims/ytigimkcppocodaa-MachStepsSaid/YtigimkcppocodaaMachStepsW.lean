/- MachSteps: any image, step by step: its walk. -/
import Derived.Test.YtigimkcppocodaaMachOne2
import Derived.Test.YtigimkcppocodaaMachOpen
import Derived.Test.YtigimkcppocodaaMachEq
namespace Go.Proofs.Ytigimkcppocodaa.B
open Go.RowKit Go.Proofs.Ytigimkcppocodaa.Mine Go.Proofs.Ytigimkcppocodaa.Sep Go.Proofs.YtigimkcppocodaaW.PrintWords Go.Proofs.YtigimkcppocodaaW.PrintLast Go.Proofs.YtigimkcppocodaaW.PrintMore
set_option linter.unusedVariables false
set_option linter.unusedSimpArgs false
section
variable {W0 w : World} {L : List Chunk} {A : Option Addr} {c : Nat} {code : List S58} {Am0 : Option Addr} {cm0 : Nat} {m : List Int} {s : St}
theorem yes_in {x : Int} (h : 0 ≤ x ∧ x < (m.length : Int)) : (decide (0 ≤ x) && decide (x < (m.length : Int))) = true := by rw [decide_eq_true h.1, decide_eq_true h.2]; rfl
theorem not_in {x : Int} (h : ¬ (0 ≤ x ∧ x < (m.length : Int))) : (decide (0 ≤ x) && decide (x < (m.length : Int))) = false := by
  by_cases h0 : 0 ≤ x
  · rw [decide_eq_false (show ¬ x < (m.length : Int) from fun h1 => h ⟨h0, h1⟩), Bool.and_false]
  · rw [decide_eq_false h0, Bool.false_and]
theorem wFrd_in {x : Int} (h : 0 ≤ x ∧ x < (m.length : Int)) : wF.rd m x = (rd m x, true) := by
  show wRd m x = _
  unfold wRd
  rw [if_pos h]
theorem wFrd_out {x : Int} (h : ¬ (0 ≤ x ∧ x < (m.length : Int))) : wF.rd m x = (0, false) := by
  show wRd m x = _
  unfold wRd
  rw [if_neg h]
theorem wFwr_in {x : Int} (h : 0 ≤ x ∧ x < (m.length : Int)) (v : Int) : wF.wr m x v = (m.set x.toNat v, true) := by
  show wWr m x v = _
  unfold wWr
  rw [if_pos h]
theorem wFwr_out {x : Int} (h : ¬ (0 ≤ x ∧ x < (m.length : Int))) (v : Int) : wF.wr m x v = (m, false) := by
  show wWr m x v = _
  unfold wWr
  rw [if_neg h]
theorem one_calls (he : s.ended = false) (hC : ∀ w, Sat W0 w L → Kd.C k58 w A code.length code) (hM : ∀ w, Sat W0 w L → Kd.C (Kd.int .i64) w Am0 m.length m) (hml : m.length ≤ 1000000) (hs : s.regs.length = 64) (hop : ∀ i ∈ code, Fit i ∧ 1 ≤ i.f0 ∧ i.f0 ≤ 12) (HS : Sat W0 w L) :
    Calls Try.prog 14 #[.slice A code.length c, .agg (stL s).toArray, .slice Am0 m.length cm0] w (OnePost W0 L (stepF wF code s m)) := by
  unfold stepF
  rw [if_neg (by rw [he]; decide)]
  split
  · rename_i hp
    by_cases hn : s.pc < 0
    · exact one_wild0 hM hml hs (decide_eq_true hn) _ rfl HS
    · exact one_wild1 hM hml hs (decide_eq_false hn) (decide_eq_true (by omega)) _ rfl HS
  rename_i hp
  have h0 : 0 ≤ s.pc := by omega
  have h1 : s.pc < (code.length : Int) := by omega
  have hmem : rd_T58 code s.pc ∈ code := by unfold rd_T58; rw [List.getD_eq_getElem?_getD, List.getElem?_eq_getElem (by omega)]; exact List.getElem_mem _
  obtain ⟨hf, o1, o2⟩ := hop _ hmem
  obtain ⟨i, hi⟩ : ∃ i, rd_T58 code s.pc = i := ⟨_, rfl⟩
  rw [hi] at hf o1 o2 ⊢
  clear hmem
  obtain ⟨i0, i1, i2, i3, i4, i5⟩ := i
  dsimp only at o1 o2
  have hcase : i0 = 1 ∨ i0 = 2 ∨ i0 = 3 ∨ i0 = 4 ∨ i0 = 5 ∨ i0 = 6 ∨ i0 = 7 ∨ i0 = 8 ∨ i0 = 9 ∨ i0 = 10 ∨ i0 = 11 ∨ i0 = 12 := by omega
  rcases hcase with rfl | rfl | rfl | rfl | rfl | rfl | rfl | rfl | rfl | rfl | rfl | rfl
  · exact one_num i1 i2 i3 i4 i5 hC hM hml hs h0 h1 hi hf _ rfl HS
  · exact one_move i1 i2 i3 i4 i5 hC hM hml hs h0 h1 hi hf _ rfl HS
  · have hd : doF wF (⟨3, i1, i2, i3, i4, i5⟩ : S58) { s with steps := wrap64 (s.steps + 1) } m = (if (doW i4 (rd s.regs i2) (rd s.regs i3)).2 = true then
        ({ s with steps := wrap64 (s.steps + 1), regs := s.regs.set i1.toNat (doW i4 (rd s.regs i2) (rd s.regs i3)).1, pc := wrap64 (s.pc + 1) }, m, if i4 = 4 ∨ i4 = 5 then [⟨4, rd s.regs i2, rd s.regs i3⟩] else [])
      else (stopF { s with steps := wrap64 (s.steps + 1) } 2, m, (if i4 = 4 ∨ i4 = 5 then [⟨4, rd s.regs i2, rd s.regs i3⟩] else []) ++ [⟨5, 2, 0⟩])) := rfl
    rw [hd]
    by_cases hq : (doW i4 (rd s.regs i2) (rd s.regs i3)).2 = true
    · rw [if_pos hq]
      by_cases h4 : i4 = 4
      · rw [if_pos (show i4 = 4 ∨ i4 = 5 from .inl h4)]
        exact one_div_ok i1 i2 i3 i4 i5 hC hM hml hs h0 h1 hi hf (beq_iff_eq.mpr h4) hq _ rfl HS
      · by_cases h5 : i4 = 5
        · rw [if_pos (show i4 = 4 ∨ i4 = 5 from .inr h5)]
          exact one_mod_ok i1 i2 i3 i4 i5 hC hM hml hs h0 h1 hi hf (beq_eq_false_iff_ne.mpr h4) (beq_iff_eq.mpr h5) hq _ rfl HS
        · rw [if_neg (show ¬ (i4 = 4 ∨ i4 = 5) by omega)]
          exact one_op_ok i1 i2 i3 i4 i5 hC hM hml hs h0 h1 hi hf (beq_eq_false_iff_ne.mpr h4) (beq_eq_false_iff_ne.mpr h5) hq _ rfl HS
    · rw [if_neg hq]
      have hq' : (doW i4 (rd s.regs i2) (rd s.regs i3)).2 = false := by simpa using hq
      by_cases h4 : i4 = 4
      · rw [if_pos (show i4 = 4 ∨ i4 = 5 from .inl h4)]
        exact one_div_no i1 i2 i3 i4 i5 hC hM hml hs h0 h1 hi hf (beq_iff_eq.mpr h4) hq' _ rfl HS
      · by_cases h5 : i4 = 5
        · rw [if_pos (show i4 = 4 ∨ i4 = 5 from .inr h5)]
          exact one_mod_no i1 i2 i3 i4 i5 hC hM hml hs h0 h1 hi hf (beq_eq_false_iff_ne.mpr h4) (beq_iff_eq.mpr h5) hq' _ rfl HS
        · rw [if_neg (show ¬ (i4 = 4 ∨ i4 = 5) by omega)]
          exact one_op_no i1 i2 i3 i4 i5 hC hM hml hs h0 h1 hi hf (beq_eq_false_iff_ne.mpr h4) (beq_eq_false_iff_ne.mpr h5) hq' _ rfl HS
  · have hd : doF wF (⟨4, i1, i2, i3, i4, i5⟩ : S58) { s with steps := wrap64 (s.steps + 1) } m = (if (wF.rd m (wrap64 (rd s.regs i2 + i5))).2 = true then ({ s with steps := wrap64 (s.steps + 1), regs := s.regs.set i1.toNat (wF.rd m (wrap64 (rd s.regs i2 + i5))).1, pc := wrap64 (s.pc + 1) }, m, [⟨2, wrap64 (rd s.regs i2 + i5), 0⟩])
      else (stopF { s with steps := wrap64 (s.steps + 1) } 4, m, [⟨2, wrap64 (rd s.regs i2 + i5), 0⟩, ⟨5, 4, 0⟩])) := rfl
    rw [hd]
    by_cases q : 0 ≤ wrap64 (rd s.regs i2 + i5) ∧ wrap64 (rd s.regs i2 + i5) < (m.length : Int)
    · rw [wFrd_in q, if_pos rfl]
      exact one_load i1 i2 i3 i4 i5 hC hM hml hs h0 h1 hi hf (yes_in q) _ rfl HS
    · rw [wFrd_out q, if_neg (fun h => Bool.noConfusion h)]
      exact one_load_no i1 i2 i3 i4 i5 hC hM hml hs h0 h1 hi hf (not_in q) _ rfl HS
  · have hd : doF wF (⟨5, i1, i2, i3, i4, i5⟩ : S58) { s with steps := wrap64 (s.steps + 1) } m = (if (wF.wr m (wrap64 (rd s.regs i2 + i5)) (rd s.regs i3)).2 = true then ({ s with steps := wrap64 (s.steps + 1), pc := wrap64 (s.pc + 1) }, (wF.wr m (wrap64 (rd s.regs i2 + i5)) (rd s.regs i3)).1, [⟨2, wrap64 (rd s.regs i2 + i5), 0⟩])
      else (stopF { s with steps := wrap64 (s.steps + 1) } 4, (wF.wr m (wrap64 (rd s.regs i2 + i5)) (rd s.regs i3)).1, [⟨2, wrap64 (rd s.regs i2 + i5), 0⟩, ⟨5, 4, 0⟩])) := rfl
    rw [hd]
    by_cases q : 0 ≤ wrap64 (rd s.regs i2 + i5) ∧ wrap64 (rd s.regs i2 + i5) < (m.length : Int)
    · rw [wFwr_in q, if_pos rfl]
      exact one_store i1 i2 i3 i4 i5 hC hM hml hs h0 h1 hi hf (yes_in q) _ rfl HS
    · rw [wFwr_out q, if_neg (fun h => Bool.noConfusion h)]
      exact one_store_no i1 i2 i3 i4 i5 hC hM hml hs h0 h1 hi hf (not_in q) _ rfl HS
  · exact one_jump i1 i2 i3 i4 i5 hC hM hml hs h0 h1 hi hf _ rfl HS
  · have hd : doF wF (⟨7, i1, i2, i3, i4, i5⟩ : S58) { s with steps := wrap64 (s.steps + 1) } m = (if rd s.regs i2 = 0 then ({ s with steps := wrap64 (s.steps + 1), pc := wrap64 (s.pc + 1) }, m, [⟨3, 0, 0⟩]) else ({ s with steps := wrap64 (s.steps + 1), pc := i5 }, m, [⟨3, 1, 0⟩])) := rfl
    rw [hd]
    by_cases q : rd s.regs i2 = 0
    · rw [if_pos q]
      exact one_if_no i1 i2 i3 i4 i5 hC hM hml hs h0 h1 hi hf (beq_iff_eq.mpr q) _ rfl HS
    · rw [if_neg q]
      exact one_if_yes i1 i2 i3 i4 i5 hC hM hml hs h0 h1 hi hf (beq_eq_false_iff_ne.mpr q) _ rfl HS
  · have hd : doF wF (⟨8, i1, i2, i3, i4, i5⟩ : S58) { s with steps := wrap64 (s.steps + 1) } m = (if (wF.wr m (rd s.regs 63) (wrap64 (s.pc + 1))).2 = true then ({ s with steps := wrap64 (s.steps + 1), pc := i5 }, (wF.wr m (rd s.regs 63) (wrap64 (s.pc + 1))).1, [⟨2, rd s.regs 63, 0⟩])
      else (stopF { s with steps := wrap64 (s.steps + 1) } 4, (wF.wr m (rd s.regs 63) (wrap64 (s.pc + 1))).1, [⟨2, rd s.regs 63, 0⟩, ⟨5, 4, 0⟩])) := rfl
    rw [hd]
    by_cases q : 0 ≤ rd s.regs 63 ∧ rd s.regs 63 < (m.length : Int)
    · rw [wFwr_in q, if_pos rfl]
      exact one_call i1 i2 i3 i4 i5 hC hM hml hs h0 h1 hi hf (yes_in q) _ rfl HS
    · rw [wFwr_out q, if_neg (fun h => Bool.noConfusion h)]
      exact one_call_no i1 i2 i3 i4 i5 hC hM hml hs h0 h1 hi hf (not_in q) _ rfl HS
  · have hd : doF wF (⟨9, i1, i2, i3, i4, i5⟩ : S58) { s with steps := wrap64 (s.steps + 1) } m = (if (wF.rd m (rd s.regs 63)).2 = true ∧ 0 ≤ (wF.rd m (rd s.regs 63)).1 ∧ (wF.rd m (rd s.regs 63)).1 < 32768 then ({ s with steps := wrap64 (s.steps + 1), pc := (wF.rd m (rd s.regs 63)).1 }, m, [⟨2, rd s.regs 63, 0⟩])
      else (stopF { s with steps := wrap64 (s.steps + 1) } 4, m, [⟨2, rd s.regs 63, 0⟩, ⟨5, 4, 0⟩])) := rfl
    rw [hd]
    by_cases q : 0 ≤ rd s.regs 63 ∧ rd s.regs 63 < (m.length : Int)
    · rw [wFrd_in q]
      by_cases v0 : rd m (rd s.regs 63) < 0
      · rw [if_neg (fun h => absurd h.2.1 (by dsimp only; omega))]
        exact one_ret_neg i1 i2 i3 i4 i5 hC hM hml hs h0 h1 hi hf (yes_in q) (decide_eq_true v0) _ rfl HS
      · by_cases v1 : rd m (rd s.regs 63) < 32768
        · rw [if_pos ⟨rfl, by dsimp only; omega, v1⟩]
          exact one_ret i1 i2 i3 i4 i5 hC hM hml hs h0 h1 hi hf (yes_in q) (decide_eq_false v0) (decide_eq_false (by omega)) _ rfl HS
        · rw [if_neg (fun h => v1 h.2.2)]
          exact one_ret_far i1 i2 i3 i4 i5 hC hM hml hs h0 h1 hi hf (yes_in q) (decide_eq_false v0) (decide_eq_true (by omega)) _ rfl HS
    · rw [wFrd_out q, if_neg (fun h => Bool.noConfusion h.1)]
      exact one_ret_no i1 i2 i3 i4 i5 hC hM hml hs h0 h1 hi hf (not_in q) _ rfl HS
  · exact one_fence i1 i2 i3 i4 i5 hC hM hml hs h0 h1 hi hf _ rfl HS
  · exact one_halt i1 i2 i3 i4 i5 hC hM hml hs h0 h1 hi hf _ rfl HS
  · exact one_trap i1 i2 i3 i4 i5 hC hM hml hs h0 h1 hi hf _ rfl HS
end
section
variable {Ac : Option Addr} {cc : Nat} {code : List S58} {Aa : Option Addr} {ca : Nat} {arrs : List S64} {st mem : Int} {Ai : Option Addr} {ci : Nat} {ins : List (List Int)}
set_option maxRecDepth 100000 in
set_option maxHeartbeats 4000000 in
theorem steps_few (n : Int) (W : World) (hC : Kd.C k58 W Ac code.length code) (hcc : code.length ≤ cc) (hA : Kd.C k64 W Aa arrs.length arrs) (hca : arrs.length ≤ ca) (hI : Kd.C (Kd.slice 2 (Kd.int .i64)) W Ai ins.length ins) (hci : ins.length ≤ ci) (hf : palingslaw19_Few.f 500 code arrs st mem ins = some false) :
    Calls Try.prog 3 #[.agg #[.slice Ac code.length cc, .slice Aa arrs.length ca, .int .i64 st, .int .i64 mem], .slice Ai ins.length ci, .int .i64 n] W fun e W' => e = .returned (.bool true) ∧ Below W.heap.size W W' := by
  have HS := Sat.start W
  have HF := Aside0.mk hf
  clear hf
  go_enter Try.func3, Try.ntmps3
  go_upto_region 1 with ((with_reducible refine gate_dst (N := 3) rfl ?_); go_must (refine ev_box HS rfl (N := 3) rfl (cs := #[.slice Ac code.length cc, .slice Aa arrs.length ca, .int .i64 st, .int .i64 mem]) (t := 25) ?hrun ?_); (case hrun => first | (go_simp; done) | (go_simp; rfl)); clear HS; intro gb w HS)
  go_upto_region 3 with (go_at_call 9; (with_reducible refine (head_calls HS).mono ?_); rintro e w_ ⟨rfl, HS_⟩; clear HS; have HS := HS_; clear HS_)
  have cb := HS.cell 0 rfl
  have hb0 := HS.old 1 rfl
  have HC := Aside0.mk (Kd.C_below hC hb0)
  have HA := Aside0.mk (Kd.C_below hA hb0)
  have HI := Aside0.mk (Kd.C_below hI hb0)
  clear hb0

  go_wp2_with (go_at_call 10; (with_reducible refine (palingslaw19_Few.calls 500 _ _ code _ _ arrs st mem _ _ ins false _ HC.out hcc HA.out hca HI.out hci HF.out).mono ?_); rintro e w2 ⟨rfl, hb⟩; replace HS := HS.below hb; clear hb; have cb := HS.cell 0 rfl)
  go_ret
  exact ⟨rfl, HS.old 1 rfl⟩
set_option maxRecDepth 100000 in
set_option maxHeartbeats 4000000 in
theorem steps_main (n : Int) (W : World) (hC : Kd.C k58 W Ac code.length code) (hcc : code.length ≤ cc) (hA : Kd.C k64 W Aa arrs.length arrs) (hca : arrs.length ≤ ca) (hI : Kd.C (Kd.slice 2 (Kd.int .i64)) W Ai ins.length ins) (hci : ins.length ≤ ci) (hf : palingslaw19_Few.f 500 code arrs st mem ins = some true) (hF : Fews code arrs st mem ins) :
    Calls Try.prog 3 #[.agg #[.slice Ac code.length cc, .slice Aa arrs.length ca, .int .i64 st, .int .i64 mem], .slice Ai ins.length ci, .int .i64 n] W fun e W' => e = .returned (.bool true) ∧ Below W.heap.size W W' := by
  have HS := Sat.start W
  have HF := Aside0.mk hf
  clear hf
  obtain ⟨k, hr⟩ := hF.right
  have hR := right_true hr
  have hm0 := hF.m0
  have hm1 := hF.m1
  have hms0 := hR.s0
  have hms1 := hR.s1
  have hal : arrs.length ≤ 1000 := by have := hF.a; omega
  have hop : ∀ i ∈ code, Fit i ∧ 1 ≤ i.f0 ∧ i.f0 ≤ 12 := fun i hi => right_fit (hR.code i hi).1
  obtain ⟨fu, hfu⟩ : ∃ fu, Go.bits .and .i64 n 127 = fu := ⟨_, rfl⟩
  have hfu0 : 0 ≤ fu := by rw [← hfu, and127]; omega
  have hfu1 : fu ≤ 127 := by rw [← hfu, and127]; omega
  clear hr
  go_enter Try.func3, Try.ntmps3
  go_upto_region 1 with ((with_reducible refine gate_dst (N := 3) rfl ?_); go_must (refine ev_box HS rfl (N := 3) rfl (cs := #[.slice Ac code.length cc, .slice Aa arrs.length ca, .int .i64 st, .int .i64 mem]) (t := 25) ?hrun ?_); (case hrun => first | (go_simp; done) | (go_simp; rfl)); clear HS; intro gb w HS)
  go_upto_region 3 with (go_at_call 9; (with_reducible refine (head_calls HS).mono ?_); rintro e w_ ⟨rfl, HS_⟩; clear HS; have HS := HS_; clear HS_)
  have cb := HS.cell 0 rfl
  have hb0 := HS.old 1 rfl
  have HC := Aside0.mk (Kd.C_below hC hb0)
  have HA := Aside0.mk (Kd.C_below hA hb0)
  have HI := Aside0.mk (Kd.C_below hI hb0)
  clear hb0

  go_upto_region 5 with (go_at_call 10; (with_reducible refine (palingslaw19_Few.calls 500 _ _ code _ _ arrs st mem _ _ ins true _ HC.out hcc HA.out hca HI.out hci HF.out).mono ?_); rintro e w2 ⟨rfl, hb⟩; replace HS := HS.below hb; clear hb; have cb := HS.cell 0 rfl)
  clear HC HA HI
  go_upto_region 6 with (first | (go_at_call 11; (with_reducible refine (begin_calls st mem HS).mono ?_); rintro e w_ ⟨rfl, HS_⟩; clear HS; have HS := HS_; clear HS_) | ((with_reducible refine gate_dst (N := 7) rfl ?_); go_must (refine ev_box HS rfl (N := 7) rfl (cs := (stL z0).toArray) (t := 32) ?hrun ?_); (case hrun => first | (go_simp; done) | (go_simp; rfl)); clear HS; intro g7 w HS) | ((with_reducible refine gate_store (t := 32) (p := 7) rfl ?_); go_must (refine ev_store HS 0 rfl rfl 32 (.tmp 7) (.tmp 23) rfl rfl rfl (stL (beginS st)) rfl (len32 (begin_len st)) (by simp [stL_length (begin_len st)]; rfl) (stL_one _) ?_); clear HS; intro w HS))
  have cb := HS.cell 1 rfl
  go_upto_region 7 with (go_at_call 12; refine (start_calls (ca := ca) (ci := ci) (fun w h => Kd.C_below hA (h.old 2 rfl)) (fun w h => Kd.C_below hI (h.old 2 rfl)) hR.liesM hal hm0 (by omega) HS).mono ?_; rintro e w4 ⟨Ap, np, cp, rfl, HS_⟩; clear HS; have HS := HS_; clear HS_)
  obtain ⟨hnp, hcp⟩ := HS.cap 0 rfl
  subst hnp
  go_upto_region 8 with (first | ((with_reducible refine gate_load (ty := 32) (p := 7) rfl ?_); go_must (refine ev_load HS 1 rfl rfl 32 (.tmp 7) rfl (N := 27) rfl rfl _ Try.underlying32 rfl (size32 (begin_len st)) ?_)) | ((with_reducible refine gate_dst (N := 9) rfl ?_); go_must (refine ev_box HS rfl (N := 9) rfl (cs := (stL z0).toArray) (t := 32) ?hrun ?_); (case hrun => first | (go_simp; done) | (go_simp; rfl)); clear HS; intro g9 w HS) | ((with_reducible refine gate_store (t := 32) (p := 9) rfl ?_); go_must (refine ev_store HS 0 rfl rfl 32 (.tmp 9) (.tmp 27) rfl rfl rfl (stL (beginS st)) rfl (len32 (begin_len st)) (by simp [stL_length (begin_len st)]; rfl) (stL_one _) ?_); clear HS; intro w HS))
  have HSL := Aside0.mk (startF_length ins arrs mem)
  go_upto_region 9 with (first | ((with_reducible refine gate_dst (N := 28) rfl ?_); go_must (refine ev_lit IW (e := 2) HS rfl (N := 28) rfl (xs := ([] : List Int)) (inner := []) ?hrun (Reps.none _ _) (by first | decide | simp) ?_); (case hrun => first | (go_simp; done) | (go_simp; rfl)); clear HS; intro gl w HS) | (((with_reducible refine gate_builtin (b := .append) (xs := #[.tmp 28, .tmp 29]) rfl ?_); go_must (refine ev_append IW HS 0 (.tmp 28) (.tmp 29) 35 2 (.int .i64 0) 8 rfl (HS.C 2 rfl) (fun _ _ h => h) rfl rfl rfl rfl Try.underlying35 info2 rfl (by decide) (by omega) ((by simp; have := HSL.out; omega)) ?_); clear HS; intro vm w HS); rw [List.nil_append] at HS))
  replace HS := HS.pick [3, 2, 1, 0, 4, 5] (by decide)
  obtain ⟨M, hM⟩ : ∃ M, M = startF ins arrs mem := ⟨_, rfl⟩
  rw [← hM] at HS ⊢
  have hMl : M.length ≤ 10000 := by have := HSL.out; rw [hM]; omega
  clear hM
  go_wp2
  go_loopg [10, 11] 130 (fun kq v10 v11 w' => ∃ (i : Nat) (s : St) (m : List Int), v11 = .int .i64 (i : Int) ∧ Aside0 (s.regs.length = 64 ∧ i ≤ 128 ∧ 130 ≤ kq + i ∧ m.length = M.length) ∧
      Aside0 (Sat W w' [blk g7 32 (stL s).toArray, row IW 2 (.slice Ap M.length cp) m, blk g9 32 (stL s).toArray, row IW 2 v10 m, blk gb 25 #[.slice Ac code.length cc, .slice Aa arrs.length ca, .int .i64 st, .int .i64 mem], old W]))
  case atStart => exact ⟨0, beginS st, M, rfl, ⟨begin_len st, by omega, by omega, rfl⟩, ⟨HS⟩⟩
  case round =>
    clear HS cb
    obtain ⟨i, s, m, rfl, HM, HS'⟩ := hrel
    have HS := HS'.out
    clear HS'
    have hs := HM.out.1
    obtain ⟨Ao, co, rfl⟩ := HS.slice 3 rfl
    cases gk with
    | zero => have := HM.out; omega
    | succ k1 =>
      have c65 := (st_cell HS 2 rfl 65).trans (stL_ended hs)
      have cb := HS.cell 4 rfl
      obtain ⟨I, hI_⟩ : ∃ I : Int, (i : Int) = I := ⟨_, rfl⟩
      rw [hI_]
      have HII := Aside0.mk hI_
      by_cases hlt : I < fu
      · have hltb : decide (I < fu) = true := decide_eq_true hlt
        clear hI_
        have R := step_calls (wMem g7 Ap M.length cp) (c := cc) (fun w h => Kd.C_below hC (h.old 3 rfl)) hR.fits trivial hs HS.join
        change Calls _ _ #[.pointer (some ⟨g7, 0, none⟩), .slice Ac code.length cc, .iface 35 (.slice Ap M.length cp)] _ (DoPost (wMem g7 Ap M.length cp) W _ (stepF wF code s m)) at R
        by_cases he : s.ended = true
        · rw [he] at c65
          have hsf : stepF wF code s m = (s, m, []) := by unfold stepF; rw [if_pos he]
          rw [hsf] at R
          have HRR := Aside0.mk R
          have hse := same_eql s hs
          clear R hsf
          go_wp2_with (first | (go_at_call 13; (with_reducible refine HRR.out.mono ?_); rintro e w_ ⟨vx, rfl, HS_⟩; clear HS; have HS := Sat.split (HS_.front 1 rfl); clear HS_; obtain ⟨Ax, cx, rfl⟩ := HS.slice 2 rfl) | ((with_reducible refine gate_load (ty := 32) (p := 7) rfl ?_); (refine gate_guard (by rfl) ?_); dsimp only; go_must (refine ev_load HS 0 rfl rfl 32 (.tmp 7) rfl (N := 47) rfl rfl _ Try.underlying32 rfl (size32 hs) ?_)) | ((with_reducible refine gate_load (ty := 32) (p := 9) rfl ?_); (refine gate_guard (by rfl) ?_); dsimp only; go_must (refine ev_load HS 3 rfl rfl 32 (.tmp 9) rfl (N := 48) rfl rfl _ Try.underlying32 rfl (size32 hs) ?_)))
          go_ret
          exact ⟨rfl, HS.old 6 rfl⟩
        · have he : s.ended = false := by simpa using he
          rw [he] at c65
          clear R
          have R1 := one_calls (c := cc) (cm0 := co) he (fun w h => Kd.C_below hC (h.old 5 rfl)) (fun w h => h.C 3 rfl) (by have := HM.out; omega) hs hop HS
          have hk := stepF_keeps wF code s m hs
          have hmem := stepF_mem code s m
          have HST := Aside0.mk (fun (w : World) (L : List Chunk) (h0 : ∀ w, Sat W w L → Kd.C k58 w Ac code.length code) (h : Sat W w (blk g7 32 (stL s).toArray :: row IW 2 (.slice Ap M.length cp) m :: L)) =>
            (show Calls _ _ #[.pointer (some ⟨g7, 0, none⟩), .slice Ac code.length cc, .iface 35 (.slice Ap M.length cp)] _ (DoPost (wMem g7 Ap M.length cp) W _ (stepF wF code s m)) from step_calls (wMem g7 Ap M.length cp) (c := cc) h0 hR.fits trivial hs h.join))
          obtain ⟨q, hq⟩ : ∃ q, q = stepF wF code s m := ⟨_, rfl⟩
          rw [← hq] at R1 hk hmem HST
          clear hq
          have HR1 := Aside0.mk R1
          have hml : q.2.1.length ≤ 10000 := by have := HM.out; omega
          have hrl := hk.1
          have hol := hk.2.2
          have HK := Aside0.mk hmem
          clear R1 hk hmem he
          go_upto_region 15 with (first | (go_at_call 14; (with_reducible refine HR1.out.mono ?_); rintro e w_ ⟨vw, Au, nu, cu, rfl, HS_⟩; clear HS; have HS := HS_; clear HS_; obtain ⟨Aw, cw, rfl⟩ := HS.slice 0 rfl) | ((with_reducible refine gate_load (ty := 32) (p := 9) rfl ?_); go_must (refine ev_load HS 2 rfl rfl 32 (.tmp 9) rfl (N := 54) rfl rfl _ Try.underlying32 rfl (size32 hs) ?_)) | ((with_reducible refine gate_dst (N := 12) rfl ?_); go_must (refine ev_box HS rfl (N := 12) rfl (cs := (stL z0).toArray) (t := 32) ?hrun ?_); (case hrun => first | (go_simp; done) | (go_simp; rfl)); clear HS; intro g12 w HS) | ((with_reducible refine gate_store (t := 32) (p := 12) rfl ?_); go_must (refine ev_store HS 0 rfl rfl 32 (.tmp 12) (.tmp 57) rfl rfl rfl (stL (q.1)) rfl (len32 hrl) (by simp [stL_length hrl]; rfl) (stL_one _) ?_); clear HS; intro w HS))
          obtain ⟨hnu, hcu⟩ := HS.cap 2 rfl
          subst hnu
          replace HS := HS.pick [3, 4, 0, 1, 2, 5, 6, 7, 8] (by decide)
          have cb := HS.cell 7 rfl
          have R2 := HST.out _ _ (fun w h => Kd.C_below hC (h.old 6 rfl)) HS
          have HR2 := Aside0.mk R2
          clear R2 HST HR1
          go_upto_region 16 with (go_at_call 13; (with_reducible refine HR2.out.mono ?_); rintro e w_ ⟨vx, rfl, HS_⟩; clear HS; have HS := Sat.split (HS_.front 1 rfl); clear HS_; obtain ⟨Ax, cx, rfl⟩ := HS.slice 2 rfl)
          replace HS := HS.pick [0, 1, 2, 3, 4, 5, 6, 7, 8, 9] (by decide)
          have hc3 := (HS.cap 2 rfl).2
          have hc4 := (HS.cap 4 rfl).2
          have hc1 := (HS.cap 1 rfl).2
          have hc2 := (HS.cap 5 rfl).2
          have hML : M.length = q.2.1.length := (HS.cap 1 rfl).1
          have hse := same_neq q.1 hrl
          have HMLL := Aside0.mk hML
          rw [hML] at HS ⊢
          clear hML
          go_upto_region 18 with (first | ((with_reducible refine gate_load (ty := 32) (p := 7) rfl ?_); go_must (refine ev_load HS 0 rfl rfl 32 (.tmp 7) rfl (N := 65) rfl rfl _ Try.underlying32 rfl (size32 hrl) ?_)) | ((with_reducible refine gate_load (ty := 32) (p := 12) rfl ?_); go_must (refine ev_load HS 3 rfl rfl 32 (.tmp 12) rfl (N := 66) rfl rfl _ Try.underlying32 rfl (size32 hrl) ?_)) | (go_at_call 15; (with_reducible refine (palingslaw19_words.calls 1000001 _ _ q.2.1 _ _ q.2.1 true _ (HS.C 1 rfl) hc1 (HS.C 5 rfl) hc2 (words_same q.2.1 (by omega))).mono ?_); rintro e w_ ⟨rfl, hd_⟩; replace HS := HS.below hd_.below; clear hd_) | (go_at_call 16; (with_reducible refine (palingslaw19_Seen.calls 1000001 _ _ q.2.2 _ _ q.2.2 true _ (HS.C 2 rfl) hc3 (HS.C 4 rfl) hc4 (seen_same q.2.2 (by omega))).mono ?_); rintro e w_ ⟨rfl, hd_⟩; replace HS := HS.below hd_.below; clear hd_))
          go_wp2_with (first | ((with_reducible refine gate_load (ty := 32) (p := 12) rfl ?_); go_must (refine ev_load HS 3 rfl rfl 32 (.tmp 12) rfl (N := 80) rfl rfl _ Try.underlying32 rfl (size32 hrl) ?_)) | ((with_reducible refine gate_store (t := 32) (p := 9) rfl ?_); go_must (refine ev_store HS 6 rfl rfl 32 (.tmp 9) (.tmp 80) rfl rfl rfl (stL (q.1)) rfl (len32 hrl) (by simp [stL_length hrl, stL_length hs]) (stL_one _) ?_); clear HS; intro w HS))
          rw [← HMLL.out] at HS ⊢
          go_roundg k1
          case measure => have := HM.out; omega
          case rel =>
            refine ⟨i + 1, q.1, q.2.1, ?_, ⟨hrl, by have := HII.out; omega, by have := HM.out; omega, HMLL.out.symm⟩, ⟨HS.pick [0, 1, 6, 5, 8, 9] (by decide)⟩⟩
            · rw [← HII.out, w64 ((i : Int) + 1) (by omega) (by have := HM.out; omega)]; rfl
      · have hltb : decide (I < fu) = false := decide_eq_false hlt
        clear hI_
        go_wp2
        go_ret
        exact ⟨rfl, HS.old 5 rfl⟩
end
theorem steps_walk {H : Type} {enc : TypeId × Value → H} {d0 d1 : DataW H} {p0 p1 : List MemPlace} (v0 v1 : Value) (n : Int) (W : World) (h0 : Arg enc Try.prog W 25 v0 d0 p0) (h1 : Arg enc Try.prog W 26 v1 d1 p1) (_ : (Lit.int .i64 n).wf = true) :
    Calls Try.prog 3 #[v0, v1, .int .i64 n] W fun e w' => e = .returned (.bool true) ∧ Below W.heap.size W w' := by
  obtain ⟨Ac, cc, code, Aa, ca, arrs, st, mem, rfl, hcc, hca, hC, hA, _, _, _⟩ := open_img h0
  obtain ⟨Ai, ci, ins, rfl, hci, hI⟩ := open_rows h1
  obtain ⟨b, hb, hF⟩ := few_tells code arrs st mem ins
  cases b with
  | false => exact steps_few n W hC hcc hA hca hI hci hb
  | true => exact steps_main n W hC hcc hA hca hI hci hb (hF rfl)
end Go.Proofs.Ytigimkcppocodaa.B
