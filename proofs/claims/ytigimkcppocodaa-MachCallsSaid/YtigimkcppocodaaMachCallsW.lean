/- MachCalls: calls within each other: its walk. -/
import Derived.Test.YtigimkcppocodaaMachCallsP
import Derived.Test.YtigimkcppocodaaMachOpen
namespace Go.Proofs.Ytigimkcppocodaa.B
open Go.RowKit Go.Proofs.Ytigimkcppocodaa.Mine Go.Proofs.Ytigimkcppocodaa.Sep Go.Proofs.YtigimkcppocodaaW.PrintWords Go.Proofs.YtigimkcppocodaaW.PrintLast Go.Proofs.YtigimkcppocodaaW.PrintMore
set_option linter.unusedVariables false
set_option linter.unusedSimpArgs false
@[simp] theorem cC_length (n : Int) : (cC n).length = 12 := rfl
theorem calls_regs (n mem : Int) : (callsR n mem).1.regs.length = 64 := runN_regs _ _ _ _ _ (begin_len 0)
set_option maxRecDepth 100000 in
set_option maxHeartbeats 4000000 in
theorem calls_good (a b n m : Int) (W : World) (hn : Go.bits .and .i64 a 63 = n) (hm : 1 + Go.bits .and .i64 b 63 = m) (hx : n + 1 ≤ m) : Calls Try.prog 7 #[.int .i64 a, .int .i64 b] W fun e W' => e = .returned (.bool true) ∧ Below W.heap.size W W' := by
  have HS := Sat.start W
  have hn0 : 0 ≤ n := by rw [← hn, and63]; omega
  have hn1 : n ≤ 63 := by rw [← hn, and63]; omega
  have hm0 : 1 ≤ m := by rw [← hm, and63]; omega
  have hm1 : m ≤ 64 := by rw [← hm, and63]; omega
  have hr0 := calls_ok n m hn0 hn1 hm1 (by omega)
  have hgt : decide (m < n + 1) = false := decide_eq_false (by omega)
  have hw1 : wrap64 (n + 1) = n + 1 := w64 _ (by omega) (by omega)
  have hw7 : wrap64 (7 * n) = 7 * n := w64 _ (by omega) (by omega)
  have hw6 : wrap64 (6 + 7 * n) = 6 + 7 * n := w64 _ (by omega) (by omega)
  have hwm : wrap64 (1 + Go.bits .and .i64 b 63) = m := by rw [hm]; exact w64 _ (by omega) (by omega)
  have hR := calls_right n m (by omega) (by omega)
  have hrl := calls_regs n m
  obtain ⟨r, hr⟩ : ∃ r, r = callsR n m := ⟨_, rfl⟩
  rw [← hr] at hrl hr0
  have HR := Aside0.mk (show r = runF (cC n) 2000 (beginS 0) (startF [] [] m) from hr)
  clear hr hx hm
  have HV := Aside0.mk hr0
  clear hr0
  go_enter Try.func7, Try.ntmps7
  go_upto_region 3 with (go_at_call 9; (with_reducible refine (head_calls HS).mono ?_); rintro e w_ ⟨rfl, HS_⟩; clear HS; have HS := HS_; clear HS_)
  go_upto_region 5 with (fail)
  rw [hwm]
  clear hn hwm
  go_upto_region 6 with ((with_reducible refine gate_dst (N := 30) rfl ?_); go_must (refine ev_lit k58 (e := 58) HS rfl (N := 30) rfl (xs := (cC n)) (inner := [.int .i64 1, .int .i64 1, .int .i64 0, .int .i64 0, .int .i64 0, .int .i64 n, .int .i64 1, .int .i64 2, .int .i64 0, .int .i64 0, .int .i64 0, .int .i64 1, .int .i64 8, .int .i64 0, .int .i64 0, .int .i64 0, .int .i64 0, .int .i64 4, .int .i64 11, .int .i64 0, .int .i64 3, .int .i64 0, .int .i64 0, .int .i64 0, .int .i64 7, .int .i64 0, .int .i64 1, .int .i64 0, .int .i64 0, .int .i64 6, .int .i64 9, .int .i64 0, .int .i64 0, .int .i64 0, .int .i64 0, .int .i64 0, .int .i64 3, .int .i64 1, .int .i64 1, .int .i64 2, .int .i64 2, .int .i64 0, .int .i64 3, .int .i64 63, .int .i64 63, .int .i64 2, .int .i64 1, .int .i64 0, .int .i64 8, .int .i64 0, .int .i64 0, .int .i64 0, .int .i64 0, .int .i64 4, .int .i64 3, .int .i64 63, .int .i64 63, .int .i64 2, .int .i64 2, .int .i64 0, .int .i64 3, .int .i64 3, .int .i64 3, .int .i64 2, .int .i64 1, .int .i64 0, .int .i64 9, .int .i64 0, .int .i64 0, .int .i64 0, .int .i64 0, .int .i64 0]) ?hrun (reps_ins (cC n)) (by first | decide | simp) ?_); (case hrun => first | (go_simp; done) | (go_simp; rfl)); clear HS; intro gl w HS)
  go_upto_region 7 with (first | (go_at_call 17; refine (run_calls (Ac := some ⟨gl, 0, none⟩) (cc := (cC n).length) (code := cC n) (Aa := none) (ca := 0) (arrs := []) (st := 0) (mem := m) (Ai := none) (ci := 0) (ins := []) 2000 (by decide) (by decide) (fun w h => h.C 0 rfl) (Nat.le_refl _) (fun w h => nil_C _ _) (by decide) (fun w h => nil_C _ _) hR HS).mono ?_; rw [← HR.out]; rintro e w_ ⟨A, n2, c2, v, rfl, HS_⟩; clear HS; have HS := HS_; clear HS_; obtain ⟨Av, cv, rfl⟩ := HS.slice 0 rfl) | ((with_reducible refine gate_dst (N := 6) rfl ?_); go_must (refine ev_box HS rfl (N := 6) rfl (cs := (stL z0).toArray) (t := 32) ?hrun ?_); (case hrun => first | (go_simp; done) | (go_simp; rfl)); clear HS; intro g1 w HS) | ((with_reducible refine gate_store (t := 32) (p := 6) rfl ?_); go_must (refine ev_store HS 0 rfl rfl 32 (.tmp 6) (.tmp 36) rfl rfl rfl (stL r.1) rfl (len32 hrl) (by simp [stL_length hrl]; rfl) (stL_one _) ?_); clear HS; intro w HS))
  have c65 := (st_cell HS 0 rfl 65).trans (stL_ended hrl)
  have c66 := (st_cell HS 0 rfl 66).trans (stL_val hrl)
  have c67 := (st_cell HS 0 rfl 67).trans (stL_trap hrl)
  have c68 := (st_cell HS 0 rfl 68).trans (stL_steps hrl)
  have c63 := (st_cell HS 0 rfl 63).trans (stL_reg hrl 63 (by decide))
  rw [show r.1.ended = true by rw [HV.out]] at c65
  rw [show r.1.val = n by rw [HV.out]] at c66
  rw [show r.1.trap = 0 by rw [HV.out]] at c67
  rw [show r.1.steps = 6 + 7 * n by rw [HV.out]] at c68
  rw [show r.1.regs.getD 63 0 = 0 by rw [HV.out]; rfl] at c63
  go_wp2
  go_ret
  exact ⟨rfl, HS.old 4 rfl⟩
set_option maxRecDepth 100000 in
set_option maxHeartbeats 4000000 in
theorem calls_trap (a b n m : Int) (W : World) (hn : Go.bits .and .i64 a 63 = n) (hm : 1 + Go.bits .and .i64 b 63 = m) (hx : m < n + 1) : Calls Try.prog 7 #[.int .i64 a, .int .i64 b] W fun e W' => e = .returned (.bool true) ∧ Below W.heap.size W W' := by
  have HS := Sat.start W
  have hn0 : 0 ≤ n := by rw [← hn, and63]; omega
  have hn1 : n ≤ 63 := by rw [← hn, and63]; omega
  have hm0 : 1 ≤ m := by rw [← hm, and63]; omega
  have hm1 : m ≤ 64 := by rw [← hm, and63]; omega
  obtain ⟨re, rt, rv⟩ := calls_bad n m hn0 hn1 hm0 hm1 (by omega)
  have hgt : decide (m < n + 1) = true := decide_eq_true (by omega)
  have hw1 : wrap64 (n + 1) = n + 1 := w64 _ (by omega) (by omega)
  have hw7 : wrap64 (7 * n) = 7 * n := w64 _ (by omega) (by omega)
  have hw6 : wrap64 (6 + 7 * n) = 6 + 7 * n := w64 _ (by omega) (by omega)
  have hwm : wrap64 (1 + Go.bits .and .i64 b 63) = m := by rw [hm]; exact w64 _ (by omega) (by omega)
  have hR := calls_right n m (by omega) (by omega)
  have hrl := calls_regs n m
  obtain ⟨r, hr⟩ : ∃ r, r = callsR n m := ⟨_, rfl⟩
  rw [← hr] at hrl re rt rv
  have HR := Aside0.mk (show r = runF (cC n) 2000 (beginS 0) (startF [] [] m) from hr)
  clear hr hx hm
  have HV := Aside0.mk (And.intro re (And.intro rv rt))
  clear re rv rt
  go_enter Try.func7, Try.ntmps7
  go_upto_region 3 with (go_at_call 9; (with_reducible refine (head_calls HS).mono ?_); rintro e w_ ⟨rfl, HS_⟩; clear HS; have HS := HS_; clear HS_)
  go_upto_region 5 with (fail)
  rw [hwm]
  clear hn hwm
  go_upto_region 6 with ((with_reducible refine gate_dst (N := 30) rfl ?_); go_must (refine ev_lit k58 (e := 58) HS rfl (N := 30) rfl (xs := (cC n)) (inner := [.int .i64 1, .int .i64 1, .int .i64 0, .int .i64 0, .int .i64 0, .int .i64 n, .int .i64 1, .int .i64 2, .int .i64 0, .int .i64 0, .int .i64 0, .int .i64 1, .int .i64 8, .int .i64 0, .int .i64 0, .int .i64 0, .int .i64 0, .int .i64 4, .int .i64 11, .int .i64 0, .int .i64 3, .int .i64 0, .int .i64 0, .int .i64 0, .int .i64 7, .int .i64 0, .int .i64 1, .int .i64 0, .int .i64 0, .int .i64 6, .int .i64 9, .int .i64 0, .int .i64 0, .int .i64 0, .int .i64 0, .int .i64 0, .int .i64 3, .int .i64 1, .int .i64 1, .int .i64 2, .int .i64 2, .int .i64 0, .int .i64 3, .int .i64 63, .int .i64 63, .int .i64 2, .int .i64 1, .int .i64 0, .int .i64 8, .int .i64 0, .int .i64 0, .int .i64 0, .int .i64 0, .int .i64 4, .int .i64 3, .int .i64 63, .int .i64 63, .int .i64 2, .int .i64 2, .int .i64 0, .int .i64 3, .int .i64 3, .int .i64 3, .int .i64 2, .int .i64 1, .int .i64 0, .int .i64 9, .int .i64 0, .int .i64 0, .int .i64 0, .int .i64 0, .int .i64 0]) ?hrun (reps_ins (cC n)) (by first | decide | simp) ?_); (case hrun => first | (go_simp; done) | (go_simp; rfl)); clear HS; intro gl w HS)
  go_upto_region 7 with (first | (go_at_call 17; refine (run_calls (Ac := some ⟨gl, 0, none⟩) (cc := (cC n).length) (code := cC n) (Aa := none) (ca := 0) (arrs := []) (st := 0) (mem := m) (Ai := none) (ci := 0) (ins := []) 2000 (by decide) (by decide) (fun w h => h.C 0 rfl) (Nat.le_refl _) (fun w h => nil_C _ _) (by decide) (fun w h => nil_C _ _) hR HS).mono ?_; rw [← HR.out]; rintro e w_ ⟨A, n2, c2, v, rfl, HS_⟩; clear HS; have HS := HS_; clear HS_; obtain ⟨Av, cv, rfl⟩ := HS.slice 0 rfl) | ((with_reducible refine gate_dst (N := 6) rfl ?_); go_must (refine ev_box HS rfl (N := 6) rfl (cs := (stL z0).toArray) (t := 32) ?hrun ?_); (case hrun => first | (go_simp; done) | (go_simp; rfl)); clear HS; intro g1 w HS) | ((with_reducible refine gate_store (t := 32) (p := 6) rfl ?_); go_must (refine ev_store HS 0 rfl rfl 32 (.tmp 6) (.tmp 36) rfl rfl rfl (stL r.1) rfl (len32 hrl) (by simp [stL_length hrl]; rfl) (stL_one _) ?_); clear HS; intro w HS))
  have c65 := (st_cell HS 0 rfl 65).trans (stL_ended hrl)
  have c66 := (st_cell HS 0 rfl 66).trans (stL_val hrl)
  have c67 := (st_cell HS 0 rfl 67).trans (stL_trap hrl)
  have c68 := (st_cell HS 0 rfl 68).trans (stL_steps hrl)
  have c63 := (st_cell HS 0 rfl 63).trans (stL_reg hrl 63 (by decide))
  rw [HV.out.1] at c65
  rw [HV.out.2.1] at c66
  rw [HV.out.2.2] at c67
  clear c68 c63
  go_wp2
  go_ret
  exact ⟨rfl, HS.old 4 rfl⟩
theorem calls_walk (a b : Int) (W : World) (_ : (Lit.int .i64 a).wf = true) (_ : (Lit.int .i64 b).wf = true) :
    Calls Try.prog 7 #[.int .i64 a, .int .i64 b] W fun e w' => e = .returned (.bool true) ∧ Below W.heap.size W w' := by
  by_cases h : Go.bits .and .i64 a 63 + 1 ≤ 1 + Go.bits .and .i64 b 63
  · exact calls_good a b _ _ W rfl rfl h
  · exact calls_trap a b _ _ W rfl rfl (by omega)
end Go.Proofs.Ytigimkcppocodaa.B
