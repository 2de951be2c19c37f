/- MachWords: words of a memory, those that are there: its walk, and that it answers true. -/
import Derived.Test.YtigimkcppocodaaMachOpen
namespace Go.Proofs.Ytigimkcppocodaa.B
open Go.RowKit Go.Proofs.Ytigimkcppocodaa.Mine Go.Proofs.Ytigimkcppocodaa.Sep Go.Proofs.YtigimkcppocodaaW.PrintWords Go.Proofs.YtigimkcppocodaaW.PrintLast Go.Proofs.YtigimkcppocodaaW.PrintMore
set_option linter.unusedVariables false
set_option linter.unusedSimpArgs false
section
variable {A : Option Addr} {c : Nat} {l : List Int}
set_option maxRecDepth 100000 in
set_option maxHeartbeats 1000000 in
theorem words_long (a v : Int) (W : World) (hl : 100 < l.length) : Calls Try.prog 5 #[.slice A l.length c, .int .i64 a, .int .i64 v] W fun e W' => e = .returned (.bool true) ∧ Below W.heap.size W W' := by
  have HS := Sat.start W
  have hlb : decide (100 < (l.length : Int)) = true := decide_eq_true (by omega)
  go_enter Try.func5, Try.ntmps5
  go_wp2_with (go_at_call 9; (with_reducible refine (head_calls HS).mono ?_); rintro e w_ ⟨rfl, HS_⟩; clear HS; have HS := HS_; clear HS_)
  go_ret
  exact ⟨rfl, HS.old 0 rfl⟩
theorem rd_set_same (l : List Int) (a v : Int) (h0 : 0 ≤ a) (h1 : a < (l.length : Int)) : rd (l.set a.toNat v) a = v := by
  unfold rd
  rw [List.getD_eq_getElem?_getD, List.getElem?_set_self (by omega)]
  rfl
theorem rd_set_ne (l : List Int) (a k v : Int) (h0 : 0 ≤ a) (hk : 0 ≤ k) (h : k ≠ a) : rd (l.set a.toNat v) k = rd l k := by
  unfold rd
  rw [List.getD_eq_getElem?_getD, List.getElem?_set_ne (by omega), List.getD_eq_getElem?_getD]
set_option maxRecDepth 100000 in
set_option maxHeartbeats 2000000 in
theorem words_in (a v : Int) (W : World) (hc : l.length ≤ c) (hC : Kd.C (Kd.int .i64) W A l.length l) (hl : l.length ≤ 100) (h0 : 0 ≤ a) (h1 : a < (l.length : Int)) : Calls Try.prog 5 #[.slice A l.length c, .int .i64 a, .int .i64 v] W fun e W' => e = .returned (.bool true) ∧ Below W.heap.size W W' := by
  have HS := Sat.start W
  have hlb : decide (100 < (l.length : Int)) = false := decide_eq_false (by omega)
  have h0b : decide (0 ≤ a) = true := decide_eq_true h0
  have h1b : decide (a < (l.length : Int)) = true := decide_eq_true h1
  have HR := Aside0.mk (show wRd l a = (rd l a, true) by unfold wRd; rw [if_pos ⟨h0, h1⟩])
  have HW := Aside0.mk (show wWr l a v = (l.set a.toNat v, true) by unfold wWr; rw [if_pos ⟨h0, h1⟩])
  have HC := Aside0.mk hC
  clear hC
  go_enter Try.func5, Try.ntmps5
  go_upto_region 5 with (go_at_call 9; (with_reducible refine (head_calls HS).mono ?_); rintro e w_ ⟨rfl, HS_⟩; clear HS; have HS := HS_; clear HS_)
  go_upto_region 6 with (first | ((with_reducible refine gate_dst (N := 18) rfl ?_); go_must (refine ev_lit IW (e := 2) HS rfl (N := 18) rfl (xs := ([] : List Int)) (inner := []) ?hrun (Reps.none _ _) (by first | decide | simp) ?_); (case hrun => first | (go_simp; done) | (go_simp; rfl)); clear HS; intro gl w HS) | ((with_reducible refine gate_builtin (b := .append) (xs := #[.tmp 18, .tmp 19]) rfl ?_); go_must (refine ev_append2 IW HS 0 (.tmp 18) (.tmp 19) 35 34 2 2 (.int .i64 0) 8 rfl (Kd.C_below HC.out (HS.old 1 rfl)) (fun _ _ h => h) rfl rfl rfl rfl Try.underlying35 Try.underlying34 info2 rfl (by decide) (by omega) ((by simp; omega)) ?_); clear HS; intro vo w HS))
  obtain ⟨Av, cv, rfl⟩ := HS.slice 0 rfl
  rw [List.nil_append] at HS ⊢
  have R := read_calls a 0 rfl HS
  rw [show wRd l a = (rd l a, true) from HR.out] at R
  have HRR := Aside0.mk R
  clear R
  go_upto_region 8 with (go_at_call 19; (with_reducible refine (HRR.out).mono ?_); rintro e w_ ⟨rfl, HS_⟩; clear HS; have HS := HS_; clear HS_)
  have hCl := Kd.C_below HC.out (HS.old 1 rfl)
  obtain ⟨al, el, l0⟩ := Kd.at_int hCl a h0 h1
  cases el
  have s1 := eq_true h0
  have s2 := eq_true h1
  clear hCl
  have R2 := write_calls a v 0 rfl HS
  rw [show wWr l a v = (l.set a.toNat v, true) from HW.out] at R2
  have HWW := Aside0.mk R2
  clear R2
  go_upto_region 10 with (go_at_call 20; (with_reducible refine (HWW.out).mono ?_); rintro e w_ ⟨rfl, HS_⟩; clear HS; have HS := HS_; clear HS_)
  have hCw := HS.C 0 rfl
  have hCl := Kd.C_below HC.out (HS.old 1 rfl)
  have HX := Aside0.mk hCw
  have HY := Aside0.mk hCl
  clear hCw hCl
  go_wp2
  go_loop [11, 12, 67] (fun _ _ i => ∃ k : Nat, k ≤ l.length ∧ i = .int .i64 (k : Int)) (fun _ _ i => l.length - (intOf i).toNat)
  case atStart => exact ⟨0, Nat.zero_le _, rfl⟩
  case round =>
    obtain ⟨k, hk, rfl⟩ := hrel
    by_cases hlt : k < l.length
    · obtain ⟨K, hK⟩ : ∃ K : Int, (k : Int) = K := ⟨_, rfl⟩
      have p1 : 0 ≤ K := by omega
      have q1 : K < (l.length : Int) := by omega
      have c1_ : decide (K < (l.length : Int)) = true := decide_eq_true q1
      obtain ⟨ax, ex, x0⟩ := Kd.at_int HX.out K p1 (by simpa using q1)
      obtain ⟨ay, ey, y0⟩ := Kd.at_int HY.out K p1 q1
      have HKK := Aside0.mk hK
      rw [hK]
      clear hK
      cases ex
      cases ey
      have r1 := eq_true p1
      have r2 := eq_true q1
      by_cases ha : K = a
      · have hab : (K == a) = true := beq_iff_eq.mpr ha
        have hx : rd (l.set a.toNat v) K = v := by rw [ha]; exact rd_set_same l a v h0 h1
        rw [hx] at x0
        have HA := Aside0.mk ha
        clear ha hx
        go_wp2
        go_round
        case rel => exact ⟨k + 1, by omega, by have := HKK.out; congr 1; push_cast; omega⟩
        case measure => simp [intOf]; have := HKK.out; omega
      · have hab : (K == a) = false := beq_eq_false_iff_ne.mpr ha
        have hx : rd (l.set a.toNat v) K = rd l K := rd_set_ne l a K v h0 p1 ha
        rw [hx] at x0
        have HA := Aside0.mk ha
        clear ha hx
        go_wp2
        go_round
        case rel => exact ⟨k + 1, by omega, by have := HKK.out; congr 1; push_cast; omega⟩
        case measure => simp [intOf]; have := HKK.out; omega
    · have hkk : k = l.length := by omega
      subst hkk
      have hkb : decide (l.length < l.length) = false := decide_eq_false (Nat.lt_irrefl _)
      go_wp2
      go_ret
      exact ⟨rfl, HS.old 1 rfl⟩
set_option maxRecDepth 100000 in
set_option maxHeartbeats 2000000 in
theorem words_low (a v : Int) (W : World) (hc : l.length ≤ c) (hC : Kd.C (Kd.int .i64) W A l.length l) (hl : l.length ≤ 100) (hn : ¬ (0 ≤ a ∧ a < (l.length : Int))) (hb0 : decide (0 ≤ a) = false) : Calls Try.prog 5 #[.slice A l.length c, .int .i64 a, .int .i64 v] W fun e W' => e = .returned (.bool true) ∧ Below W.heap.size W W' := by
  have HS := Sat.start W
  have hlb : decide (100 < (l.length : Int)) = false := decide_eq_false (by omega)
  have HR := Aside0.mk (show wRd l a = (0, false) by unfold wRd; rw [if_neg hn])
  have HW := Aside0.mk (show wWr l a v = (l, false) by unfold wWr; rw [if_neg hn])
  have HN := Aside0.mk hn
  clear hn
  have HC := Aside0.mk hC
  clear hC
  go_enter Try.func5, Try.ntmps5
  go_upto_region 5 with (go_at_call 9; (with_reducible refine (head_calls HS).mono ?_); rintro e w_ ⟨rfl, HS_⟩; clear HS; have HS := HS_; clear HS_)
  go_upto_region 6 with (first | ((with_reducible refine gate_dst (N := 18) rfl ?_); go_must (refine ev_lit IW (e := 2) HS rfl (N := 18) rfl (xs := ([] : List Int)) (inner := []) ?hrun (Reps.none _ _) (by first | decide | simp) ?_); (case hrun => first | (go_simp; done) | (go_simp; rfl)); clear HS; intro gl w HS) | ((with_reducible refine gate_builtin (b := .append) (xs := #[.tmp 18, .tmp 19]) rfl ?_); go_must (refine ev_append2 IW HS 0 (.tmp 18) (.tmp 19) 35 34 2 2 (.int .i64 0) 8 rfl (Kd.C_below HC.out (HS.old 1 rfl)) (fun _ _ h => h) rfl rfl rfl rfl Try.underlying35 Try.underlying34 info2 rfl (by decide) (by omega) ((by simp; omega)) ?_); clear HS; intro vo w HS))
  obtain ⟨Av, cv, rfl⟩ := HS.slice 0 rfl
  rw [List.nil_append] at HS ⊢
  have R := read_calls a 0 rfl HS
  rw [show wRd l a = (0, false) from HR.out] at R
  have HRR := Aside0.mk R
  clear R
  go_upto_region 8 with (go_at_call 19; (with_reducible refine (HRR.out).mono ?_); rintro e w_ ⟨rfl, HS_⟩; clear HS; have HS := HS_; clear HS_)
  have R2 := write_calls a v 0 rfl HS
  rw [show wWr l a v = (l, false) from HW.out] at R2
  have HWW := Aside0.mk R2
  clear R2
  go_upto_region 10 with (go_at_call 20; (with_reducible refine (HWW.out).mono ?_); rintro e w_ ⟨rfl, HS_⟩; clear HS; have HS := HS_; clear HS_)
  have hCw := HS.C 0 rfl
  have hCl := Kd.C_below HC.out (HS.old 1 rfl)
  have HX := Aside0.mk hCw
  have HY := Aside0.mk hCl
  clear hCw hCl
  go_wp2
  go_loop [11, 12, 67] (fun _ _ i => ∃ k : Nat, k ≤ l.length ∧ i = .int .i64 (k : Int)) (fun _ _ i => l.length - (intOf i).toNat)
  case atStart => exact ⟨0, Nat.zero_le _, rfl⟩
  case round =>
    obtain ⟨k, hk, rfl⟩ := hrel
    by_cases hlt : k < l.length
    · obtain ⟨K, hK⟩ : ∃ K : Int, (k : Int) = K := ⟨_, rfl⟩
      have p1 : 0 ≤ K := by omega
      have q1 : K < (l.length : Int) := by omega
      have c1_ : decide (K < (l.length : Int)) = true := decide_eq_true q1
      obtain ⟨ax, ex, x0⟩ := Kd.at_int HX.out K p1 (by simpa using q1)
      obtain ⟨ay, ey, y0⟩ := Kd.at_int HY.out K p1 q1
      have HKK := Aside0.mk hK
      rw [hK]
      clear hK
      cases ex
      cases ey
      have r1 := eq_true p1
      have r2 := eq_true q1
      have ha : ¬ K = a := fun e => HN.out (by rw [← e]; exact ⟨p1, q1⟩)
      have hab : (K == a) = false := beq_eq_false_iff_ne.mpr ha
      clear ha
      go_wp2
      go_round
      case rel => exact ⟨k + 1, by omega, by have := HKK.out; congr 1; push_cast; omega⟩
      case measure => simp [intOf]; have := HKK.out; omega
    · have hkk : k = l.length := by omega
      subst hkk
      have hkb : decide (l.length < l.length) = false := decide_eq_false (Nat.lt_irrefl _)
      go_wp2
      go_ret
      exact ⟨rfl, HS.old 1 rfl⟩
set_option maxRecDepth 100000 in
set_option maxHeartbeats 2000000 in
theorem words_high (a v : Int) (W : World) (hc : l.length ≤ c) (hC : Kd.C (Kd.int .i64) W A l.length l) (hl : l.length ≤ 100) (hn : ¬ (0 ≤ a ∧ a < (l.length : Int))) (hb0 : decide (0 ≤ a) = true) (hb1 : decide (a < (l.length : Int)) = false) : Calls Try.prog 5 #[.slice A l.length c, .int .i64 a, .int .i64 v] W fun e W' => e = .returned (.bool true) ∧ Below W.heap.size W W' := by
  have HS := Sat.start W
  have hlb : decide (100 < (l.length : Int)) = false := decide_eq_false (by omega)
  have HR := Aside0.mk (show wRd l a = (0, false) by unfold wRd; rw [if_neg hn])
  have HW := Aside0.mk (show wWr l a v = (l, false) by unfold wWr; rw [if_neg hn])
  have HN := Aside0.mk hn
  clear hn
  have HC := Aside0.mk hC
  clear hC
  go_enter Try.func5, Try.ntmps5
  go_upto_region 5 with (go_at_call 9; (with_reducible refine (head_calls HS).mono ?_); rintro e w_ ⟨rfl, HS_⟩; clear HS; have HS := HS_; clear HS_)
  go_upto_region 6 with (first | ((with_reducible refine gate_dst (N := 18) rfl ?_); go_must (refine ev_lit IW (e := 2) HS rfl (N := 18) rfl (xs := ([] : List Int)) (inner := []) ?hrun (Reps.none _ _) (by first | decide | simp) ?_); (case hrun => first | (go_simp; done) | (go_simp; rfl)); clear HS; intro gl w HS) | ((with_reducible refine gate_builtin (b := .append) (xs := #[.tmp 18, .tmp 19]) rfl ?_); go_must (refine ev_append2 IW HS 0 (.tmp 18) (.tmp 19) 35 34 2 2 (.int .i64 0) 8 rfl (Kd.C_below HC.out (HS.old 1 rfl)) (fun _ _ h => h) rfl rfl rfl rfl Try.underlying35 Try.underlying34 info2 rfl (by decide) (by omega) ((by simp; omega)) ?_); clear HS; intro vo w HS))
  obtain ⟨Av, cv, rfl⟩ := HS.slice 0 rfl
  rw [List.nil_append] at HS ⊢
  have R := read_calls a 0 rfl HS
  rw [show wRd l a = (0, false) from HR.out] at R
  have HRR := Aside0.mk R
  clear R
  go_upto_region 8 with (go_at_call 19; (with_reducible refine (HRR.out).mono ?_); rintro e w_ ⟨rfl, HS_⟩; clear HS; have HS := HS_; clear HS_)
  have R2 := write_calls a v 0 rfl HS
  rw [show wWr l a v = (l, false) from HW.out] at R2
  have HWW := Aside0.mk R2
  clear R2
  go_upto_region 10 with (go_at_call 20; (with_reducible refine (HWW.out).mono ?_); rintro e w_ ⟨rfl, HS_⟩; clear HS; have HS := HS_; clear HS_)
  have hCw := HS.C 0 rfl
  have hCl := Kd.C_below HC.out (HS.old 1 rfl)
  have HX := Aside0.mk hCw
  have HY := Aside0.mk hCl
  clear hCw hCl
  go_wp2
  go_loop [11, 12, 67] (fun _ _ i => ∃ k : Nat, k ≤ l.length ∧ i = .int .i64 (k : Int)) (fun _ _ i => l.length - (intOf i).toNat)
  case atStart => exact ⟨0, Nat.zero_le _, rfl⟩
  case round =>
    obtain ⟨k, hk, rfl⟩ := hrel
    by_cases hlt : k < l.length
    · obtain ⟨K, hK⟩ : ∃ K : Int, (k : Int) = K := ⟨_, rfl⟩
      have p1 : 0 ≤ K := by omega
      have q1 : K < (l.length : Int) := by omega
      have c1_ : decide (K < (l.length : Int)) = true := decide_eq_true q1
      obtain ⟨ax, ex, x0⟩ := Kd.at_int HX.out K p1 (by simpa using q1)
      obtain ⟨ay, ey, y0⟩ := Kd.at_int HY.out K p1 q1
      have HKK := Aside0.mk hK
      rw [hK]
      clear hK
      cases ex
      cases ey
      have r1 := eq_true p1
      have r2 := eq_true q1
      have ha : ¬ K = a := fun e => HN.out (by rw [← e]; exact ⟨p1, q1⟩)
      have hab : (K == a) = false := beq_eq_false_iff_ne.mpr ha
      clear ha
      go_wp2
      go_round
      case rel => exact ⟨k + 1, by omega, by have := HKK.out; congr 1; push_cast; omega⟩
      case measure => simp [intOf]; have := HKK.out; omega
    · have hkk : k = l.length := by omega
      subst hkk
      have hkb : decide (l.length < l.length) = false := decide_eq_false (Nat.lt_irrefl _)
      go_wp2
      go_ret
      exact ⟨rfl, HS.old 1 rfl⟩
theorem words_all (a v : Int) (W : World) (hc : l.length ≤ c) (hC : Kd.C (Kd.int .i64) W A l.length l) : Calls Try.prog 5 #[.slice A l.length c, .int .i64 a, .int .i64 v] W fun e W' => e = .returned (.bool true) ∧ Below W.heap.size W W' := by
  by_cases hl : l.length ≤ 100
  · by_cases h0 : 0 ≤ a
    · by_cases h1 : a < (l.length : Int)
      · exact words_in a v W hc hC hl h0 h1
      · exact words_high a v W hc hC hl (fun h => h1 h.2) (decide_eq_true h0) (decide_eq_false h1)
    · exact words_low a v W hc hC hl (fun h => h0 h.1) (decide_eq_false h0)
  · exact words_long a v W (by omega)
end
theorem words_walk {H : Type} {enc : TypeId × Value → H} {d : DataW H} {p : List MemPlace} (x : Value) (a v : Int) (W : World) (h : Arg enc Try.prog W 34 x d p) (_ : (Lit.int .i64 a).wf = true) (_ : (Lit.int .i64 v).wf = true) :
    Calls Try.prog 5 #[x, .int .i64 a, .int .i64 v] W fun e w' => e = .returned (.bool true) ∧ Below W.heap.size W w' := by
  obtain ⟨A, c, l, rfl, hc, hC⟩ := open_words h
  exact words_all a v W hc hC
end Go.Proofs.Ytigimkcppocodaa.B
