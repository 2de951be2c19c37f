/- Quotients and rests make the whole again, for every pair of words. -/
import Derived.Test.YtifonhhdfoefhaaPWordDivsx1
import Derived.Test.YtifonhhdfoefhaaMine
namespace Go.Proofs.Ytifonhhdfoefhaa.Divs
open Go.RowKit Go.Proofs.Ytifonhhdfoefhaa.PWordDivs Go.Proofs.Ytifonhhdfoefhaa.Mine Go.Proofs.YtifonhhdfoefhaaW.PrintWords Go.Proofs.YtifonhhdfoefhaaW.PrintLast Go.Proofs.YtifonhhdfoefhaaW.PrintMore

set_option linter.unusedSimpArgs false
set_option linter.unusedVariables false
/-- a word's size, without its sign -/
def size (x : Int) : Int := if x < 0 then IntKind.u64.wrap (-IntKind.u64.wrap x) else IntKind.u64.wrap x

theorem size_calls (x : Int) (w : World) : Calls Try.prog 10 #[.int .i64 x] w fun e w' => e = .returned (.int .u64 (size x)) ∧ w = w' := by
  unfold size
  by_cases h : x < 0
  · rw [if_pos h]
    go_enter Try.func10, Try.ntmps10
    go_wp2
    go_ret
    exact ⟨rfl, rfl⟩
  · rw [if_neg h]
    go_enter Try.func10, Try.ntmps10
    go_wp2
    go_ret
    exact ⟨rfl, rfl⟩

set_option maxHeartbeats 1000000 in
set_option maxRecDepth 100000 in
theorem divs_zero (a : Int) (w : World) : Calls Try.prog 4 #[.int .i64 a, .int .i64 0] w fun e w' => e = .returned (.bool true) ∧ Drawn0 w w' := by
  have A1 := Aside0.mk (show palingslaw01_head.f 20 = some true by decide +kernel)
  go_enter Try.func4, Try.ntmps4
  go_wp2_with (first
    | ((with_reducible refine gate_callee (f := 8) rfl ?_); refine goesL_ (some 10) rfl rfl Try.func8 (by kernel_rfl) rfl #[] rfl (by (try simp only [List.map_toArray, List.map_cons, List.map_nil]); first | done | rfl | (simp only [List.length_drop, List.length_take]; rfl)) ?_; (with_reducible refine (palingslaw01_head.calls 20 true _ A1.out).mono ?_); rintro e w' ⟨rfl, ⟨nd, rfl⟩⟩; refine ⟨_, rfl, ?_⟩)
    | ((with_reducible refine gate_callee (f := 9) rfl ?_); refine goesL_ (some 15) rfl rfl Try.func9 (by kernel_rfl) rfl #[.int .i64 4, .int .i64 a, .int .i64 0] rfl (by (try simp only [List.map_toArray, List.map_cons, List.map_nil]); first | done | rfl | (simp only [List.length_drop, List.length_take]; rfl)) ?_; (with_reducible refine (word_Do.calls 20 4 a 0 0 false _ rfl).mono ?_); rintro e w' ⟨rfl, ⟨nd, rfl⟩⟩; refine ⟨_, rfl, ?_⟩)
    | ((with_reducible refine gate_callee (f := 9) rfl ?_); refine goesL_ (some 21) rfl rfl Try.func9 (by kernel_rfl) rfl #[.int .i64 5, .int .i64 a, .int .i64 0] rfl (by (try simp only [List.map_toArray, List.map_cons, List.map_nil]); first | done | rfl | (simp only [List.length_drop, List.length_take]; rfl)) ?_; (with_reducible refine (word_Do.calls 20 5 a 0 0 false _ rfl).mono ?_); rintro e w' ⟨rfl, ⟨nd, rfl⟩⟩; refine ⟨_, rfl, ?_⟩))
  go_ret
  exact ⟨rfl, by repeat (first | exact Drawn0.refl _ | apply Drawn0.step)⟩

set_option maxHeartbeats 1000000 in
set_option maxRecDepth 100000 in
theorem divs_some (a b q r : Int) (w : World) (A2 : Aside0 (word_Do.f 20 4 a b = some (q, true))) (A3 : Aside0 (word_Do.f 20 5 a b = some (r, true)))
    (h0 : (b == 0) = false) (h1 : (wrap64 (wrap64 (q * b) + r) != a) = false) (h2 : decide (size r < size b) = true) (h3 : (r == 0) = true ∨ (r == 0) = false ∧ decide (r < 0) = decide (a < 0)) (h4 : (size q == IntKind.u64.wrap (Int.tdiv (size a) (size b))) = true) (h5 : (size b = 0) = False) :
    Calls Try.prog 4 #[.int .i64 a, .int .i64 b] w fun e w' => e = .returned (.bool true) ∧ Drawn0 w w' := by
  have A1 := Aside0.mk (show palingslaw01_head.f 20 = some true by decide +kernel)
  rcases h3 with h3 | ⟨h3, h6⟩
  all_goals
    go_enter Try.func4, Try.ntmps4
    go_wp2_with (first
      | ((with_reducible refine gate_callee (f := 8) rfl ?_); refine goesL_ (some 10) rfl rfl Try.func8 (by kernel_rfl) rfl #[] rfl (by (try simp only [List.map_toArray, List.map_cons, List.map_nil]); first | done | rfl | (simp only [List.length_drop, List.length_take]; rfl)) ?_; (with_reducible refine (palingslaw01_head.calls 20 true _ A1.out).mono ?_); rintro e w' ⟨rfl, ⟨nd, rfl⟩⟩; refine ⟨_, rfl, ?_⟩)
      | ((with_reducible refine gate_callee (f := 9) rfl ?_); refine goesL_ (some 15) rfl rfl Try.func9 (by kernel_rfl) rfl #[.int .i64 4, .int .i64 a, .int .i64 b] rfl (by (try simp only [List.map_toArray, List.map_cons, List.map_nil]); first | done | rfl | (simp only [List.length_drop, List.length_take]; rfl)) ?_; (with_reducible refine (word_Do.calls 20 4 a b q true _ A2.out).mono ?_); rintro e w' ⟨rfl, ⟨nd, rfl⟩⟩; refine ⟨_, rfl, ?_⟩)
      | ((with_reducible refine gate_callee (f := 9) rfl ?_); refine goesL_ (some 21) rfl rfl Try.func9 (by kernel_rfl) rfl #[.int .i64 5, .int .i64 a, .int .i64 b] rfl (by (try simp only [List.map_toArray, List.map_cons, List.map_nil]); first | done | rfl | (simp only [List.length_drop, List.length_take]; rfl)) ?_; (with_reducible refine (word_Do.calls 20 5 a b r true _ A3.out).mono ?_); rintro e w' ⟨rfl, ⟨nd, rfl⟩⟩; refine ⟨_, rfl, ?_⟩)
      | ((with_reducible refine gate_calleeT (t := 55) (d := (some 57)) rfl rfl ?_); refine goesT_ (some 57) rfl rfl Try.func10 (by kernel_rfl) rfl #[.int .i64 r] rfl rfl (by (try simp only [List.map_toArray, List.map_cons, List.map_nil]); first | done | rfl | (simp only [List.length_drop, List.length_take]; rfl)) ?_; (with_reducible refine (size_calls r _).mono ?_); rintro e w' ⟨rfl, rfl⟩; refine ⟨_, rfl, ?_⟩)
      | ((with_reducible refine gate_calleeT (t := 58) (d := (some 60)) rfl rfl ?_); refine goesT_ (some 60) rfl rfl Try.func10 (by kernel_rfl) rfl #[.int .i64 b] rfl rfl (by (try simp only [List.map_toArray, List.map_cons, List.map_nil]); first | done | rfl | (simp only [List.length_drop, List.length_take]; rfl)) ?_; (with_reducible refine (size_calls b _).mono ?_); rintro e w' ⟨rfl, rfl⟩; refine ⟨_, rfl, ?_⟩)
      | (try (refine gate_guard (by rfl) ?_; dsimp only)); ((with_reducible refine gate_calleeT (t := 74) (d := (some 76)) rfl rfl ?_); refine goesT_ (some 76) rfl rfl Try.func10 (by kernel_rfl) rfl #[.int .i64 q] rfl rfl (by (try simp only [List.map_toArray, List.map_cons, List.map_nil]); first | done | rfl | (simp only [List.length_drop, List.length_take]; rfl)) ?_; (with_reducible refine (size_calls q _).mono ?_); rintro e w' ⟨rfl, rfl⟩; refine ⟨_, rfl, ?_⟩)
      | (try (refine gate_guard (by rfl) ?_; dsimp only)); ((with_reducible refine gate_calleeT (t := 77) (d := (some 79)) rfl rfl ?_); refine goesT_ (some 79) rfl rfl Try.func10 (by kernel_rfl) rfl #[.int .i64 a] rfl rfl (by (try simp only [List.map_toArray, List.map_cons, List.map_nil]); first | done | rfl | (simp only [List.length_drop, List.length_take]; rfl)) ?_; (with_reducible refine (size_calls a _).mono ?_); rintro e w' ⟨rfl, rfl⟩; refine ⟨_, rfl, ?_⟩)
      | (try (refine gate_guard (by rfl) ?_; dsimp only)); ((with_reducible refine gate_calleeT (t := 80) (d := (some 82)) rfl rfl ?_); refine goesT_ (some 82) rfl rfl Try.func10 (by kernel_rfl) rfl #[.int .i64 b] rfl rfl (by (try simp only [List.map_toArray, List.map_cons, List.map_nil]); first | done | rfl | (simp only [List.length_drop, List.length_take]; rfl)) ?_; (with_reducible refine (size_calls b _).mono ?_); rintro e w' ⟨rfl, rfl⟩; refine ⟨_, rfl, ?_⟩))

    go_ret
    exact ⟨rfl, by repeat (first | exact Drawn0.refl _ | apply Drawn0.step)⟩


theorem u64_wrap (n : Int) : IntKind.u64.wrap n = n % 18446744073709551616 := by
  simp [IntKind.wrap, IntKind.bits, IntKind.signed]
theorem size_abs (x : Int) (h : -9223372036854775808 ≤ x ∧ x ≤ 9223372036854775807) : size x = (x.natAbs : Int) := by
  unfold size; rw [u64_wrap, u64_wrap]; split <;> omega

/-- what the two ops tell where there is no nought -/
theorem told (a b : Int) (ha : -9223372036854775808 ≤ a ∧ a ≤ 9223372036854775807) (hb : -9223372036854775808 ≤ b ∧ b ≤ 9223372036854775807) (h : b ≠ 0) :
    ∃ q r, word_Do.f 20 4 a b = some (q, true) ∧ word_Do.f 20 5 a b = some (r, true) ∧ wrap64 (wrap64 (q * b) + r) = a ∧ (-9223372036854775808 ≤ q ∧ q ≤ 9223372036854775807) ∧ q.natAbs = a.natAbs / b.natAbs ∧ r = Int.tmod a b := by
  by_cases h1 : b = -1
  · subst h1
    refine ⟨wrap64 (-a), 0, rfl, rfl, by unfold wrap64; omega, by unfold wrap64; omega, ?_, by simp⟩
    rw [show (-1 : Int).natAbs = 1 by rfl, Nat.div_one]; unfold wrap64; omega
  · have d4 : word_Do.f 20 4 a b = some (wrap64 (Int.tdiv a b), true) := by
      show (word_divide.f 19 4 a b).bind _ = _
      unfold word_divide.f
      rw [if_neg h, if_neg h1]
      show ((if b = -1 then _ else if b = 0 then _ else _ : Option (Int × Bool))).bind _ = _
      rw [if_neg h1, if_neg h]; rfl
    have d5 : word_Do.f 20 5 a b = some (Int.tmod a b, true) := by
      show (word_divide.f 19 5 a b).bind _ = _
      unfold word_divide.f
      rw [if_neg h, if_neg h1]
      show ((if b = -1 then _ else if b = 0 then _ else _ : Option (Int × Bool))).bind _ = _
      rw [if_neg h1, if_neg h]; rfl
    have e : (Int.tdiv a b).natAbs = a.natAbs / b.natAbs := Int.natAbs_tdiv a b
    have hbnd : -9223372036854775808 ≤ Int.tdiv a b ∧ Int.tdiv a b ≤ 9223372036854775807 := by
      by_cases h2 : b = 1
      · subst h2; simpa using ha
      · have hb2 : 2 ≤ b.natAbs := by omega
        have : a.natAbs / b.natAbs ≤ a.natAbs / 2 := Nat.div_le_div_left hb2 (by decide)
        omega
    have ew : wrap64 (Int.tdiv a b) = Int.tdiv a b := by unfold wrap64; omega
    rw [ew] at d4
    have hs : Int.tdiv a b * b + Int.tmod a b = a := by
      have := Int.tmod_add_mul_tdiv a b
      rw [Int.mul_comm b] at this; omega
    refine ⟨_, _, d4, d5, ?_, hbnd, e, rfl⟩
    generalize Int.tdiv a b * b = p at hs ⊢
    unfold wrap64; omega

theorem divs_any (a b : Int) (w : World) (ha : -9223372036854775808 ≤ a ∧ a ≤ 9223372036854775807) (hb : -9223372036854775808 ≤ b ∧ b ≤ 9223372036854775807) :
    Calls Try.prog 4 #[.int .i64 a, .int .i64 b] w fun e w' => e = .returned (.bool true) ∧ Drawn0 w w' := by
  by_cases h : b = 0
  · subst h; exact divs_zero a w
  obtain ⟨q, r, hq, hr, hw, hqb, hqa, hrm⟩ := told a b ha hb h
  have hra : r.natAbs = a.natAbs % b.natAbs := by rw [hrm]; exact Int.natAbs_tmod a b
  have hrlt : r.natAbs < b.natAbs := by rw [hra]; exact Nat.mod_lt _ (by omega)
  have hsg : r = 0 ∨ r ≠ 0 ∧ (r < 0 ↔ a < 0) := by
    by_cases h0 : r = 0
    · exact .inl h0
    · refine .inr ⟨h0, ?_⟩
      by_cases hn : a < 0
      · have h2 : 0 ≤ Int.tmod (-a) b := Int.tmod_nonneg b (by omega)
        rw [Int.neg_tmod] at h2; omega
      · have h2 : 0 ≤ Int.tmod a b := Int.tmod_nonneg b (by omega)
        omega
  have hrb : -9223372036854775808 ≤ r ∧ r ≤ 9223372036854775807 := by omega
  refine divs_some a b q r w ⟨hq⟩ ⟨hr⟩ (by simpa using h) (by simpa using hw) ?_ ?_ ?_ ?_
  · rw [size_abs r hrb, size_abs b hb]; simpa using hrlt
  · rcases hsg with h0 | ⟨h0, h1⟩
    · exact .inl (by simpa using h0)
    · exact .inr ⟨by simpa using h0, by simpa using h1⟩
  · rw [size_abs a ha, size_abs b hb, size_abs q hqb, hqa, beq_iff_eq, Int.tdiv_eq_ediv_of_nonneg (Int.natCast_nonneg _), u64_wrap, ← Int.natCast_ediv]
    have : a.natAbs / b.natAbs ≤ a.natAbs := Nat.div_le_self _ _
    omega
  · rw [size_abs b hb]; simp; omega


theorem word_bounds {a : Int} (h : (Lit.int .i64 a).wf = true) : -9223372036854775808 ≤ a ∧ a ≤ 9223372036854775807 := by
  simp [Lit.wf, IntKind.min, IntKind.max, IntKind.signed, IntKind.bits] at h; omega
theorem walk (a b : Int) (w : World) (ha : (Lit.int .i64 a).wf = true) (hb : (Lit.int .i64 b).wf = true) :
    Calls Try.prog 4 #[.int .i64 a, .int .i64 b] w fun e w' => e = .returned (.bool true) ∧ Below w.heap.size w w' :=
  (divs_any a b w (word_bounds ha) (word_bounds hb)).mono fun _ _ ⟨he, hd⟩ => ⟨he, hd.below⟩

end Go.Proofs.Ytifonhhdfoefhaa.Divs
