/- Sums, differences and products of two words, bit by bit, for every pair of words. -/
import Derived.Test.YtifonhhdfoefhaaPWordSumsx1
namespace Go.Proofs.Ytifonhhdfoefhaa.Pure
open Go.RowKit Go.Proofs.Ytifonhhdfoefhaa.PWordSums Go.Proofs.YtifonhhdfoefhaaW.PrintWords Go.Proofs.YtifonhhdfoefhaaW.PrintLast Go.Proofs.YtifonhhdfoefhaaW.PrintMore

theorem u64_wrap (n : Int) : IntKind.u64.wrap n = n % 18446744073709551616 := by
  simp [IntKind.wrap, IntKind.bits, IntKind.signed]

theorem u64_small (n : Int) (h0 : 0 ≤ n) (h1 : n < 2 ^ 64) : IntKind.u64.wrap n = n := by
  rw [u64_wrap]; omega

/-- the i-th bit of a word, as the loop asks for it -/
theorem bit_at (n i : Nat) (hn : n < 2 ^ 64) (hi : i < 64) : Go.bits .and .u64 (shr .u64 (n : Int) (i : Int)) 1 = ((n / 2 ^ i % 2 : Nat) : Int) := by
  have e : shr .u64 (n : Int) (i : Int) = ((n / 2 ^ i : Nat) : Int) := by
    unfold shr
    rw [show min (i : Int).toNat IntKind.u64.bits = i by simp [IntKind.bits]; omega]
    simp
  rw [e]
  have hb : n / 2 ^ i < 2 ^ 64 := Nat.lt_of_le_of_lt (Nat.div_le_self _ _) hn
  rw [show (1 : Int) = ((1 : Nat) : Int) by rfl, (bits_nat .u64 64 (by decide) (fun n h0 h1 => u64_small n h0 h1) _ 1 hb (by decide)).1, Nat.and_one_is_mod]

theorem xor01 : ∀ x : Nat, x < 2 → ∀ y : Nat, y < 2 → Go.bits .xor .u64 (x : Int) (y : Int) = (((x + y) % 2 : Nat) : Int) := by decide
theorem and01 : ∀ x : Nat, x < 2 → ∀ y : Nat, y < 2 → Go.bits .and .u64 (x : Int) (y : Int) = ((x * y : Nat) : Int) := by decide
theorem or01 : ∀ x : Nat, x < 2 → ∀ y : Nat, y < 2 → Go.bits .or .u64 (x : Int) (y : Int) = ((x + y - x * y : Nat) : Int) := by decide
theorem maj01 : ∀ x : Nat, x < 2 → ∀ y : Nat, y < 2 → ∀ c : Nat, c < 2 →
    Go.bits .or .u64 (Go.bits .or .u64 (Go.bits .and .u64 (x : Int) (y : Int)) (Go.bits .and .u64 (x : Int) (c : Int))) (Go.bits .and .u64 (y : Int) (c : Int)) = (((x + y + c) / 2 : Nat) : Int) := by decide
theorem par01 : ∀ x : Nat, x < 2 → ∀ y : Nat, y < 2 → ∀ c : Nat, c < 2 →
    Go.bits .xor .u64 (Go.bits .xor .u64 (x : Int) (y : Int)) (c : Int) = (((x + y + c) % 2 : Nat) : Int) := by decide

theorem or_high (s t i : Nat) (hs : s < 2 ^ i) (ht : t < 2) (hi : i < 64) :
    Go.bits .or .u64 (s : Int) (shl .u64 (t : Int) (i : Int)) = ((s + 2 ^ i * t : Nat) : Int) := by
  have hp : 2 ^ i * 2 ≤ 2 ^ 64 := by
    rw [← Nat.pow_succ]; exact Nat.pow_le_pow_right (by decide) (by omega)
  have ht' : 2 ^ i * t ≤ 2 ^ i := by
    have : t ≤ 1 := by omega
    calc 2 ^ i * t ≤ 2 ^ i * 1 := Nat.mul_le_mul_left _ this
      _ = 2 ^ i := Nat.mul_one _
  have e : shl .u64 (t : Int) (i : Int) = ((2 ^ i * t : Nat) : Int) := by
    unfold shl
    rw [show min (i : Int).toNat IntKind.u64.bits = i by simp [IntKind.bits]; omega]
    rw [show (t : Int) * 2 ^ i = ((2 ^ i * t : Nat) : Int) by rw [Nat.mul_comm]; simp]
    exact u64_small _ (Int.natCast_nonneg _) (by exact_mod_cast (by omega : 2 ^ i * t < 2 ^ 64))
  rw [e, (bits_nat .u64 64 (by decide) (fun n h0 h1 => u64_small n h0 h1) _ _ (by omega) (by omega)).2]
  rw [Nat.or_comm, ← Nat.two_pow_add_eq_or_of_lt hs, Nat.add_comm]

theorem shl_u64 (n : Int) (i : Nat) (hi : i < 64) : shl .u64 n (i : Int) = (n * 2 ^ i) % 18446744073709551616 := by
  unfold shl
  rw [show min (i : Int).toNat IntKind.u64.bits = i by simp [IntKind.bits]; omega, u64_wrap]

/-- what is carried into bit i, and the sum of the bits ahead of it -/
def low (a b i : Nat) : Nat := a % 2 ^ i + b % 2 ^ i

theorem low_succ (a b i : Nat) : low a b (i + 1) = low a b i + 2 ^ i * (a / 2 ^ i % 2 + b / 2 ^ i % 2) := by
  unfold low; rw [Nat.mod_pow_succ, Nat.mod_pow_succ, Nat.mul_add]; omega

theorem low_parts (a b i : Nat) : low a b i = low a b i % 2 ^ i + 2 ^ i * (low a b i / 2 ^ i) := (Nat.mod_add_div _ _).symm
theorem low_carry (a b i : Nat) : low a b i / 2 ^ i < 2 := by
  have h1 := Nat.mod_lt a (Nat.two_pow_pos i)
  have h2 := Nat.mod_lt b (Nat.two_pow_pos i)
  rw [Nat.div_lt_iff_lt_mul (Nat.two_pow_pos i)]
  unfold low; omega

theorem low_next (a b i : Nat) :
    low a b (i + 1) % 2 ^ (i + 1) = low a b i % 2 ^ i + 2 ^ i * ((a / 2 ^ i % 2 + b / 2 ^ i % 2 + low a b i / 2 ^ i) % 2) ∧
    low a b (i + 1) / 2 ^ (i + 1) = (a / 2 ^ i % 2 + b / 2 ^ i % 2 + low a b i / 2 ^ i) / 2 := by
  have hp := Nat.two_pow_pos i
  have hs := Nat.mod_lt (low a b i) hp
  have e : low a b (i + 1) = low a b i % 2 ^ i + 2 ^ i * (a / 2 ^ i % 2 + b / 2 ^ i % 2 + low a b i / 2 ^ i) := by
    rw [low_succ]
    have := low_parts a b i
    rw [Nat.mul_add (2 ^ i) (a / 2 ^ i % 2 + b / 2 ^ i % 2)]
    omega
  generalize a / 2 ^ i % 2 + b / 2 ^ i % 2 + low a b i / 2 ^ i = t at e ⊢
  generalize low a b i % 2 ^ i = s at e hs ⊢
  generalize low a b (i + 1) = n at e ⊢
  have ed : n / 2 ^ i = t := by
    rw [e, Nat.add_mul_div_left _ _ hp, Nat.div_eq_of_lt hs, Nat.zero_add]
  have em : n % 2 ^ i = s := by
    rw [e, Nat.add_mul_mod_self_left, Nat.mod_eq_of_lt hs]
  constructor
  · rw [Nat.mod_pow_succ, em, ed]
  · rw [Nat.pow_succ, ← Nat.div_div_eq_div_mul, ed]

theorem wrap_next (i : Nat) (h : i < 64) : wrap64 ((i : Int) + 1) = ((i + 1 : Nat) : Int) := by
  unfold wrap64; omega

theorem prod_next (A : Int) (b i : Nat) (hi : i < 64) :
    IntKind.u64.wrap ((A * ((b % 2 ^ i : Nat) : Int)) % 18446744073709551616 + shl .u64 A (i : Int)) = (A * ((b % 2 ^ i + 2 ^ i : Nat) : Int)) % 18446744073709551616 := by
  rw [shl_u64 _ _ hi, u64_wrap, ← Int.add_emod]
  congr 1
  rw [← Int.mul_add]
  simp

theorem u64_i64 (n : Int) : IntKind.u64.wrap (wrap64 n) = n % 18446744073709551616 := by
  rw [u64_wrap]; unfold wrap64; omega

theorem sums_end (a b : Int) (k : Nat) (h : 1 < k) (ha : -9223372036854775808 ≤ a ∧ a ≤ 9223372036854775807) (A B : Nat) (hA : (A : Int) = a % 18446744073709551616) (hB : (B : Int) = b % 18446744073709551616)
    (x5 x6 x7 : Int) (h5 : x5 = ((low A B 64 % 2 ^ 64 : Nat) : Int)) (h7 : x7 = ((A : Int) * ((B % 2 ^ 64 : Nat) : Int)) % 18446744073709551616) :
    palingslaw01_WordSums.l0 k a b x5 x6 x7 64 = some true := by
  obtain ⟨k, rfl⟩ : ∃ m, k = m + 1 := ⟨k - 1, by omega⟩
  simp only [palingslaw01_WordSums.l0]
  rw [if_neg (by omega)]
  have d1 : ∀ x y, word_Do.f k 1 x y = some (wrap64 (x + y), true) := fun _ _ => rfl
  have d2 : ∀ x y, word_Do.f k 2 x y = some (wrap64 (x - y), true) := fun _ _ => rfl
  have d3 : ∀ x y, word_Do.f k 3 x y = some (wrap64 (x * y), true) := fun _ _ => rfl
  rw [d1, d3]; simp only [Option.bind_some]
  rw [d2]; simp only [Option.bind_some, if_true]
  have e1 : IntKind.u64.wrap (wrap64 (a + b)) = x5 := by
    rw [u64_i64, h5]
    have : low A B 64 = A + B := by
      unfold low
      rw [Nat.mod_eq_of_lt, Nat.mod_eq_of_lt] <;> omega
    rw [this]; omega
  have e2 : wrap64 (wrap64 (a + b) - b) = a := by unfold wrap64; omega
  have e3 : IntKind.u64.wrap (wrap64 (a * b)) = x7 := by
    rw [u64_i64, h7]
    rw [Nat.mod_eq_of_lt (by omega : B < 2 ^ 64), hA, hB]
    rw [← Int.mul_emod]
  rw [if_pos e1, if_pos e2, e3]; simp

theorem sums_loop (a b : Int) (ha : -9223372036854775808 ≤ a ∧ a ≤ 9223372036854775807) (A B : Nat) (hA : (A : Int) = a % 18446744073709551616) (hB : (B : Int) = b % 18446744073709551616) (d : Nat) :
    ∀ (k i : Nat) (x5 x6 x7 : Int), i + d = 64 → d + 1 < k → x5 = ((low A B i % 2 ^ i : Nat) : Int) → x6 = ((low A B i / 2 ^ i : Nat) : Int) → x7 = ((A : Int) * ((B % 2 ^ i : Nat) : Int)) % 18446744073709551616 →
      palingslaw01_WordSums.l0 k a b x5 x6 x7 (i : Int) = some true := by
  induction d with
  | zero =>
    intro k i x5 x6 x7 hi hk h5 h6 h7
    obtain rfl : i = 64 := by omega
    exact sums_end a b k (by omega) ha A B hA hB x5 x6 x7 h5 h7
  | succ d ih =>
    intro k i x5 x6 x7 hi hk h5 h6 h7
    obtain ⟨k, rfl⟩ : ∃ m, k = m + 1 := ⟨k - 1, by omega⟩
    have hi' : i < 64 := by omega
    have hAlt : A < 2 ^ 64 := by omega
    have hBlt : B < 2 ^ 64 := by omega
    have ei : IntKind.u64.wrap (i : Int) = (i : Int) := u64_small _ (by omega) (by omega)
    have eA : IntKind.u64.wrap a = (A : Int) := by rw [u64_wrap, hA]
    have eB : IntKind.u64.wrap b = (B : Int) := by rw [u64_wrap, hB]
    have hn := low_next A B i
    have hc := low_carry A B i
    have hx : A / 2 ^ i % 2 < 2 := Nat.mod_lt _ (by decide)
    have hy : B / 2 ^ i % 2 < 2 := Nat.mod_lt _ (by decide)
    have hs := Nat.mod_lt (low A B i) (Nat.two_pow_pos i)
    simp only [palingslaw01_WordSums.l0]
    rw [if_pos (by omega : (i : Int) < 64), ei, eA, eB, if_pos (by omega : (0 : Int) ≤ (i : Int))]
    rw [bit_at A i hAlt hi', bit_at B i hBlt hi', h5, h6, h7]
    rw [par01 _ hx _ hy _ hc, maj01 _ hx _ hy _ hc, or_high _ _ _ hs (Nat.mod_lt _ (by decide)) hi', wrap_next i hi', prod_next _ _ _ hi']
    by_cases hb : B / 2 ^ i % 2 = 1
    · rw [if_pos (by rw [hb]; rfl)]
      refine ih k (i + 1) _ _ _ (by omega) (by omega) ?_ ?_ ?_
      · rw [hn.1]
      · rw [hn.2]
      · rw [Nat.mod_pow_succ, hb, Nat.mul_one]
    · have hb0 : B / 2 ^ i % 2 = 0 := by omega
      rw [if_neg (by rw [hb0]; decide)]
      refine ih k (i + 1) _ _ _ (by omega) (by omega) ?_ ?_ ?_
      · rw [hn.1]
      · rw [hn.2]
      · rw [Nat.mod_pow_succ, hb0, Nat.mul_zero, Nat.add_zero]

/-- YOURS: ∀ (a0 : Int) (a1 : Int), (Lit.int .i64 a0).wf = true → (Lit.int .i64 a1).wf = true → ∃ k, palingslaw01_WordSums.f k a0 a1 = some true
What it reaches (each with k first where it has rounds; `.mono`: more rounds tell the same; `.l0`, ..: its loops, with `.mono_l`): word_Bool.f, word_divide.f, word_Do.f, palingslaw01_head.f, palingslaw01_WordSums.f -/
theorem WordSums : palingslaw01_WordSums.Pure := by
  intro a b ha hb
  have ha' : -9223372036854775808 ≤ a ∧ a ≤ 9223372036854775807 := by
    simp [Lit.wf, IntKind.min, IntKind.max, IntKind.signed, IntKind.bits] at ha; omega
  refine ⟨70, ?_⟩
  unfold palingslaw01_WordSums.f
  rw [show palingslaw01_head.f 70 = some true by decide +kernel]
  simp only [Option.bind_some, if_true]
  refine sums_loop a b ha' (a % 18446744073709551616).toNat (b % 18446744073709551616).toNat (by omega) (by omega) 64 70 0 0 0 0 (by omega) (by omega) ?_ ?_ ?_
  · simp [low, Nat.mod_one]
  · simp [low, Nat.mod_one]
  · simp [Nat.mod_one]

end Go.Proofs.Ytifonhhdfoefhaa.Pure
