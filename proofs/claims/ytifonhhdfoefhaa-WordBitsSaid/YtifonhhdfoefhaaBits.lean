/- Bits and shifts, bit by bit, for every pair of words: the walk of the law, and its facts. -/
import Derived.Test.YtifonhhdfoefhaaPWordBitsx1
import Derived.Test.YtifonhhdfoefhaaMine
namespace Go.Proofs.Ytifonhhdfoefhaa.Bits
open Go.RowKit Go.Proofs.Ytifonhhdfoefhaa.PWordBits Go.Proofs.Ytifonhhdfoefhaa.Mine Go.Proofs.YtifonhhdfoefhaaW.PrintWords Go.Proofs.YtifonhhdfoefhaaW.PrintLast Go.Proofs.YtifonhhdfoefhaaW.PrintMore
set_option linter.unusedSimpArgs false
set_option linter.unusedVariables false

/-- bit i of a word -/
def bitI (n i : Int) : Int := wrap64 (Go.bits .and .u64 (IntKind.u64.wrap n / 2 ^ i.toNat) 1)

theorem bit_calls (n i : Int) (w : World) (h0 : 0 ≤ i) (h1 : i < 64) : Calls Try.prog 11 #[.int .i64 n, .int .i64 i] w fun e w' => e = .returned (.int .i64 (bitI n i)) ∧ w = w' := by
  unfold bitI
  go_enter Try.func11, Try.ntmps11
  go_wp2
  go_ret
  exact ⟨rfl, rfl⟩

/-- what is asked of bit i -/
structure At (a b x y z l r s i : Int) : Prop where
  f1 : (bitI x i != wrap64 (bitI a i * bitI b i)) = false
  f2 : (bitI y i != wrap64 (wrap64 (bitI a i + bitI b i) - wrap64 (bitI a i * bitI b i))) = false
  f3 : (bitI z i != (wrap64 (bitI a i + bitI b i)).tmod 2) = false
  f4 : s ≤ i → (bitI l i != bitI a (i - s)) = false
  f5 : ¬ s ≤ i → (bitI l i != 0) = false
  f6 : i + s < 64 → (bitI r i != bitI a (i + s)) = false
  f7 : ¬ i + s < 64 → (bitI r i != bitI a 63) = false

set_option maxHeartbeats 2000000 in
set_option maxRecDepth 100000 in
theorem bits_walk (a b x y z l r : Int) (w : World) (A2 : Aside0 (word_Do.f 20 6 a b = some (x, true))) (A3 : Aside0 (word_Do.f 20 7 a b = some (y, true))) (A4 : Aside0 (word_Do.f 20 8 a b = some (z, true)))
    (A5 : Aside0 (word_Do.f 20 9 a b = some (l, true))) (A6 : Aside0 (word_Do.f 20 10 a b = some (r, true)))
    (s : Int) (hs : wrap64 ((IntKind.u64.wrap b).tmod 64) = s) (hs0 : 0 ≤ s) (hs1 : s < 64) (HA : Aside0 (∀ i, 0 ≤ i → i < 64 → At a b x y z l r s i)) :
    Calls Try.prog 5 #[.int .i64 a, .int .i64 b] w fun e w' => e = .returned (.bool true) ∧ Drawn0 w w' := by
  have A1 := Aside0.mk (show palingslaw01_head.f 20 = some true by decide +kernel)
  go_enter Try.func5, Try.ntmps5
  go_wp2_with (first
    | ((with_reducible refine gate_callee (f := 8) rfl ?_); refine goesL_ (some 22) rfl rfl Try.func8 (by kernel_rfl) rfl #[] rfl (by (try simp only [List.map_toArray, List.map_cons, List.map_nil]); first | done | rfl | (simp only [List.length_drop, List.length_take]; rfl)) ?_; (with_reducible refine (palingslaw01_head.calls 20 true _ A1.out).mono ?_); rintro e w' ⟨rfl, ⟨nd, rfl⟩⟩; refine ⟨_, rfl, ?_⟩)
    | ((with_reducible refine gate_callee (f := 9) rfl ?_); refine goesL_ (some 27) rfl rfl Try.func9 (by kernel_rfl) rfl #[.int .i64 6, .int .i64 a, .int .i64 b] rfl (by (try simp only [List.map_toArray, List.map_cons, List.map_nil]); first | done | rfl | (simp only [List.length_drop, List.length_take]; rfl)) ?_; (with_reducible refine (word_Do.calls 20 6 a b x true _ A2.out).mono ?_); rintro e w' ⟨rfl, ⟨nd, rfl⟩⟩; refine ⟨_, rfl, ?_⟩)
    | ((with_reducible refine gate_callee (f := 9) rfl ?_); refine goesL_ (some 33) rfl rfl Try.func9 (by kernel_rfl) rfl #[.int .i64 7, .int .i64 a, .int .i64 b] rfl (by (try simp only [List.map_toArray, List.map_cons, List.map_nil]); first | done | rfl | (simp only [List.length_drop, List.length_take]; rfl)) ?_; (with_reducible refine (word_Do.calls 20 7 a b y true _ A3.out).mono ?_); rintro e w' ⟨rfl, ⟨nd, rfl⟩⟩; refine ⟨_, rfl, ?_⟩)
    | ((with_reducible refine gate_callee (f := 9) rfl ?_); refine goesL_ (some 39) rfl rfl Try.func9 (by kernel_rfl) rfl #[.int .i64 8, .int .i64 a, .int .i64 b] rfl (by (try simp only [List.map_toArray, List.map_cons, List.map_nil]); first | done | rfl | (simp only [List.length_drop, List.length_take]; rfl)) ?_; (with_reducible refine (word_Do.calls 20 8 a b z true _ A4.out).mono ?_); rintro e w' ⟨rfl, ⟨nd, rfl⟩⟩; refine ⟨_, rfl, ?_⟩)
    | ((with_reducible refine gate_callee (f := 9) rfl ?_); refine goesL_ (some 45) rfl rfl Try.func9 (by kernel_rfl) rfl #[.int .i64 9, .int .i64 a, .int .i64 b] rfl (by (try simp only [List.map_toArray, List.map_cons, List.map_nil]); first | done | rfl | (simp only [List.length_drop, List.length_take]; rfl)) ?_; (with_reducible refine (word_Do.calls 20 9 a b l true _ A5.out).mono ?_); rintro e w' ⟨rfl, ⟨nd, rfl⟩⟩; refine ⟨_, rfl, ?_⟩)
    | ((with_reducible refine gate_callee (f := 9) rfl ?_); refine goesL_ (some 51) rfl rfl Try.func9 (by kernel_rfl) rfl #[.int .i64 10, .int .i64 a, .int .i64 b] rfl (by (try simp only [List.map_toArray, List.map_cons, List.map_nil]); first | done | rfl | (simp only [List.length_drop, List.length_take]; rfl)) ?_; (with_reducible refine (word_Do.calls 20 10 a b r true _ A6.out).mono ?_); rintro e w' ⟨rfl, ⟨nd, rfl⟩⟩; refine ⟨_, rfl, ?_⟩))
  rw [hs]
  clear hs
  go_loop [17] (fun v => ∃ i : Int, 0 ≤ i ∧ i ≤ 64 ∧ v = .int .i64 i) (fun v => (64 - intOf v).toNat)
  case atStart => exact ⟨0, by omega, by omega, rfl⟩
  case round =>
    obtain ⟨i, hi0, hi1, rfl⟩ := hrel
    by_cases hlt : i < 64
    · have hat := HA.out i hi0 hlt
      have f1 := hat.f1
      have f2 := hat.f2
      have f3 := hat.f3
      have h4 : s ≤ i ∧ (bitI l i != bitI a (i - s)) = false ∨ i < s ∧ (bitI l i != 0) = false := by
        by_cases h : s ≤ i
        · exact .inl ⟨h, hat.f4 h⟩
        · exact .inr ⟨by omega, hat.f5 h⟩
      have h6 : i + s < 64 ∧ (bitI r i != bitI a (i + s)) = false ∨ 64 ≤ i + s ∧ (bitI r i != bitI a 63) = false := by
        by_cases h : i + s < 64
        · exact .inl ⟨h, hat.f6 h⟩
        · exact .inr ⟨by omega, hat.f7 h⟩
      clear hat
      rcases h4 with ⟨h4, g4⟩ | ⟨h4, g4⟩ <;> rcases h6 with ⟨h6, g6⟩ | ⟨h6, g6⟩
      all_goals
        go_wp2_with (first
          | ((with_reducible refine gate_calleeT (t := 80) (d := (some 83)) rfl rfl ?_); refine goesT_ (some 83) rfl rfl Try.func11 (by kernel_rfl) rfl #[.int .i64 a, .int .i64 i] rfl rfl (by (try simp only [List.map_toArray, List.map_cons, List.map_nil]); first | done | rfl | (simp only [List.length_drop, List.length_take]; rfl)) ?_; (with_reducible refine (bit_calls a i _ (by omega) (by omega)).mono ?_); rintro e w' ⟨rfl, rfl⟩; refine ⟨_, rfl, ?_⟩)
          | ((with_reducible refine gate_calleeT (t := 84) (d := (some 87)) rfl rfl ?_); refine goesT_ (some 87) rfl rfl Try.func11 (by kernel_rfl) rfl #[.int .i64 b, .int .i64 i] rfl rfl (by (try simp only [List.map_toArray, List.map_cons, List.map_nil]); first | done | rfl | (simp only [List.length_drop, List.length_take]; rfl)) ?_; (with_reducible refine (bit_calls b i _ (by omega) (by omega)).mono ?_); rintro e w' ⟨rfl, rfl⟩; refine ⟨_, rfl, ?_⟩)
          | ((with_reducible refine gate_calleeT (t := 88) (d := (some 91)) rfl rfl ?_); refine goesT_ (some 91) rfl rfl Try.func11 (by kernel_rfl) rfl #[.int .i64 x, .int .i64 i] rfl rfl (by (try simp only [List.map_toArray, List.map_cons, List.map_nil]); first | done | rfl | (simp only [List.length_drop, List.length_take]; rfl)) ?_; (with_reducible refine (bit_calls x i _ (by omega) (by omega)).mono ?_); rintro e w' ⟨rfl, rfl⟩; refine ⟨_, rfl, ?_⟩)
          | (try (refine gate_guard (by rfl) ?_; dsimp only)); ((with_reducible refine gate_calleeT (t := 97) (d := (some 100)) rfl rfl ?_); refine goesT_ (some 100) rfl rfl Try.func11 (by kernel_rfl) rfl #[.int .i64 y, .int .i64 i] rfl rfl (by (try simp only [List.map_toArray, List.map_cons, List.map_nil]); first | done | rfl | (simp only [List.length_drop, List.length_take]; rfl)) ?_; (with_reducible refine (bit_calls y i _ (by omega) (by omega)).mono ?_); rintro e w' ⟨rfl, rfl⟩; refine ⟨_, rfl, ?_⟩)
          | (try (refine gate_guard (by rfl) ?_; dsimp only)); ((with_reducible refine gate_calleeT (t := 111) (d := (some 114)) rfl rfl ?_); refine goesT_ (some 114) rfl rfl Try.func11 (by kernel_rfl) rfl #[.int .i64 z, .int .i64 i] rfl rfl (by (try simp only [List.map_toArray, List.map_cons, List.map_nil]); first | done | rfl | (simp only [List.length_drop, List.length_take]; rfl)) ?_; (with_reducible refine (bit_calls z i _ (by omega) (by omega)).mono ?_); rintro e w' ⟨rfl, rfl⟩; refine ⟨_, rfl, ?_⟩)
          | ((with_reducible refine gate_calleeT (t := 124) (d := (some 129)) rfl rfl ?_); refine goesT_ (some 129) rfl rfl Try.func11 (by kernel_rfl) rfl #[.int .i64 a, .int .i64 (i - s)] rfl rfl (by (try simp only [List.map_toArray, List.map_cons, List.map_nil]); first | done | rfl | (simp only [List.length_drop, List.length_take]; rfl)) ?_; (with_reducible refine (bit_calls a (i - s) _ (by omega) (by omega)).mono ?_); rintro e w' ⟨rfl, rfl⟩; refine ⟨_, rfl, ?_⟩)
          | ((with_reducible refine gate_calleeT (t := 130) (d := (some 132)) rfl rfl ?_); refine goesT_ (some 132) rfl rfl Try.func11 (by kernel_rfl) rfl #[.int .i64 a, .int .i64 63] rfl rfl (by (try simp only [List.map_toArray, List.map_cons, List.map_nil]); first | done | rfl | (simp only [List.length_drop, List.length_take]; rfl)) ?_; (with_reducible refine (bit_calls a 63 _ (by omega) (by omega)).mono ?_); rintro e w' ⟨rfl, rfl⟩; refine ⟨_, rfl, ?_⟩)
          | ((with_reducible refine gate_calleeT (t := 137) (d := (some 142)) rfl rfl ?_); refine goesT_ (some 142) rfl rfl Try.func11 (by kernel_rfl) rfl #[.int .i64 a, .int .i64 (i + s)] rfl rfl (by (try simp only [List.map_toArray, List.map_cons, List.map_nil]); first | done | rfl | (simp only [List.length_drop, List.length_take]; rfl)) ?_; (with_reducible refine (bit_calls a (i + s) _ (by omega) (by omega)).mono ?_); rintro e w' ⟨rfl, rfl⟩; refine ⟨_, rfl, ?_⟩)
          | ((with_reducible refine gate_calleeT (t := 143) (d := (some 146)) rfl rfl ?_); refine goesT_ (some 146) rfl rfl Try.func11 (by kernel_rfl) rfl #[.int .i64 l, .int .i64 i] rfl rfl (by (try simp only [List.map_toArray, List.map_cons, List.map_nil]); first | done | rfl | (simp only [List.length_drop, List.length_take]; rfl)) ?_; (with_reducible refine (bit_calls l i _ (by omega) (by omega)).mono ?_); rintro e w' ⟨rfl, rfl⟩; refine ⟨_, rfl, ?_⟩)
          | (try (refine gate_guard (by rfl) ?_; dsimp only)); ((with_reducible refine gate_calleeT (t := 150) (d := (some 153)) rfl rfl ?_); refine goesT_ (some 153) rfl rfl Try.func11 (by kernel_rfl) rfl #[.int .i64 r, .int .i64 i] rfl rfl (by (try simp only [List.map_toArray, List.map_cons, List.map_nil]); first | done | rfl | (simp only [List.length_drop, List.length_take]; rfl)) ?_; (with_reducible refine (bit_calls r i _ (by omega) (by omega)).mono ?_); rintro e w' ⟨rfl, rfl⟩; refine ⟨_, rfl, ?_⟩))
        go_round
        case rel => exact ⟨i + 1, by omega, by omega, rfl⟩
        case measure => simp [intOf]; omega
    · have : i = 64 := by omega
      subst this
      go_wp2
      go_ret
      exact ⟨rfl, by repeat (first | exact Drawn0.refl _ | apply Drawn0.step)⟩

theorem u64_wrap (n : Int) : IntKind.u64.wrap n = n % 18446744073709551616 := by
  simp [IntKind.wrap, IntKind.bits, IntKind.signed]
theorem u64_nat (n : Int) : IntKind.u64.wrap n = ((BitVec.ofInt 64 n).toNat : Int) := by
  rw [u64_wrap, BitVec.toNat_ofInt]; omega
theorem of_i64 (n : Int) : BitVec.ofInt 64 (IntKind.i64.wrap n) = BitVec.ofInt 64 n := by
  apply BitVec.eq_of_toNat_eq
  rw [BitVec.toNat_ofInt, BitVec.toNat_ofInt, IntKind.wrap_i64]; omega
theorem of_nat (x : BitVec 64) : BitVec.ofInt 64 (x.toNat : Int) = x := by
  rw [BitVec.ofInt_natCast, BitVec.ofNat_toNat, BitVec.setWidth_eq]

def z1 (b : Bool) : Int := if b then 1 else 0

theorem bitI_eq (n i : Int) (h0 : 0 ≤ i) (h1 : i < 64) : bitI n i = z1 ((BitVec.ofInt 64 n).getLsbD i.toNat) := by
  obtain ⟨k, rfl⟩ := Int.eq_ofNat_of_zero_le h0
  unfold bitI
  have hlt := (BitVec.ofInt 64 n).isLt
  have hb : (BitVec.ofInt 64 n).toNat / 2 ^ k < 2 ^ 64 := Nat.lt_of_le_of_lt (Nat.div_le_self _ _) hlt
  rw [u64_nat, Int.toNat_natCast, BitVec.getLsbD, Nat.testBit_eq_decide_div_mod_eq]
  rw [show ((BitVec.ofInt 64 n).toNat : Int) / 2 ^ k = (((BitVec.ofInt 64 n).toNat / 2 ^ k : Nat) : Int) by simp]
  rw [show (1 : Int) = ((1 : Nat) : Int) by rfl, (bits_nat .u64 64 (by decide) (fun n h0 h1 => by rw [u64_wrap]; omega) _ 1 hb (by decide)).1, Nat.and_one_is_mod]
  have : (BitVec.ofInt 64 n).toNat / 2 ^ k % 2 < 2 := Nat.mod_lt _ (by decide)
  unfold z1
  split <;> rename_i h <;> simp only [decide_eq_true_eq] at h <;> unfold wrap64 <;> omega

theorem shift_count (b : Int) : Go.bits .and .u64 (IntKind.u64.wrap b) 63 = IntKind.u64.wrap b % 64 := by
  have h := u64_wrap b
  exact bits_mask .u64 64 (by decide) (fun n h0 h1 => by rw [u64_wrap]; omega) 6 (by decide) _ (by omega) (by omega)

theorem tell6 (a b : Int) : word_Do.f 20 6 a b = some (Go.bits .and .i64 a b, true) := rfl
theorem tell7 (a b : Int) : word_Do.f 20 7 a b = some (Go.bits .or .i64 a b, true) := rfl
theorem tell8 (a b : Int) : word_Do.f 20 8 a b = some (Go.bits .xor .i64 a b, true) := rfl
theorem tell9 (a b : Int) : word_Do.f 20 9 a b = some (shl .i64 a (IntKind.u64.wrap b % 64), true) := by
  have h : word_Do.f 20 9 a b = if 0 ≤ Go.bits .and .u64 (IntKind.u64.wrap b) 63 then some (shl .i64 a (Go.bits .and .u64 (IntKind.u64.wrap b) 63), true) else none := rfl
  rw [h, shift_count, if_pos (by omega)]
theorem tell10 (a b : Int) : word_Do.f 20 10 a b = some (shr .i64 a (IntKind.u64.wrap b % 64), true) := by
  have h : word_Do.f 20 10 a b = if 0 ≤ Go.bits .and .u64 (IntKind.u64.wrap b) 63 then some (shr .i64 a (Go.bits .and .u64 (IntKind.u64.wrap b) 63), true) else none := rfl
  rw [h, shift_count, if_pos (by omega)]

theorem of_and (a b : Int) : BitVec.ofInt 64 (Go.bits .and .i64 a b) = BitVec.ofInt 64 a &&& BitVec.ofInt 64 b := by
  show BitVec.ofInt 64 (IntKind.i64.wrap ((BitVec.ofInt 64 a &&& BitVec.ofInt 64 b).toNat : Int)) = _
  rw [of_i64, of_nat]
theorem of_or (a b : Int) : BitVec.ofInt 64 (Go.bits .or .i64 a b) = BitVec.ofInt 64 a ||| BitVec.ofInt 64 b := by
  show BitVec.ofInt 64 (IntKind.i64.wrap ((BitVec.ofInt 64 a ||| BitVec.ofInt 64 b).toNat : Int)) = _
  rw [of_i64, of_nat]
theorem of_xor (a b : Int) : BitVec.ofInt 64 (Go.bits .xor .i64 a b) = BitVec.ofInt 64 a ^^^ BitVec.ofInt 64 b := by
  show BitVec.ofInt 64 (IntKind.i64.wrap ((BitVec.ofInt 64 a ^^^ BitVec.ofInt 64 b).toNat : Int)) = _
  rw [of_i64, of_nat]
theorem of_shl (a : Int) (s : Nat) (hs : s < 64) : BitVec.ofInt 64 (shl .i64 a (s : Int)) = BitVec.ofInt 64 a <<< s := by
  unfold shl
  rw [show min (s : Int).toNat IntKind.i64.bits = s by simp [IntKind.bits]; omega, of_i64]
  apply BitVec.eq_of_toNat_eq
  rw [BitVec.toNat_shiftLeft, BitVec.toNat_ofInt, BitVec.toNat_ofInt, Nat.shiftLeft_eq]
  have h1 : a % ((2 ^ 64 : Nat) : Int) = ((a % ((2 ^ 64 : Nat) : Int)).toNat : Int) := by omega
  have h3 : a * 2 ^ s = a % ((2 ^ 64 : Nat) : Int) * 2 ^ s + ((2 ^ 64 : Nat) : Int) * (a / ((2 ^ 64 : Nat) : Int) * 2 ^ s) := by
    conv => lhs; rw [← Int.emod_add_mul_ediv a ((2 ^ 64 : Nat) : Int)]
    rw [Int.add_mul, Int.mul_assoc]
  have h2 : a * 2 ^ s % ((2 ^ 64 : Nat) : Int) = (((a % ((2 ^ 64 : Nat) : Int)).toNat * 2 ^ s % 2 ^ 64 : Nat) : Int) := by
    rw [h3, Int.add_mul_emod_self_left, Int.natCast_emod, Int.natCast_mul, ← h1, Int.natCast_pow]; rfl
  rw [h2, Int.toNat_natCast]
theorem of_shr (a : Int) (s : Nat) (hs : s < 64) (ha : -9223372036854775808 ≤ a ∧ a ≤ 9223372036854775807) : BitVec.ofInt 64 (shr .i64 a (s : Int)) = (BitVec.ofInt 64 a).sshiftRight s := by
  unfold shr
  rw [show min (s : Int).toNat IntKind.i64.bits = s by simp [IntKind.bits]; omega]
  apply BitVec.eq_of_toInt_eq
  have e : (BitVec.ofInt 64 a).toInt = a := by
    rw [BitVec.toInt_ofInt]; simp only [Int.bmod]; omega
  rw [BitVec.toInt_sshiftRight, e, Int.shiftRight_eq_div_pow, BitVec.toInt_ofInt]
  have hp : (0 : Int) < 2 ^ s := Int.pow_pos (by decide)
  have h1 : -9223372036854775808 ≤ a / 2 ^ s := by
    rw [Int.le_ediv_iff_mul_le hp]
    have : (1 : Int) ≤ 2 ^ s := by omega
    generalize (2 : Int) ^ s = p at this ⊢
    omega
  have h2 : a / 2 ^ s ≤ 9223372036854775807 := by
    have : a / 2 ^ s < 9223372036854775808 := by
      rw [Int.ediv_lt_iff_lt_mul hp]
      have : (1 : Int) ≤ 2 ^ s := by omega
      generalize (2 : Int) ^ s = p at this ⊢
      omega
    omega
  rw [show ((2 ^ s : Nat) : Int) = 2 ^ s by simp]
  simp only [Int.bmod]; omega

theorem all_bits (a b i : Int) (ha : -9223372036854775808 ≤ a ∧ a ≤ 9223372036854775807) (h0 : 0 ≤ i) (h1 : i < 64) :
    At a b (Go.bits .and .i64 a b) (Go.bits .or .i64 a b) (Go.bits .xor .i64 a b) (shl .i64 a (IntKind.u64.wrap b % 64)) (shr .i64 a (IntKind.u64.wrap b % 64)) (IntKind.u64.wrap b % 64) i := by
  have hs0 : 0 ≤ IntKind.u64.wrap b % 64 := by omega
  have hs1 : IntKind.u64.wrap b % 64 < 64 := by omega
  obtain ⟨s, hs⟩ := Int.eq_ofNat_of_zero_le hs0
  rw [hs] at hs1 ⊢
  obtain ⟨k, rfl⟩ := Int.eq_ofNat_of_zero_le h0
  have ek : ∀ n, bitI n (k : Int) = z1 ((BitVec.ofInt 64 n).getLsbD k) := fun n => bitI_eq n k h0 h1
  constructor
  · rw [ek, ek, ek, of_and, BitVec.getLsbD_and]
    cases (BitVec.ofInt 64 a).getLsbD k <;> cases (BitVec.ofInt 64 b).getLsbD k <;> decide +kernel
  · rw [ek, ek, ek, of_or, BitVec.getLsbD_or]
    cases (BitVec.ofInt 64 a).getLsbD k <;> cases (BitVec.ofInt 64 b).getLsbD k <;> decide +kernel
  · rw [ek, ek, ek, of_xor, BitVec.getLsbD_xor]
    cases (BitVec.ofInt 64 a).getLsbD k <;> cases (BitVec.ofInt 64 b).getLsbD k <;> decide +kernel
  · intro h
    rw [ek, bitI_eq a _ (by omega) (by omega), of_shl a s (by omega), BitVec.getLsbD_shiftLeft]
    have e : ((k : Int) - (s : Int)).toNat = k - s := by omega
    rw [e]
    have d1 : decide (k < 64) = true := by simp; omega
    have d2 : decide (k < s) = false := by simp; omega
    rw [d1, d2]; simp
  · intro h
    rw [ek, of_shl a s (by omega), BitVec.getLsbD_shiftLeft]
    have d2 : decide (k < s) = true := by simp; omega
    rw [d2]; simp [z1]
  · intro h
    rw [ek, bitI_eq a _ (by omega) (by omega), of_shr a s (by omega) ha, BitVec.getLsbD_sshiftRight]
    have e : ((k : Int) + (s : Int)).toNat = s + k := by omega
    have d1 : decide (64 ≤ k) = false := by simp; omega
    rw [e, d1, if_pos (by omega)]; simp
  · intro h
    rw [ek, bitI_eq a 63 (by decide) (by decide), of_shr a s (by omega) ha, BitVec.getLsbD_sshiftRight]
    have d1 : decide (64 ≤ k) = false := by simp; omega
    rw [d1, if_neg (by omega), BitVec.msb_eq_getLsbD_last]; simp

theorem word_bounds {a : Int} (h : (Lit.int .i64 a).wf = true) : -9223372036854775808 ≤ a ∧ a ≤ 9223372036854775807 := by
  simp [Lit.wf, IntKind.min, IntKind.max, IntKind.signed, IntKind.bits] at h; omega
theorem walk (a b : Int) (w : World) (ha : (Lit.int .i64 a).wf = true) (hb : (Lit.int .i64 b).wf = true) :
    Calls Try.prog 5 #[.int .i64 a, .int .i64 b] w fun e w' => e = .returned (.bool true) ∧ Below w.heap.size w w' := by
  refine (bits_walk a b _ _ _ _ _ w ⟨tell6 a b⟩ ⟨tell7 a b⟩ ⟨tell8 a b⟩ ⟨tell9 a b⟩ ⟨tell10 a b⟩ (IntKind.u64.wrap b % 64) ?_ (by omega) (by omega) ⟨fun i h0 h1 => all_bits a b i (word_bounds ha) h0 h1⟩).mono fun _ _ ⟨he, hd⟩ => ⟨he, hd.below⟩
  rw [Int.tmod_eq_emod_of_nonneg (by rw [u64_wrap]; omega)]
  unfold wrap64; omega

end Go.Proofs.Ytifonhhdfoefhaa.Bits
