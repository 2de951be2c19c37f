/- Instructions as bytes, and back: the plain law, on numbers and lists. -/
import Derived.Test.YtapiapkdiggboaaBx2
import Derived.Test.YtapiapkdiggboaaBx3
import Derived.Test.YtapiapkdiggboaaBx4
namespace Go.Proofs.Ytapiapkdiggboaa.B
open Go.RowKit Go.Proofs.Ytapiapkdiggboaa.Mine Go.Proofs.YtapiapkdiggboaaW.PrintWords Go.Proofs.YtapiapkdiggboaaW.PrintLast Go.Proofs.YtapiapkdiggboaaW.PrintMore
set_option linter.unusedSimpArgs false
set_option linter.unusedVariables false

theorem u64_mod (n : Int) : IntKind.u64.wrap n = n % 18446744073709551616 := by
  simp [IntKind.wrap, IntKind.bits, IntKind.signed]
theorem w64 (n : Int) (h0 : -9223372036854775808 ≤ n) (h1 : n ≤ 9223372036854775807) : wrap64 n = n := by
  unfold wrap64; omega

/-- byte i of a number's eight -/
def digit (imm : Int) (i : Nat) : Int := imm % 18446744073709551616 / 256 ^ i % 256
theorem digit_range (imm : Int) (i : Nat) : 0 ≤ digit imm i ∧ digit imm i < 256 := by unfold digit; omega
def bytesI (op d a b bin imm : Int) : List Int := [op % 256, d % 256, a % 256, b % 256, bin % 256, digit imm 0, digit imm 1, digit imm 2, digit imm 3, digit imm 4, digit imm 5, digit imm 6, digit imm 7]

theorem pow_256 (i : Nat) : (2 : Int) ^ (8 * i) = 256 ^ i := by rw [Int.pow_mul]; rfl

theorem enc_step (k i : Nat) (xs : List Int) (op d a b bin imm : Int) (hi : i < 8) (hl : xs.length < 100) :
    code_Encode.l0 (k + 1) xs (i : Int) op d a b bin imm = code_Encode.l0 k (xs ++ [digit imm i]) ((i + 1 : Nat) : Int) op d a b bin imm := by
  have e1 : wrap64 (8 * (i : Int)) = ((8 * i : Nat) : Int) := by unfold wrap64; omega
  have e2 : wrap64 ((i : Int) + 1) = ((i + 1 : Nat) : Int) := by unfold wrap64; omega
  have e3 : shr .u64 (IntKind.u64.wrap imm) ((8 * i : Nat) : Int) % 256 = digit imm i := by
    unfold shr digit
    rw [show min ((8 * i : Nat) : Int).toNat IntKind.u64.bits = 8 * i by simp [IntKind.bits]; omega, u64_mod, pow_256]
  simp only [code_Encode.l0]
  rw [if_pos (by omega), e1, if_pos (by omega), if_pos (by omega), e2, e3]

theorem encode_f (op d a b bin imm : Int) : code_Encode.f 20 op d a b bin imm = if rightB op d a b bin imm = true then some (bytesI op d a b bin imm, 0) else some ([], 1) := by
  unfold code_Encode.f code_Ins_Right.f
  simp only [Option.bind_some]
  split
  · rw [show (0 : Int) = ((0 : Nat) : Int) by rfl, enc_step 19 0 _ _ _ _ _ _ _ (by decide) (by simp), enc_step 18 1 _ _ _ _ _ _ _ (by decide) (by simp), enc_step 17 2 _ _ _ _ _ _ _ (by decide) (by simp), enc_step 16 3 _ _ _ _ _ _ _ (by decide) (by simp),
      enc_step 15 4 _ _ _ _ _ _ _ (by decide) (by simp), enc_step 14 5 _ _ _ _ _ _ _ (by decide) (by simp), enc_step 13 6 _ _ _ _ _ _ _ (by decide) (by simp), enc_step 12 7 _ _ _ _ _ _ _ (by decide) (by simp)]
    rfl
  · rfl

theorem byt_step (k i : Nat) (xs : List Int) (imm : Int) (hi : i < 8) (hl : xs.length < 100) :
    palingslaw17_bytes.l0 (k + 1) xs (imm % 18446744073709551616 / 256 ^ i) (i : Int) = palingslaw17_bytes.l0 k (xs ++ [digit imm i]) (imm % 18446744073709551616 / 256 ^ (i + 1)) ((i + 1 : Nat) : Int) := by
  have e2 : wrap64 ((i : Int) + 1) = ((i + 1 : Nat) : Int) := by unfold wrap64; omega
  have hp : (0 : Int) < 256 ^ i := Int.pow_pos (by decide)
  have h0 : 0 ≤ imm % 18446744073709551616 / 256 ^ i := Int.ediv_nonneg (by omega) (by omega)
  have h1 : imm % 18446744073709551616 / 256 ^ i ≤ imm % 18446744073709551616 := Int.ediv_le_self _ (by omega)
  have e3 : Int.tmod (imm % 18446744073709551616 / 256 ^ i) 256 % 256 = digit imm i := by
    rw [Int.tmod_eq_emod_of_nonneg h0]; unfold digit; omega
  have e4 : IntKind.u64.wrap (Int.tdiv (imm % 18446744073709551616 / 256 ^ i) 256) = imm % 18446744073709551616 / 256 ^ (i + 1) := by
    rw [Int.tdiv_eq_ediv_of_nonneg h0, u64_mod, Int.pow_succ, ← Int.ediv_ediv_of_nonneg (by omega)]
    omega
  simp only [palingslaw17_bytes.l0]
  rw [if_pos (by omega), if_pos (by omega), e2, e3, e4]

theorem bytes_f (op d a b bin imm : Int) : palingslaw17_bytes.f 20 op d a b bin imm = some (strOfNums (bytesI op d a b bin imm)) := by
  unfold palingslaw17_bytes.f
  rw [u64_mod, show imm % 18446744073709551616 = imm % 18446744073709551616 / 256 ^ 0 by simp, show (0 : Int) = ((0 : Nat) : Int) by rfl]
  rw [byt_step 19 0 _ _ (by decide) (by simp), byt_step 18 1 _ _ (by decide) (by simp), byt_step 17 2 _ _ (by decide) (by simp), byt_step 16 3 _ _ (by decide) (by simp),
    byt_step 15 4 _ _ (by decide) (by simp), byt_step 14 5 _ _ (by decide) (by simp), byt_step 13 6 _ _ (by decide) (by simp), byt_step 12 7 _ _ (by decide) (by simp)]
  rfl

/-- the number that eight bytes are, the lowest one ahead -/
def number (l : List Int) : Nat → Int
  | 0 => 0
  | i + 1 => number l i + rd l (5 + i : Nat) * 256 ^ i
theorem number_range (l : List Int) (hl : ∀ x ∈ l, 0 ≤ x ∧ x < 256) (i : Nat) : 0 ≤ number l i ∧ number l i < 256 ^ i := by
  induction i with
  | zero => exact ⟨Int.le_refl _, by show (0 : Int) < 1; decide⟩
  | succ i ih =>
    have h : 0 ≤ rd l (5 + i : Nat) ∧ rd l (5 + i : Nat) < 256 := by
      unfold rd
      rw [Int.toNat_natCast, List.getD_eq_getElem?_getD]
      cases e : l[5 + i]? with
      | none => simp
      | some x => exact hl x (List.mem_of_getElem? e)
    have hp : (0 : Int) < 256 ^ i := Int.pow_pos (by decide)
    show 0 ≤ number l i + _ ∧ number l i + _ < _
    have h1 : 0 ≤ rd l (5 + i : Nat) * 256 ^ i := Int.mul_nonneg h.1 (Int.le_of_lt hp)
    have h2 : rd l (5 + i : Nat) * 256 ^ i ≤ 255 * 256 ^ i := Int.mul_le_mul_of_nonneg_right (by omega) (Int.le_of_lt hp)
    rw [Int.pow_succ]
    omega

theorem or_add (s t : Int) (i : Nat) (hi : i < 8) (hs0 : 0 ≤ s) (hs1 : s < 256 ^ i) (ht0 : 0 ≤ t) (ht1 : t < 256) : Go.bits .or .u64 s (shl .u64 t ((8 * i : Nat) : Int)) = s + t * 256 ^ i := by
  obtain ⟨s, rfl⟩ := Int.eq_ofNat_of_zero_le hs0
  obtain ⟨t, rfl⟩ := Int.eq_ofNat_of_zero_le ht0
  have hs' : s < 2 ^ (8 * i) := by
    rw [← pow_256] at hs1; exact_mod_cast hs1
  have ht' : t < 256 := by omega
  have hb : 2 ^ (8 * i) * t + 2 ^ (8 * i) ≤ 2 ^ 64 := by
    have h1 : 2 ^ (8 * i) * t + 2 ^ (8 * i) = 2 ^ (8 * i) * (t + 1) := by rw [Nat.mul_add, Nat.mul_one]
    have h2 : 2 ^ (8 * i) * (t + 1) ≤ 2 ^ (8 * i) * 2 ^ 8 := Nat.mul_le_mul_left _ (by omega)
    have h3 : 2 ^ (8 * i) * 2 ^ 8 ≤ 2 ^ 64 := by rw [← Nat.pow_add]; exact Nat.pow_le_pow_right (by decide) (by omega)
    omega
  have e : shl .u64 (t : Int) ((8 * i : Nat) : Int) = ((2 ^ (8 * i) * t : Nat) : Int) := by
    unfold shl
    rw [show min ((8 * i : Nat) : Int).toNat IntKind.u64.bits = 8 * i by simp [IntKind.bits]; omega, u64_mod]
    rw [show (t : Int) * 2 ^ (8 * i) = ((2 ^ (8 * i) * t : Nat) : Int) by rw [Int.natCast_mul, Int.natCast_pow, Int.mul_comm]; rfl]
    have := Nat.two_pow_pos (8 * i)
    omega
  have := Nat.two_pow_pos (8 * i)
  rw [e, (bits_nat .u64 64 (by decide) (fun n h0 h1 => by rw [u64_mod]; omega) _ _ (by omega) (by omega)).2]
  rw [Nat.or_comm, ← Nat.two_pow_add_eq_or_of_lt hs', ← pow_256, Nat.add_comm, Nat.mul_comm, Int.natCast_add, Int.natCast_mul, Int.natCast_pow]
  rfl

theorem rd_small (l : List Int) (hl : ∀ x ∈ l, 0 ≤ x ∧ x < 256) (i : Nat) : 0 ≤ rd l (i : Int) ∧ rd l (i : Int) < 256 := by
  unfold rd
  rw [Int.toNat_natCast, List.getD_eq_getElem?_getD]
  cases e : l[i]? with
  | none => simp
  | some x => exact hl x (List.mem_of_getElem? e)

theorem dec_step (k i : Nat) (l : List Int) (hi : i < 8) (hn : l.length = 13) (hl : ∀ x ∈ l, 0 ≤ x ∧ x < 256) :
    code_Decode.l0 (k + 1) l (number l i) (i : Int) = code_Decode.l0 k l (number l (i + 1)) ((i + 1 : Nat) : Int) := by
  have e1 : wrap64 (8 * (i : Int)) = ((8 * i : Nat) : Int) := by unfold wrap64; omega
  have e2 : wrap64 ((i : Int) + 1) = ((i + 1 : Nat) : Int) := by unfold wrap64; omega
  have e3 : wrap64 (5 + (i : Int)) = ((5 + i : Nat) : Int) := by unfold wrap64; omega
  have hr := rd_small l hl (5 + i)
  have e4 : IntKind.u64.wrap (rd l ((5 + i : Nat) : Int)) = rd l ((5 + i : Nat) : Int) := by rw [u64_mod]; omega
  have hv := number_range l hl i
  simp only [code_Decode.l0]
  rw [if_pos (by omega), e3, if_pos (by omega), if_pos (by omega), e1, if_pos (by omega), e2, e4, or_add _ _ i hi hv.1 hv.2 hr.1 hr.2]
  rfl

/-- the instruction that thirteen bytes would be -/
def numI (l : List Int) : Int := wrap64 (number l 8)
theorem decode_f (l : List Int) (hl : ∀ x ∈ l, 0 ≤ x ∧ x < 256) : code_Decode.f 20 l = if (l.length : Int) = 13 then
    (if rightB (rd l 0) (rd l 1) (rd l 2) (rd l 3) (rd l 4) (numI l) = true then some (rd l 0, rd l 1, rd l 2, rd l 3, rd l 4, numI l, 0) else some (0, 0, 0, 0, 0, 0, 2)) else some (0, 0, 0, 0, 0, 0, 2) := by
  unfold code_Decode.f
  by_cases hn : (l.length : Int) = 13
  · have hn' : l.length = 13 := by omega
    have e : ∀ i : Nat, wrap64 (rd l (i : Int)) = rd l (i : Int) := fun i => by
      have := rd_small l hl i
      exact w64 _ (by omega) (by omega)
    have e0 := e 0
    have e1 := e 1
    have e2 := e 2
    have e3 := e 3
    have e4 := e 4
    simp only [Int.natCast_zero, Int.cast_ofNat_Int, Int.natCast_one] at e0 e1 e2 e3 e4
    rw [if_pos hn, if_pos hn]
    rw [show code_Decode.l0 20 l 0 0 = code_Decode.l0 20 l (number l 0) ((0 : Nat) : Int) by rfl]
    rw [dec_step 19 0 l (by decide) hn' hl, dec_step 18 1 l (by decide) hn' hl, dec_step 17 2 l (by decide) hn' hl, dec_step 16 3 l (by decide) hn' hl,
      dec_step 15 4 l (by decide) hn' hl, dec_step 14 5 l (by decide) hn' hl, dec_step 13 6 l (by decide) hn' hl, dec_step 12 7 l (by decide) hn' hl]
    simp only [code_Decode.l0]
    rw [if_neg (by decide), if_pos (by omega), if_pos (by omega), if_pos (by omega), if_pos (by omega), if_pos (by omega), e0, e1, e2, e3, e4]
    simp only [code_Ins_Right.f, Option.bind_some]
    rfl
  · rw [if_neg hn, if_neg hn]

theorem head_f : palingslaw17_head.f 20 = some true := by decide +kernel
end Go.Proofs.Ytapiapkdiggboaa.B
