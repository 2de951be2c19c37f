/- Instructions as bytes, and back: the plain law, on numbers and lists. -/
import Derived.Test.YteabbcnoamhofaaBx4
import Derived.Test.YteabbcnoamhofaaBx7
import Derived.Lib.Bytes
namespace Go.Proofs.Yteabbcnoamhofaa.B
open Go.RowKit Go.Proofs.Yteabbcnoamhofaa.Mine Go.Proofs.YteabbcnoamhofaaW.PrintWords Go.Proofs.YteabbcnoamhofaaW.PrintLast Go.Proofs.YteabbcnoamhofaaW.PrintMore
set_option linter.unusedSimpArgs false
set_option linter.unusedVariables false

theorem LeO.le {α : Type} {f : Nat → Option α} (h : ∀ k, LeO (f k) (f (k + 1))) {k k' : Nat} (hk : k ≤ k') {r : α} (hr : f k = some r) : f k' = some r := by
  induction hk with
  | refl => exact hr
  | step _ ih => exact h _ _ ih
theorem u64_mod (n : Int) : IntKind.u64.wrap n = n % 18446744073709551616 := by
  simp [IntKind.wrap, IntKind.bits, IntKind.signed]
theorem w64 (n : Int) (h0 : -9223372036854775808 ≤ n) (h1 : n ≤ 9223372036854775807) : wrap64 n = n := by
  unfold wrap64; omega
def digit (imm : Int) (i : Nat) : Int := imm % 18446744073709551616 / 256 ^ i % 256
theorem digit_range (imm : Int) (i : Nat) : 0 ≤ digit imm i ∧ digit imm i < 256 := by unfold digit; omega
def bytesI (op d a b bin imm : Int) : List Int := [op % 256, d % 256, a % 256, b % 256, bin % 256, digit imm 0, digit imm 1, digit imm 2, digit imm 3, digit imm 4, digit imm 5, digit imm 6, digit imm 7]
theorem pow_256 (i : Nat) : (2 : Int) ^ (8 * i) = 256 ^ i := by rw [Int.pow_mul]; rfl
theorem enc_step (k i : Nat) (xs : List Int) (op d a b bin imm : Int) (hi : i < 8) (hl : xs.length < 100) :
    code_Encode.l0 (k + 1) xs (i : Int) op d a b bin imm = code_Encode.l0 k (xs ++ [digit imm i]) ((i + 1 : Nat) : Int) op d a b bin imm := by
  have e1 : wrap64 (8 * (i : Int)) = ((8 * i : Nat) : Int) := by unfold wrap64; omega
  have e2 : wrap64 ((i : Int) + 1) = ((i + 1 : Nat) : Int) := by unfold wrap64; omega
  have e3 : shr .u64 (IntKind.u64.wrap imm) ((8 * i : Nat) : Int) % 256 = digit imm i := by
    unfold shr digit
    rw [show min ((8 * i : Nat) : Int).toNat IntKind.u64.bits = 8 * i by simp [IntKind.bits]; omega, u64_mod, pow_256]
  simp only [code_Encode.l0]
  rw [if_pos (by omega), e1, if_pos (by omega), if_pos (by omega), e2, e3]
theorem encode_f (op d a b bin imm : Int) : code_Encode.f 20 op d a b bin imm = if rightB op d a b bin imm = true then some (bytesI op d a b bin imm, 0) else some ([], 1) := by
  unfold code_Encode.f code_Ins_Right.f
  simp only [Option.bind_some]
  split
  · rw [show (0 : Int) = ((0 : Nat) : Int) by rfl, enc_step 19 0 _ _ _ _ _ _ _ (by decide) (by simp), enc_step 18 1 _ _ _ _ _ _ _ (by decide) (by simp), enc_step 17 2 _ _ _ _ _ _ _ (by decide) (by simp), enc_step 16 3 _ _ _ _ _ _ _ (by decide) (by simp),
      enc_step 15 4 _ _ _ _ _ _ _ (by decide) (by simp), enc_step 14 5 _ _ _ _ _ _ _ (by decide) (by simp), enc_step 13 6 _ _ _ _ _ _ _ (by decide) (by simp), enc_step 12 7 _ _ _ _ _ _ _ (by decide) (by simp)]
    rfl
  · rfl
def number (l : List Int) : Nat → Int
  | 0 => 0
  | i + 1 => number l i + rd l (5 + i : Nat) * 256 ^ i
theorem number_range (l : List Int) (hl : ∀ x ∈ l, 0 ≤ x ∧ x < 256) (i : Nat) : 0 ≤ number l i ∧ number l i < 256 ^ i := by
  induction i with
  | zero => exact ⟨Int.le_refl _, by show (0 : Int) < 1; decide⟩
  | succ i ih =>
    have h : 0 ≤ rd l (5 + i : Nat) ∧ rd l (5 + i : Nat) < 256 := by
      unfold rd
      rw [Int.toNat_natCast, List.getD_eq_getElem?_getD]
      cases e : l[5 + i]? with
      | none => simp
      | some x => exact hl x (List.mem_of_getElem? e)
    have hp : (0 : Int) < 256 ^ i := Int.pow_pos (by decide)
    show 0 ≤ number l i + _ ∧ number l i + _ < _
    have h1 : 0 ≤ rd l (5 + i : Nat) * 256 ^ i := Int.mul_nonneg h.1 (Int.le_of_lt hp)
    have h2 : rd l (5 + i : Nat) * 256 ^ i ≤ 255 * 256 ^ i := Int.mul_le_mul_of_nonneg_right (by omega) (Int.le_of_lt hp)
    rw [Int.pow_succ]
    omega
theorem or_add (s t : Int) (i : Nat) (hi : i < 8) (hs0 : 0 ≤ s) (hs1 : s < 256 ^ i) (ht0 : 0 ≤ t) (ht1 : t < 256) : Go.bits .or .u64 s (shl .u64 t ((8 * i : Nat) : Int)) = s + t * 256 ^ i := by
  obtain ⟨s, rfl⟩ := Int.eq_ofNat_of_zero_le hs0
  obtain ⟨t, rfl⟩ := Int.eq_ofNat_of_zero_le ht0
  have hs' : s < 2 ^ (8 * i) := by
    rw [← pow_256] at hs1; exact_mod_cast hs1
  have ht' : t < 256 := by omega
  have hb : 2 ^ (8 * i) * t + 2 ^ (8 * i) ≤ 2 ^ 64 := by
    have h1 : 2 ^ (8 * i) * t + 2 ^ (8 * i) = 2 ^ (8 * i) * (t + 1) := by rw [Nat.mul_add, Nat.mul_one]
    have h2 : 2 ^ (8 * i) * (t + 1) ≤ 2 ^ (8 * i) * 2 ^ 8 := Nat.mul_le_mul_left _ (by omega)
    have h3 : 2 ^ (8 * i) * 2 ^ 8 ≤ 2 ^ 64 := by rw [← Nat.pow_add]; exact Nat.pow_le_pow_right (by decide) (by omega)
    omega
  have e : shl .u64 (t : Int) ((8 * i : Nat) : Int) = ((2 ^ (8 * i) * t : Nat) : Int) := by
    unfold shl
    rw [show min ((8 * i : Nat) : Int).toNat IntKind.u64.bits = 8 * i by simp [IntKind.bits]; omega, u64_mod]
    rw [show (t : Int) * 2 ^ (8 * i) = ((2 ^ (8 * i) * t : Nat) : Int) by rw [Int.natCast_mul, Int.natCast_pow, Int.mul_comm]; rfl]
    have := Nat.two_pow_pos (8 * i)
    omega
  have := Nat.two_pow_pos (8 * i)
  rw [e, (bits_nat .u64 64 (by decide) (fun n h0 h1 => by rw [u64_mod]; omega) _ _ (by omega) (by omega)).2]
  rw [Nat.or_comm, ← Nat.two_pow_add_eq_or_of_lt hs', ← pow_256, Nat.add_comm, Nat.mul_comm, Int.natCast_add, Int.natCast_mul, Int.natCast_pow]
  rfl
theorem rd_small (l : List Int) (hl : ∀ x ∈ l, 0 ≤ x ∧ x < 256) (i : Nat) : 0 ≤ rd l (i : Int) ∧ rd l (i : Int) < 256 := by
  unfold rd
  rw [Int.toNat_natCast, List.getD_eq_getElem?_getD]
  cases e : l[i]? with
  | none => simp
  | some x => exact hl x (List.mem_of_getElem? e)
theorem dec_step (k i : Nat) (l : List Int) (hi : i < 8) (hn : l.length = 13) (hl : ∀ x ∈ l, 0 ≤ x ∧ x < 256) :
    code_Decode.l0 (k + 1) l (number l i) (i : Int) = code_Decode.l0 k l (number l (i + 1)) ((i + 1 : Nat) : Int) := by
  have e1 : wrap64 (8 * (i : Int)) = ((8 * i : Nat) : Int) := by unfold wrap64; omega
  have e2 : wrap64 ((i : Int) + 1) = ((i + 1 : Nat) : Int) := by unfold wrap64; omega
  have e3 : wrap64 (5 + (i : Int)) = ((5 + i : Nat) : Int) := by unfold wrap64; omega
  have hr := rd_small l hl (5 + i)
  have e4 : IntKind.u64.wrap (rd l ((5 + i : Nat) : Int)) = rd l ((5 + i : Nat) : Int) := by rw [u64_mod]; omega
  have hv := number_range l hl i
  simp only [code_Decode.l0]
  rw [if_pos (by omega), e3, if_pos (by omega), if_pos (by omega), e1, if_pos (by omega), e2, e4, or_add _ _ i hi hv.1 hv.2 hr.1 hr.2]
  rfl
def numI (l : List Int) : Int := wrap64 (number l 8)
theorem decode_f (l : List Int) (hl : ∀ x ∈ l, 0 ≤ x ∧ x < 256) : code_Decode.f 20 l = if (l.length : Int) = 13 then
    (if rightB (rd l 0) (rd l 1) (rd l 2) (rd l 3) (rd l 4) (numI l) = true then some (rd l 0, rd l 1, rd l 2, rd l 3, rd l 4, numI l, 0) else some (0, 0, 0, 0, 0, 0, 2)) else some (0, 0, 0, 0, 0, 0, 2) := by
  unfold code_Decode.f
  by_cases hn : (l.length : Int) = 13
  · have hn' : l.length = 13 := by omega
    have e : ∀ i : Nat, wrap64 (rd l (i : Int)) = rd l (i : Int) := fun i => by
      have := rd_small l hl i
      exact w64 _ (by omega) (by omega)
    have e0 := e 0
    have e1 := e 1
    have e2 := e 2
    have e3 := e 3
    have e4 := e 4
    simp only [Int.natCast_zero, Int.cast_ofNat_Int, Int.natCast_one] at e0 e1 e2 e3 e4
    rw [if_pos hn, if_pos hn]
    rw [show code_Decode.l0 20 l 0 0 = code_Decode.l0 20 l (number l 0) ((0 : Nat) : Int) by rfl]
    rw [dec_step 19 0 l (by decide) hn' hl, dec_step 18 1 l (by decide) hn' hl, dec_step 17 2 l (by decide) hn' hl, dec_step 16 3 l (by decide) hn' hl,
      dec_step 15 4 l (by decide) hn' hl, dec_step 14 5 l (by decide) hn' hl, dec_step 13 6 l (by decide) hn' hl, dec_step 12 7 l (by decide) hn' hl]
    simp only [code_Decode.l0]
    rw [if_neg (by decide), if_pos (by omega), if_pos (by omega), if_pos (by omega), if_pos (by omega), if_pos (by omega), e0, e1, e2, e3, e4]
    simp only [code_Ins_Right.f, Option.bind_some]
    rfl
  · rw [if_neg hn, if_neg hn]
theorem regB_range {has : Bool} {n : Int} (h : regB has n = true) : 0 ≤ n ∧ n < 64 := by
  unfold regB at h
  cases has
  · simp at h; omega
  · simpa using h
theorem right_ranges {op d a b bin imm : Int} (h : rightB op d a b bin imm = true) : 1 ≤ op ∧ op ≤ 12 ∧ 0 ≤ d ∧ d < 64 ∧ 0 ≤ a ∧ a < 64 ∧ 0 ≤ b ∧ b < 64 ∧ 0 ≤ bin ∧ bin ≤ 15 := by
  unfold rightB at h
  simp only [Bool.and_eq_true, Bool.not_eq_true'] at h
  obtain ⟨⟨⟨h1, h2⟩, _⟩, _⟩ := h
  unfold bad1 at h1
  simp only [Bool.or_eq_false_iff, Bool.not_eq_false', decide_eq_false_iff_not] at h1
  obtain ⟨⟨⟨⟨⟨h3, h4⟩, h5⟩, h6⟩, h7⟩, _⟩ := h1
  have r1 := regB_range h5
  have r2 := regB_range h6
  have r3 := regB_range h7
  have hb : 0 ≤ bin ∧ bin ≤ 15 := by
    unfold bad2 at h2
    simp only [Bool.or_eq_false_iff] at h2
    obtain ⟨h8, h9⟩ := h2
    by_cases h10 : op = 3
    · subst h10
      simp [knownB] at h8; omega
    · have e1 : (op != 3) = true := by simpa using h10
      rw [e1, Bool.true_and] at h9
      simp at h9; omega
  omega
theorem byte_list (op d a b bin imm : Int) : ∀ x ∈ bytesI op d a b bin imm, 0 ≤ x ∧ x < 256 := by
  have g := digit_range imm
  intro x hx
  unfold bytesI at hx
  simp only [List.mem_cons, List.not_mem_nil, or_false] at hx
  rcases hx with rfl | rfl | rfl | rfl | rfl | rfl | rfl | rfl | rfl | rfl | rfl | rfl | rfl
  · omega
  · omega
  · omega
  · omega
  · omega
  · exact g 0
  · exact g 1
  · exact g 2
  · exact g 3
  · exact g 4
  · exact g 5
  · exact g 6
  · exact g 7
theorem number_bytes (op d a b bin imm : Int) : number (bytesI op d a b bin imm) 8 = imm % 18446744073709551616 := by
  have e : number (bytesI op d a b bin imm) 8 = 0 + digit imm 0 * 1 + digit imm 1 * 256 + digit imm 2 * 65536 + digit imm 3 * 16777216 + digit imm 4 * 4294967296 + digit imm 5 * 1099511627776 + digit imm 6 * 281474976710656 + digit imm 7 * 72057594037927936 := rfl
  rw [e]
  unfold digit
  have hu : 0 ≤ imm % 18446744073709551616 ∧ imm % 18446744073709551616 < 18446744073709551616 := by omega
  generalize imm % 18446744073709551616 = u at hu ⊢
  simp only [Int.reducePow, Int.ediv_one]
  omega
theorem bytes_decode (l : List Int) (hn : l.length = 13) (hl : ∀ x ∈ l, 0 ≤ x ∧ x < 256) : bytesI (rd l 0) (rd l 1) (rd l 2) (rd l 3) (rd l 4) (numI l) = l := by
  match l, hn with
  | [x0, x1, x2, x3, x4, x5, x6, x7, x8, x9, x10, x11, x12], _ =>
    simp only [List.mem_cons, List.not_mem_nil, or_false, forall_eq_or_imp, forall_eq] at hl
    obtain ⟨h0, h1, h2, h3, h4, h5, h6, h7, h8, h9, h10, h11, h12⟩ := hl
    have e : number [x0, x1, x2, x3, x4, x5, x6, x7, x8, x9, x10, x11, x12] 8 = 0 + x5 * 1 + x6 * 256 + x7 * 65536 + x8 * 16777216 + x9 * 4294967296 + x10 * 1099511627776 + x11 * 281474976710656 + x12 * 72057594037927936 := rfl
    have em : numI [x0, x1, x2, x3, x4, x5, x6, x7, x8, x9, x10, x11, x12] % 18446744073709551616 = x5 + x6 * 256 + x7 * 65536 + x8 * 16777216 + x9 * 4294967296 + x10 * 1099511627776 + x11 * 281474976710656 + x12 * 72057594037927936 := by
      unfold numI; rw [e]; unfold wrap64; omega
    show [x0 % 256, x1 % 256, x2 % 256, x3 % 256, x4 % 256, digit (numI _) 0, digit (numI _) 1, digit (numI _) 2, digit (numI _) 3, digit (numI _) 4, digit (numI _) 5, digit (numI _) 6, digit (numI _) 7] = _
    unfold digit
    rw [em]
    simp only [Int.reducePow, Int.ediv_one, List.cons.injEq, and_true]
    refine ⟨by omega, by omega, by omega, by omega, by omega, by omega, by omega, by omega, by omega, by omega, by omega, by omega, by omega⟩
theorem xor_turns (x y : Int) (hx0 : 0 ≤ x) (hx1 : x < 256) (hy0 : 0 ≤ y) (hy1 : y < 256) (hy : y ≠ 0) : Go.bits .xor .u8 x y ≠ x ∧ 0 ≤ Go.bits .xor .u8 x y ∧ Go.bits .xor .u8 x y < 256 := by
  have e : Go.bits .xor .u8 x y = ((BitVec.ofInt 8 x ^^^ BitVec.ofInt 8 y).toNat : Int) := by
    show IntKind.u8.wrap ((BitVec.ofInt 8 x ^^^ BitVec.ofInt 8 y).toNat : Int) = _
    have := (BitVec.ofInt 8 x ^^^ BitVec.ofInt 8 y).isLt
    rw [IntKind.wrap_u8]; omega
  have hlt := (BitVec.ofInt 8 x ^^^ BitVec.ofInt 8 y).isLt
  refine ⟨?_, by omega, by omega⟩
  intro h
  rw [e] at h
  have h1 : BitVec.ofInt 8 x ^^^ BitVec.ofInt 8 y = BitVec.ofInt 8 x := by
    apply BitVec.eq_of_toNat_eq
    rw [BitVec.toNat_ofInt]; omega
  have h2 : BitVec.ofInt 8 y = 0#8 := by
    have := congrArg (BitVec.ofInt 8 x ^^^ ·) h1
    simp only [← BitVec.xor_assoc, BitVec.xor_self, BitVec.zero_xor] at this
    exact this
  have h3 := congrArg BitVec.toNat h2
  rw [BitVec.toNat_ofInt] at h3
  simp at h3; omega
theorem bytesI_length (op d a b bin imm : Int) : (bytesI op d a b bin imm).length = 13 := rfl
theorem byte_of {x : Int} (h : 0 ≤ x ∧ x < 256) : ((UInt8.ofNat x.toNat).toNat : Int) = x := by
  rw [UInt8.toNat_ofNat']; omega
theorem bytes_back {x : List Int} (hx : ∀ n ∈ x, 0 ≤ n ∧ n < 256) : ((strOfNums x).toList).map (fun b => (b.toNat : Int)) = x := by
  rw [Lib.strOfNums_toList]
  unfold Lib.bytesOf
  rw [List.map_map]
  conv => rhs; rw [← List.map_id x]
  apply List.map_congr_left
  intro n hn
  exact byte_of (hx n hn)
theorem str_eq {x y : List Int} (hx : ∀ n ∈ x, 0 ≤ n ∧ n < 256) (hy : ∀ n ∈ y, 0 ≤ n ∧ n < 256) : ((strOfNums x).toList == (strOfNums y).toList) = decide (x = y) := by
  rw [Bool.eq_iff_iff]
  simp only [beq_iff_eq, decide_eq_true_eq]
  constructor
  · intro h
    rw [← bytes_back hx, h, bytes_back hy]
  · intro h
    rw [h]
theorem encode_k (k : Nat) (hk : 20 ≤ k) (op d a b bin imm : Int) : code_Encode.f k op d a b bin imm = if rightB op d a b bin imm = true then some (bytesI op d a b bin imm, 0) else some ([], 1) := by
  have h := encode_f op d a b bin imm
  split
  · next hr => rw [if_pos hr] at h; exact LeO.le (f := fun k => code_Encode.f k op d a b bin imm) (fun k => code_Encode.mono op d a b bin imm k) hk h
  · next hr => rw [if_neg hr] at h; exact LeO.le (f := fun k => code_Encode.f k op d a b bin imm) (fun k => code_Encode.mono op d a b bin imm k) hk h
theorem decode_k (k : Nat) (hk : 20 ≤ k) (l : List Int) (hl : ∀ x ∈ l, 0 ≤ x ∧ x < 256) (hn : l.length = 13) : code_Decode.f k l =
    (if rightB (rd l 0) (rd l 1) (rd l 2) (rd l 3) (rd l 4) (numI l) = true then some (rd l 0, rd l 1, rd l 2, rd l 3, rd l 4, numI l, 0) else some (0, 0, 0, 0, 0, 0, 2)) := by
  have h := decode_f l hl
  rw [if_pos (by omega)] at h
  split
  · next hr => rw [if_pos hr] at h; exact LeO.le (f := fun k => code_Decode.f k l) (fun k => code_Decode.mono l k) hk h
  · next hr => rw [if_neg hr] at h; exact LeO.le (f := fun k => code_Decode.f k l) (fun k => code_Decode.mono l k) hk h
end Go.Proofs.Yteabbcnoamhofaa.B
