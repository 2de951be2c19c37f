/- The laws on instructions as bytes: what they come to is true. -/
import Derived.Test.YtapiapkdiggboaaCodePure
import Derived.Test.YtapiapkdiggboaaBx5
namespace Go.Proofs.Ytapiapkdiggboaa.B
open Go.RowKit Go.Proofs.Ytapiapkdiggboaa.Mine Go.Proofs.YtapiapkdiggboaaW.PrintWords Go.Proofs.YtapiapkdiggboaaW.PrintLast Go.Proofs.YtapiapkdiggboaaW.PrintMore
set_option linter.unusedSimpArgs false
set_option linter.unusedVariables false

theorem regB_range {has : Bool} {n : Int} (h : regB has n = true) : 0 ≤ n ∧ n < 64 := by
  unfold regB at h
  cases has
  · simp at h; omega
  · simpa using h
theorem right_ranges {op d a b bin imm : Int} (h : rightB op d a b bin imm = true) : 1 ≤ op ∧ op ≤ 12 ∧ 0 ≤ d ∧ d < 64 ∧ 0 ≤ a ∧ a < 64 ∧ 0 ≤ b ∧ b < 64 ∧ 0 ≤ bin ∧ bin ≤ 15 := by
  unfold rightB at h
  simp only [Bool.and_eq_true, Bool.not_eq_true'] at h
  obtain ⟨⟨⟨h1, h2⟩, _⟩, _⟩ := h
  unfold bad1 at h1
  simp only [Bool.or_eq_false_iff, Bool.not_eq_false', decide_eq_false_iff_not] at h1
  obtain ⟨⟨⟨⟨⟨h3, h4⟩, h5⟩, h6⟩, h7⟩, _⟩ := h1
  have r1 := regB_range h5
  have r2 := regB_range h6
  have r3 := regB_range h7
  have hb : 0 ≤ bin ∧ bin ≤ 15 := by
    unfold bad2 at h2
    simp only [Bool.or_eq_false_iff] at h2
    obtain ⟨h8, h9⟩ := h2
    by_cases h10 : op = 3
    · subst h10
      simp [knownB] at h8; omega
    · have e1 : (op != 3) = true := by simpa using h10
      rw [e1, Bool.true_and] at h9
      simp at h9; omega
  omega
theorem byte_list (op d a b bin imm : Int) : ∀ x ∈ bytesI op d a b bin imm, 0 ≤ x ∧ x < 256 := by
  have g := digit_range imm
  intro x hx
  unfold bytesI at hx
  simp only [List.mem_cons, List.not_mem_nil, or_false] at hx
  rcases hx with rfl | rfl | rfl | rfl | rfl | rfl | rfl | rfl | rfl | rfl | rfl | rfl | rfl
  · omega
  · omega
  · omega
  · omega
  · omega
  · exact g 0
  · exact g 1
  · exact g 2
  · exact g 3
  · exact g 4
  · exact g 5
  · exact g 6
  · exact g 7
theorem number_bytes (op d a b bin imm : Int) : number (bytesI op d a b bin imm) 8 = imm % 18446744073709551616 := by
  have e : number (bytesI op d a b bin imm) 8 = 0 + digit imm 0 * 1 + digit imm 1 * 256 + digit imm 2 * 65536 + digit imm 3 * 16777216 + digit imm 4 * 4294967296 + digit imm 5 * 1099511627776 + digit imm 6 * 281474976710656 + digit imm 7 * 72057594037927936 := rfl
  rw [e]
  unfold digit
  have hu : 0 ≤ imm % 18446744073709551616 ∧ imm % 18446744073709551616 < 18446744073709551616 := by omega
  generalize imm % 18446744073709551616 = u at hu ⊢
  simp only [Int.reducePow, Int.ediv_one]
  omega
/-- what is encoded is read back -/
theorem decode_bytes {op d a b bin imm : Int} (h : rightB op d a b bin imm = true) (hi : -9223372036854775808 ≤ imm ∧ imm ≤ 9223372036854775807) : code_Decode.f 20 (bytesI op d a b bin imm) = some (op, d, a, b, bin, imm, 0) := by
  have r := right_ranges h
  have e0 : rd (bytesI op d a b bin imm) 0 = op := by show op % 256 = op; omega
  have e1 : rd (bytesI op d a b bin imm) 1 = d := by show d % 256 = d; omega
  have e2 : rd (bytesI op d a b bin imm) 2 = a := by show a % 256 = a; omega
  have e3 : rd (bytesI op d a b bin imm) 3 = b := by show b % 256 = b; omega
  have e4 : rd (bytesI op d a b bin imm) 4 = bin := by show bin % 256 = bin; omega
  have e5 : numI (bytesI op d a b bin imm) = imm := by
    unfold numI
    rw [number_bytes]; unfold wrap64; omega
  rw [decode_f _ (byte_list op d a b bin imm), if_pos (by rfl), e0, e1, e2, e3, e4, e5, if_pos h]
/-- what is read is encoded back -/
theorem bytes_decode (l : List Int) (hn : l.length = 13) (hl : ∀ x ∈ l, 0 ≤ x ∧ x < 256) : bytesI (rd l 0) (rd l 1) (rd l 2) (rd l 3) (rd l 4) (numI l) = l := by
  match l, hn with
  | [x0, x1, x2, x3, x4, x5, x6, x7, x8, x9, x10, x11, x12], _ =>
    simp only [List.mem_cons, List.not_mem_nil, or_false, forall_eq_or_imp, forall_eq] at hl
    obtain ⟨h0, h1, h2, h3, h4, h5, h6, h7, h8, h9, h10, h11, h12⟩ := hl
    have e : number [x0, x1, x2, x3, x4, x5, x6, x7, x8, x9, x10, x11, x12] 8 = 0 + x5 * 1 + x6 * 256 + x7 * 65536 + x8 * 16777216 + x9 * 4294967296 + x10 * 1099511627776 + x11 * 281474976710656 + x12 * 72057594037927936 := rfl
    have em : numI [x0, x1, x2, x3, x4, x5, x6, x7, x8, x9, x10, x11, x12] % 18446744073709551616 = x5 + x6 * 256 + x7 * 65536 + x8 * 16777216 + x9 * 4294967296 + x10 * 1099511627776 + x11 * 281474976710656 + x12 * 72057594037927936 := by
      unfold numI; rw [e]; unfold wrap64; omega
    show [x0 % 256, x1 % 256, x2 % 256, x3 % 256, x4 % 256, digit (numI _) 0, digit (numI _) 1, digit (numI _) 2, digit (numI _) 3, digit (numI _) 4, digit (numI _) 5, digit (numI _) 6, digit (numI _) 7] = _
    unfold digit
    rw [em]
    simp only [Int.reducePow, Int.ediv_one, List.cons.injEq, and_true]
    refine ⟨by omega, by omega, by omega, by omega, by omega, by omega, by omega, by omega, by omega, by omega, by omega, by omega, by omega⟩

theorem xor_turns (x y : Int) (hx0 : 0 ≤ x) (hx1 : x < 256) (hy0 : 0 ≤ y) (hy1 : y < 256) (hy : y ≠ 0) : Go.bits .xor .u8 x y ≠ x ∧ 0 ≤ Go.bits .xor .u8 x y ∧ Go.bits .xor .u8 x y < 256 := by
  have e : Go.bits .xor .u8 x y = ((BitVec.ofInt 8 x ^^^ BitVec.ofInt 8 y).toNat : Int) := by
    show IntKind.u8.wrap ((BitVec.ofInt 8 x ^^^ BitVec.ofInt 8 y).toNat : Int) = _
    have := (BitVec.ofInt 8 x ^^^ BitVec.ofInt 8 y).isLt
    rw [IntKind.wrap_u8]; omega
  have hlt := (BitVec.ofInt 8 x ^^^ BitVec.ofInt 8 y).isLt
  refine ⟨?_, by omega, by omega⟩
  intro h
  rw [e] at h
  have h1 : BitVec.ofInt 8 x ^^^ BitVec.ofInt 8 y = BitVec.ofInt 8 x := by
    apply BitVec.eq_of_toNat_eq
    rw [BitVec.toNat_ofInt]; omega
  have h2 : BitVec.ofInt 8 y = 0#8 := by
    have := congrArg (BitVec.ofInt 8 x ^^^ ·) h1
    simp only [← BitVec.xor_assoc, BitVec.xor_self, BitVec.zero_xor] at this
    exact this
  have h3 := congrArg BitVec.toNat h2
  rw [BitVec.toNat_ofInt] at h3
  simp at h3; omega

theorem CodeTurned_true (op d a b bin imm at_ bits : Int) (hb0 : 0 ≤ bits) (hb1 : bits < 256) : palingslaw17_CodeTurned.f 20 op d a b bin imm at_ bits = some true := by
  unfold palingslaw17_CodeTurned.f
  rw [head_f]
  simp only [Option.bind_some, if_true, encode_f]
  by_cases h : rightB op d a b bin imm = true
  · simp only [if_pos h, Option.bind_some, if_true]
    by_cases hz : bits = 0
    · rw [if_pos hz]
    · rw [if_neg hz]
      have hlen : ((bytesI op d a b bin imm).length : Int) = 13 := rfl
      rw [hlen, if_neg (by decide)]
      have hm : ∀ z : Int, 0 ≤ Go.bits .and .i64 z 255 := by
        intro z
        show 0 ≤ IntKind.i64.wrap ((BitVec.ofInt 64 z &&& BitVec.ofInt 64 255).toNat : Int)
        rw [BitVec.toNat_and]
        have : (BitVec.ofInt 64 z).toNat &&& (BitVec.ofInt 64 255).toNat ≤ (BitVec.ofInt 64 255).toNat := Nat.and_le_right
        rw [show (BitVec.ofInt 64 255).toNat = 255 by rfl] at this ⊢
        rw [IntKind.wrap_i64]; omega
      have h1 := hm at_
      generalize Go.bits .and .i64 at_ 255 = z at h1
      have ht : Int.tmod z 13 = z % 13 := Int.tmod_eq_emod_of_nonneg h1
      rw [ht, if_pos (by omega), if_pos (by omega)]
      obtain ⟨j, hj⟩ := Int.eq_ofNat_of_zero_le (show 0 ≤ z % 13 by omega)
      have hj13 : j < 13 := by omega
      rw [hj, Int.toNat_natCast]
      have hbl := byte_list op d a b bin imm
      have hlen' : (bytesI op d a b bin imm).length = 13 := rfl
      generalize hbs : bytesI op d a b bin imm = bs at hbl hlen' ⊢
      have hx := rd_small bs hbl j
      obtain ⟨t1, t2, t3⟩ := xor_turns (rd bs (j : Int)) bits hx.1 hx.2 hb0 hb1 hz
      generalize hy : Go.bits .xor .u8 (rd bs (j : Int)) bits = y at t1 t2 t3 ⊢
      have hcl : (bs.set j y).length = 13 := by rw [List.length_set]; exact hlen'
      have hcb : ∀ x ∈ bs.set j y, 0 ≤ x ∧ x < 256 := by
        intro x hx
        rcases List.mem_or_eq_of_mem_set hx with hx | hx
        · exact hbl x hx
        · rw [hx]; exact ⟨t2, t3⟩
      rw [decode_f _ hcb, if_pos (by rw [hcl]; rfl)]
      by_cases hr : rightB (rd (bs.set j y) 0) (rd (bs.set j y) 1) (rd (bs.set j y) 2) (rd (bs.set j y) 3) (rd (bs.set j y) 4) (numI (bs.set j y)) = true
      · simp only [if_pos hr, Option.bind_some]
        have hback := bytes_decode (bs.set j y) hcl hcb
        have hne : ¬ ((rd (bs.set j y) 0 = op ∧ rd (bs.set j y) 1 = d ∧ rd (bs.set j y) 2 = a ∧ rd (bs.set j y) 3 = b ∧ rd (bs.set j y) 4 = bin ∧ numI (bs.set j y) = imm)) := by
          rintro ⟨e0, e1, e2, e3, e4, e5⟩
          rw [e0, e1, e2, e3, e4, e5, hbs] at hback
          apply t1
          have : (bs.set j y)[j]? = bs[j]? := by rw [← hback]
          rw [List.getElem?_set_self (by omega)] at this
          unfold rd
          rw [Int.toNat_natCast, List.getD_eq_getElem?_getD, ← this]; rfl
        rw [if_neg (by decide)]
        simp only [if_true, Option.some.injEq]
        simp only [Bool.or_eq_true, Bool.not_eq_true', beq_eq_false_iff_ne]
        by_cases c0 : rd (bs.set j y) 0 = op
        · by_cases c1 : rd (bs.set j y) 1 = d
          · by_cases c2 : rd (bs.set j y) 2 = a
            · by_cases c3 : rd (bs.set j y) 3 = b
              · by_cases c4 : rd (bs.set j y) 4 = bin
                · by_cases c5 : numI (bs.set j y) = imm
                  · exact absurd ⟨c0, c1, c2, c3, c4, c5⟩ hne
                  · exact .inr (.inr (.inr (.inr (.inr c5))))
                · exact .inr (.inr (.inr (.inr (.inl c4))))
              · exact .inr (.inr (.inr (.inl c3)))
            · exact .inr (.inr (.inl c2))
          · exact .inr (.inl c1)
        · exact .inl c0
      · simp only [if_neg hr, Option.bind_some, if_true]
        rfl
  · simp only [if_neg h, Option.bind_some]
    rfl
end Go.Proofs.Ytapiapkdiggboaa.B
