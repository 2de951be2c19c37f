/- CodeApart: the law for any two instructions. -/
import Derived.Test.YtapiapkdiggboaaCodeLaws
import Derived.Test.YtapiapkdiggboaaOpenIns
import Derived.Test.YtapiapkdiggboaaApartWalk
import Derived.Lib.Bytes
namespace Go.Proofs.Ytapiapkdiggboaa.B
open Go.RowKit Go.Proofs.Ytapiapkdiggboaa.Mine Go.Proofs.YtapiapkdiggboaaW.PrintWords Go.Proofs.YtapiapkdiggboaaW.PrintLast Go.Proofs.YtapiapkdiggboaaW.PrintMore
set_option linter.unusedVariables false
set_option linter.unusedSimpArgs false
theorem decode_short {l : List Int} (hl : ∀ x ∈ l, 0 ≤ x ∧ x < 256) (hn : l.length ≠ 13) : code_Decode.f 19 l = some (0, 0, 0, 0, 0, 0, 2) := by
  unfold code_Decode.f
  rw [if_neg (by omega)]
theorem bytesI_length (op d a b bin imm : Int) : (bytesI op d a b bin imm).length = 13 := rfl
/-- unlike right instructions are unlike bytes -/
theorem bytesI_inj {op d a b bin imm op' d' a' b' bin' imm' : Int} (h : rightB op d a b bin imm = true) (h' : rightB op' d' a' b' bin' imm' = true) (hi : -9223372036854775808 ≤ imm ∧ imm ≤ 9223372036854775807) (hi' : -9223372036854775808 ≤ imm' ∧ imm' ≤ 9223372036854775807)
    (he : bytesI op d a b bin imm = bytesI op' d' a' b' bin' imm') : op = op' ∧ d = d' ∧ a = a' ∧ b = b' ∧ bin = bin' ∧ imm = imm' := by
  have e := decode_bytes h hi
  rw [he, decode_bytes h' hi'] at e
  simp only [Option.some.injEq, Prod.mk.injEq] at e
  obtain ⟨e1, e2, e3, e4, e5, e6, _⟩ := e
  exact ⟨e1.symm, e2.symm, e3.symm, e4.symm, e5.symm, e6.symm⟩
theorem byte_of {x : Int} (h : 0 ≤ x ∧ x < 256) : ((UInt8.ofNat x.toNat).toNat : Int) = x := by
  rw [UInt8.toNat_ofNat']; omega
theorem bytes_back {x : List Int} (hx : ∀ n ∈ x, 0 ≤ n ∧ n < 256) : ((strOfNums x).toList).map (fun b => (b.toNat : Int)) = x := by
  rw [Lib.strOfNums_toList]
  unfold Lib.bytesOf
  rw [List.map_map]
  conv => rhs; rw [← List.map_id x]
  apply List.map_congr_left
  intro n hn
  exact byte_of (hx n hn)
theorem str_eq {x y : List Int} (hx : ∀ n ∈ x, 0 ≤ n ∧ n < 256) (hy : ∀ n ∈ y, 0 ≤ n ∧ n < 256) : ((strOfNums x).toList == (strOfNums y).toList) = decide (x = y) := by
  rw [Bool.eq_iff_iff]
  simp only [beq_iff_eq, decide_eq_true_eq]
  constructor
  · intro h
    rw [← bytes_back hx, h, bytes_back hy]
  · intro h
    rw [h]
theorem apart_test {op d a b bin imm op' d' a' b' bin' imm' : Int} (h : rightB op d a b bin imm = true) (h' : rightB op' d' a' b' bin' imm' = true) (hi : -9223372036854775808 ≤ imm ∧ imm ≤ 9223372036854775807) (hi' : -9223372036854775808 ≤ imm' ∧ imm' ≤ 9223372036854775807) :
    (((strOfNums (bytesI op d a b bin imm)).toList == (strOfNums (bytesI op' d' a' b' bin' imm')).toList) == (op == op' && (d == d' && (a == a' && (b == b' && (bin == bin' && (imm == imm'))))))) = true := by
  rw [str_eq (byte_list op d a b bin imm) (byte_list op' d' a' b' bin' imm'), beq_iff_eq, Bool.eq_iff_iff]
  simp only [decide_eq_true_eq, Bool.and_eq_true, beq_iff_eq]
  constructor
  · intro he
    obtain ⟨e1, e2, e3, e4, e5, e6⟩ := bytesI_inj h h' hi hi' he
    exact ⟨e1, e2, e3, e4, e5, e6⟩
  · rintro ⟨rfl, rfl, rfl, rfl, rfl, rfl⟩
    rfl
theorem w12 : wrap64 (13 - 1) = 12 := by decide +kernel
theorem CodeApart_true (op d a b bin imm op' d' a' b' bin' imm' : Int) (hi : -9223372036854775808 ≤ imm ∧ imm ≤ 9223372036854775807) (hi' : -9223372036854775808 ≤ imm' ∧ imm' ≤ 9223372036854775807) : palingslaw17_CodeApart.f 20 op d a b bin imm op' d' a' b' bin' imm' = some true := by
  unfold palingslaw17_CodeApart.f
  rw [head_f]
  simp only [Option.bind_some, if_true, encode_f]
  by_cases h : rightB op d a b bin imm = true
  · by_cases h' : rightB op' d' a' b' bin' imm' = true
    · rw [if_pos h, if_pos h']
      simp only [Option.bind_some, if_true]
      have ht := apart_test h h' hi hi'
      have b1 := byte_list op d a b bin imm
      have l1 := bytesI_length op d a b bin imm
      generalize bytesI op d a b bin imm = X at ht b1 l1
      generalize bytesI op' d' a' b' bin' imm' = Y at ht
      simp only [palingslaw17_CodeApart.j0]
      rw [if_neg (by decide)]
      simp only [Option.bind_some, List.nil_append]
      have e1 : code_Decode.f 19 (X ++ [0]) = some (0, 0, 0, 0, 0, 0, 2) := decode_short (by
        intro x hx
        rcases List.mem_append.mp hx with hx | hx
        · exact b1 x hx
        · rw [List.mem_singleton.mp hx]; decide) (by simp [l1])
      have e2 : code_Decode.f 19 (X.take ((12 : Int)).toNat) = some (0, 0, 0, 0, 0, 0, 2) := decode_short (fun x hx => b1 x (List.mem_of_mem_take hx)) (by simp [l1])
      have e3 : wrap64 ((X.length : Int) - 1) = 12 := by rw [l1]; exact w12
      rw [e3, e1]
      simp only [Option.bind_some]
      rw [e2]
      simp only [Option.bind_some, ht, if_true]
      rw [if_pos (by rw [l1]; decide), if_pos (by rw [l1]; decide), if_pos (by decide), if_pos (by rw [l1]; decide)]
      rfl
    · rw [if_pos h, if_neg h']
      simp only [Option.bind_some, if_true]
      rfl
  · rw [if_neg h]
    simp only [Option.bind_some]
    split
    · simp only [Option.bind_some]
      rfl
    · simp only [Option.bind_some]
      rfl
theorem apart_walk {H : Type} {enc : TypeId × Value → H} {d d' : DataW H} {p p' : List MemPlace} (v v' : Value) (W : World) (h : Arg enc Try.prog W 25 v d p) (h' : Arg enc Try.prog W 25 v' d' p') :
    Calls Try.prog 5 #[v, v'] W fun e w' => e = .returned (.bool true) ∧ Below W.heap.size W w' := by
  obtain ⟨op, d, a, b, bin, imm, rfl, _, _, _, _, _, hw⟩ := open_ins h
  obtain ⟨op', d', a', b', bin', imm', rfl, _, _, _, _, _, hw'⟩ := open_ins h'
  exact palingslaw17_CodeApart.calls 20 op d a b bin imm op' d' a' b' bin' imm' true rfl W (CodeApart_true op d a b bin imm op' d' a' b' bin' imm' (i64_bounds hw) (i64_bounds hw'))
end Go.Proofs.Ytapiapkdiggboaa.B
