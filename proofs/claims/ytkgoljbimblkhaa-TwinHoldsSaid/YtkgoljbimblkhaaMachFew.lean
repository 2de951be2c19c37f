/- What the guard of these laws tells. -/
import Derived.Test.YtkgoljbimblkhaaBx7
import Derived.Test.YtkgoljbimblkhaaMachOpen
namespace Go.Proofs.Ytkgoljbimblkhaa.B
open Go.RowKit Go.Proofs.Ytkgoljbimblkhaa.Mine Go.Proofs.Ytkgoljbimblkhaa.Sep Go.Proofs.YtkgoljbimblkhaaW.PrintWords Go.Proofs.YtkgoljbimblkhaaW.PrintLast Go.Proofs.YtkgoljbimblkhaaW.PrintMore
set_option linter.unusedVariables false
set_option linter.unusedSimpArgs false

structure Fews (C : List S56) (A : List S60) (st mem : Int) (ins : List (List Int)) : Prop where
  c : C.length ≤ 60
  a : A.length ≤ 20
  i : ins.length ≤ 20
  m0 : 0 ≤ mem
  m1 : mem ≤ 5000
  w : ∀ r ∈ ins, r.length ≤ 200
  right : ∃ k, image_Image_Right.f k C A st mem = some true
theorem few_l0 (C : List S56) (A : List S60) (st mem : Int) (ins : List (List Int)) (hC : C.length ≤ 60) (hA : A.length ≤ 20) (hI : ins.length ≤ 20) : ∀ (d i k : Nat), i + d = ins.length → 200 + d ≤ k →
    ∃ t, palingslaw19_Few.l0 k ins (ins.length : Int) (i : Int) C A st mem = some t ∧ (t = true → (∀ j (hj : j < ins.length), i ≤ j → ins[j].length ≤ 200) ∧ ∃ k, image_Image_Right.f k C A st mem = some true) := by
  intro d
  induction d with
  | zero =>
    intro i k hi hk
    obtain ⟨k, rfl⟩ : ∃ j, k = j + 1 := ⟨k - 1, by omega⟩
    rw [palingslaw19_Few.l0, if_neg (by omega)]
    obtain ⟨t, ht⟩ := right_total C A st mem (by omega) (by omega) k (by omega)
    rw [ht]
    exact ⟨t, rfl, fun e => ⟨fun j hj hij => by omega, k, by rw [ht, e]⟩⟩
  | succ d ih =>
    intro i k hi hk
    obtain ⟨k, rfl⟩ : ∃ j, k = j + 1 := ⟨k - 1, by omega⟩
    rw [palingslaw19_Few.l0, if_pos (by omega), if_pos (by omega), if_pos (by omega), w64 ((i : Int) + 1) (by omega) (by omega)]
    have hrd : rd_L3 ins (i : Int) = ins[i] := getD_get ins _ i (by omega)
    rw [hrd]
    obtain ⟨t, ht, hh⟩ := ih (i + 1) k (by omega) (by omega)
    have ht' : palingslaw19_Few.l0 k ins (ins.length : Int) ((i : Int) + 1) C A st mem = some t := by exact_mod_cast ht
    by_cases h : (ins[i].length : Int) > 200
    · rw [if_pos h]; exact ⟨false, rfl, fun e => by cases e⟩
    · rw [if_neg h]
      refine ⟨t, ht', fun e => ⟨fun j hj hij => ?_, (hh e).2⟩⟩
      by_cases ej : j = i
      · subst ej; omega
      · exact (hh e).1 j hj (by omega)
theorem few_tells (C : List S56) (A : List S60) (st mem : Int) (ins : List (List Int)) : ∃ t, palingslaw19_Few.f 500 C A st mem ins = some t ∧ (t = true → Fews C A st mem ins) := by
  have hj : palingslaw19_Few.j0 500 ins true C A st mem = some false := rfl
  have hn : ∃ t, some false = some t ∧ (t = true → Fews C A st mem ins) := ⟨false, rfl, fun e => by cases e⟩
  unfold palingslaw19_Few.f
  rw [hj]
  split
  · exact hn
  split
  · exact hn
  split
  · exact hn
  split
  · exact hn
  by_cases hm : mem < 0
  · rw [decide_eq_true hm, hj]; exact hn
  · rw [decide_eq_false hm, palingslaw19_Few.j0, if_neg (by decide)]
    obtain ⟨t, ht, h⟩ := few_l0 C A st mem ins (by omega) (by omega) (by omega) ins.length 0 499 (by omega) (by omega)
    refine ⟨t, by exact_mod_cast ht, fun e => ?_⟩
    obtain ⟨h1, h2⟩ := h e
    refine ⟨by omega, by omega, by omega, by omega, by omega, fun r hr => ?_, h2⟩
    obtain ⟨j, hj, rfl⟩ := List.getElem_of_mem hr
    exact h1 j hj (Nat.zero_le _)
theorem and63 (n : Int) : Go.bits .and .i64 n 63 = n % 64 := by
  have h1 : (BitVec.ofInt 64 63).toNat = 2 ^ 6 - 1 := by decide
  have key : (BitVec.ofInt 64 n &&& BitVec.ofInt 64 63).toNat = (n % ((2 ^ 64 : Nat) : Int)).toNat % 2 ^ 6 := by
    rw [BitVec.toNat_and, BitVec.toNat_ofInt, h1, Nat.and_two_pow_sub_one_eq_mod]
  show IntKind.i64.wrap ((BitVec.ofInt 64 n &&& BitVec.ofInt 64 63).toNat : Nat) = n % 64
  rw [key, IntKind.wrap_i64]
  omega
theorem and127 (n : Int) : Go.bits .and .i64 n 127 = n % 128 := by
  have h1 : (BitVec.ofInt 64 127).toNat = 2 ^ 7 - 1 := by decide
  have key : (BitVec.ofInt 64 n &&& BitVec.ofInt 64 127).toNat = (n % ((2 ^ 64 : Nat) : Int)).toNat % 2 ^ 7 := by
    rw [BitVec.toNat_and, BitVec.toNat_ofInt, h1, Nat.and_two_pow_sub_one_eq_mod]
  show IntKind.i64.wrap ((BitVec.ofInt 64 n &&& BitVec.ofInt 64 127).toNat : Nat) = n % 128
  rw [key, IntKind.wrap_i64]
  omega
theorem and255 (n : Int) : Go.bits .and .i64 n 255 = n % 256 := by
  have h1 : (BitVec.ofInt 64 255).toNat = 2 ^ 8 - 1 := by decide
  have key : (BitVec.ofInt 64 n &&& BitVec.ofInt 64 255).toNat = (n % ((2 ^ 64 : Nat) : Int)).toNat % 2 ^ 8 := by
    rw [BitVec.toNat_and, BitVec.toNat_ofInt, h1, Nat.and_two_pow_sub_one_eq_mod]
  show IntKind.i64.wrap ((BitVec.ofInt 64 n &&& BitVec.ofInt 64 255).toNat : Nat) = n % 256
  rw [key, IntKind.wrap_i64]
  omega
theorem and65535 (n : Int) : Go.bits .and .i64 n 65535 = n % 65536 := by
  have h1 : (BitVec.ofInt 64 65535).toNat = 2 ^ 16 - 1 := by decide
  have key : (BitVec.ofInt 64 n &&& BitVec.ofInt 64 65535).toNat = (n % ((2 ^ 64 : Nat) : Int)).toNat % 2 ^ 16 := by
    rw [BitVec.toNat_and, BitVec.toNat_ofInt, h1, Nat.and_two_pow_sub_one_eq_mod]
  show IntKind.i64.wrap ((BitVec.ofInt 64 n &&& BitVec.ofInt 64 65535).toNat : Nat) = n % 65536
  rw [key, IntKind.wrap_i64]
  omega
end Go.Proofs.Ytkgoljbimblkhaa.B
