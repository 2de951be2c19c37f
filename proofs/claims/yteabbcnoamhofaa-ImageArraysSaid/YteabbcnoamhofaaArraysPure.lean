/- ImageArrays: the plain law: arrays one behind the other are right as long as there are at most 64 of them; a gap, a smaller stack, a smaller memory are not. -/
import Derived.Test.YteabbcnoamhofaaBx7
namespace Go.Proofs.Yteabbcnoamhofaa.B
open Go.RowKit Go.Proofs.YteabbcnoamhofaaW.PrintWords Go.Proofs.YteabbcnoamhofaaW.PrintLast Go.Proofs.YteabbcnoamhofaaW.PrintMore
set_option linter.unusedVariables false
set_option linter.unusedSimpArgs false
theorem head_f : palingslaw18_head.f 20 = some true := by decide +kernel
set_option maxRecDepth 20000
theorem and_mask (z : Int) (m : Nat) (h1 : m < 1000) : 0 ≤ Go.bits .and .i64 z m ∧ Go.bits .and .i64 z m ≤ m := by
  show 0 ≤ IntKind.i64.wrap ((BitVec.ofInt 64 z &&& BitVec.ofInt 64 m).toNat : Int) ∧ IntKind.i64.wrap ((BitVec.ofInt 64 z &&& BitVec.ofInt 64 m).toNat : Int) ≤ m
  rw [BitVec.toNat_and]
  have h2 : (BitVec.ofInt 64 z).toNat &&& (BitVec.ofInt 64 m).toNat ≤ (BitVec.ofInt 64 m).toNat := Nat.and_le_right
  have h3 : (BitVec.ofInt 64 (m : Int)).toNat = m := by
    rw [BitVec.toNat_ofInt]; omega
  rw [h3] at h2 ⊢
  rw [IntKind.wrap_i64]; omega
theorem rightC : code_Ins_Right.f 11 0 0 0 0 0 = some true := by decide +kernel
def H0 : List S26 := [⟨11, 0, 0, 0, 0, 0⟩]
/-- the arrays 0 .. n-1, one behind the other -/
def arr (size : Int) : Nat → List S33
  | 0 => []
  | n + 1 => arr size n ++ [⟨wrap64 ((n : Int) * size), size, Int.tmod (n : Int) 3⟩]
theorem arr_length (size : Int) (n : Nat) : (arr size n).length = n := by
  induction n with
  | zero => rfl
  | succ n ih => simp [arr, ih]
theorem arr_get (size : Int) (n j : Nat) (h : j < n) : rd_T33 (arr size n) (j : Int) = ⟨wrap64 ((j : Int) * size), size, Int.tmod (j : Int) 3⟩ := by
  induction n with
  | zero => omega
  | succ n ih =>
    unfold rd_T33 at *
    rw [Int.toNat_natCast, List.getD_eq_getElem?_getD] at *
    by_cases hj : j < n
    · rw [show arr size (n + 1) = arr size n ++ [⟨wrap64 ((n : Int) * size), size, Int.tmod (n : Int) 3⟩] by rfl, List.getElem?_append_left (by rw [arr_length]; exact hj)]
      exact ih hj
    · have : j = n := by omega
      subst this
      rw [show arr size (j + 1) = arr size j ++ [⟨wrap64 ((j : Int) * size), size, Int.tmod (j : Int) 3⟩] by rfl, List.getElem?_append_right (by rw [arr_length]; exact Nat.le_refl _), arr_length, Nat.sub_self]
      rfl
/-- the loop over the instructions: one that halts -/
theorem right_l1 (k : Nat) (x : Int) (A : List S33) (st mem : Int) : image_Image_Right.l1 (k + 2) x H0 1 0 H0 A st mem = some (decide (x ≤ st)) := by
  have e : rd_T26 H0 0 = ⟨11, 0, 0, 0, 0, 0⟩ := rfl
  have w1 : wrap64 (0 + 1) = 1 := by decide +kernel
  have hl : (H0.length : Int) = 1 := rfl
  rw [image_Image_Right.l1, if_pos (by decide), if_pos (by decide), if_pos (by rw [hl]; decide), e, rightC, Option.bind_some, if_pos rfl, show code_Ins_Goes.f 11 0 0 0 0 0 = some false by rfl, Option.bind_some, if_neg (by decide), w1, image_Image_Right.l1, if_neg (by decide)]
theorem tmod3 (n : Nat) : ¬ Int.tmod (n : Int) 3 < 0 ∧ ¬ Int.tmod (n : Int) 3 > 2 := by
  rw [Int.tmod_eq_emod_of_nonneg (by omega)]; omega
theorem step_l0 (k i n : Nat) (size st mem : Int) (A : List S33) (hs : 1 ≤ size ∧ size ≤ 16) (hn : n ≤ 127) (hi : i < n) (hA : A.length = n) (hg : rd_T33 A (i : Int) = ⟨wrap64 ((i : Int) * size), size, Int.tmod (i : Int) 3⟩) :
    image_Image_Right.l0 (k + 1) ((i : Int) * size) A (n : Int) (i : Int) H0 A st mem = image_Image_Right.l0 k (((i + 1 : Nat) : Int) * size) A (n : Int) ((i + 1 : Nat) : Int) H0 A st mem := by
  have hm : 0 ≤ (i : Int) * size ∧ (i : Int) * size ≤ 127 * 16 := ⟨Int.mul_nonneg (by omega) (by omega), Int.mul_le_mul (by omega) (by omega) (by omega) (by omega)⟩
  have e1 : wrap64 ((i : Int) * size) = (i : Int) * size := by generalize (i : Int) * size = z at hm; unfold wrap64; omega
  have e2 : wrap64 ((i : Int) * size + size) = ((i + 1 : Nat) : Int) * size := by
    rw [show ((i + 1 : Nat) : Int) * size = (i : Int) * size + size by rw [Int.natCast_add, Int.add_mul]; omega]
    generalize (i : Int) * size = z at hm; unfold wrap64; omega
  have e3 : wrap64 ((i : Int) + 1) = ((i + 1 : Nat) : Int) := by unfold wrap64; omega
  obtain ⟨t1, t2⟩ := tmod3 i
  rw [image_Image_Right.l0, if_pos (by omega), if_pos (by omega), if_pos (by omega), hg, if_pos e1, if_neg (by show ¬ size < 1; omega), if_neg (by show ¬ size > 4096; omega), if_neg t1, if_neg t2]
  show image_Image_Right.l0 k (wrap64 ((i : Int) * size + size)) A n (wrap64 ((i : Int) + 1)) H0 A st mem = _
  rw [e2, e3]
theorem loop_l0 (k n : Nat) (size st mem : Int) (A : List S33) (hs : 1 ≤ size ∧ size ≤ 16) (hn : n ≤ 127) (m : Nat) (hm : m ≤ n) (hA : A.length = n) (hg : ∀ j, j < m → rd_T33 A (j : Int) = ⟨wrap64 ((j : Int) * size), size, Int.tmod (j : Int) 3⟩) :
    ∀ d i, i + d = m → image_Image_Right.l0 (k + d) ((i : Int) * size) A (n : Int) (i : Int) H0 A st mem = image_Image_Right.l0 k ((m : Int) * size) A (n : Int) (m : Int) H0 A st mem := by
  intro d
  induction d with
  | zero =>
    intro i hi
    have e : i = m := by omega
    rw [e]
    rfl
  | succ d ih =>
    intro i hi
    rw [show k + (d + 1) = (k + d) + 1 by omega, step_l0 (k + d) i n size st mem A hs hn (by omega) hA (hg i (by omega))]
    exact ih (i + 1) (by omega)
/-- right arrays, in a stack of that size -/
theorem right_arr (k n : Nat) (size st mem : Int) (hs : 1 ≤ size ∧ size ≤ 16) (hn : n ≤ 127) (h0 : 0 ≤ st) (h1 : st ≤ mem) (h2 : mem ≤ 1048576) :
    image_Image_Right.f (k + n + 4) H0 (arr size n) st mem = some (decide (n ≤ 64) && decide ((n : Int) * size ≤ st)) := by
  have hl : (H0.length : Int) = 1 := rfl
  have ha := arr_length size n
  unfold image_Image_Right.f
  rw [if_neg (by rw [hl]; decide), if_neg (by rw [hl]; decide)]
  by_cases h64 : n ≤ 64
  · rw [if_neg (by rw [ha]; omega), if_neg (by omega), if_neg (by omega), show (decide (mem > 1048576)) = false by simp; omega]
    rw [show k + n + 4 = (k + n + 3) + 1 by omega, image_Image_Right.j0, if_neg (by decide), ha]
    have hL := loop_l0 (k + 3) n size st mem (arr size n) hs hn n (Nat.le_refl _) ha (fun j hj => arr_get size n j hj) n 0 (by omega)
    rw [show ((0 : Nat) : Int) * size = 0 by simp, show ((0 : Nat) : Int) = 0 by rfl] at hL
    rw [show k + n + 3 = k + 3 + n by omega, hL, image_Image_Right.l0, if_neg (by omega), hl, right_l1]
    simp [h64]
  · rw [if_pos (by rw [ha]; omega), show k + n + 4 = (k + n + 3) + 1 by omega, image_Image_Right.j0, if_pos rfl]
    simp [h64]
/-- one array out of its place -/
theorem right_gap (k n g : Nat) (size st mem : Int) (A : List S33) (hs : 1 ≤ size ∧ size ≤ 16) (hn : n ≤ 127) (hg : g < n) (h0 : 0 ≤ st) (h1 : st ≤ mem) (h2 : mem ≤ 1048576) (hA : A.length = n)
    (hj : ∀ j, j < g → rd_T33 A (j : Int) = ⟨wrap64 ((j : Int) * size), size, Int.tmod (j : Int) 3⟩) (hx : (rd_T33 A (g : Int)).f0 ≠ (g : Int) * size) : image_Image_Right.f (k + g + 4) H0 A st mem = some false := by
  have hl : (H0.length : Int) = 1 := rfl
  unfold image_Image_Right.f
  rw [if_neg (by rw [hl]; decide), if_neg (by rw [hl]; decide)]
  by_cases h64 : n ≤ 64
  · rw [if_neg (by rw [hA]; omega), if_neg (by omega), if_neg (by omega), show (decide (mem > 1048576)) = false by simp; omega]
    rw [show k + g + 4 = (k + g + 3) + 1 by omega, image_Image_Right.j0, if_neg (by decide), hA]
    have hL := loop_l0 (k + 3) n size st mem A hs hn g (by omega) hA hj g 0 (by omega)
    rw [show ((0 : Nat) : Int) * size = 0 by simp, show ((0 : Nat) : Int) = 0 by rfl] at hL
    rw [show k + g + 3 = k + 3 + g by omega, hL, image_Image_Right.l0, if_pos (by omega), if_pos (by omega), if_pos (by omega), if_neg hx]
  · rw [if_pos (by rw [hA]; omega), show k + g + 4 = (k + g + 3) + 1 by omega, image_Image_Right.j0, if_pos rfl]
/-- memory smaller than the stack -/
theorem right_mem (k n : Nat) (size st mem : Int) (A : List S33) (h0 : 0 ≤ st) (h1 : mem < st) : image_Image_Right.f (k + 1) H0 A st mem = some false := by
  have hl : (H0.length : Int) = 1 := rfl
  unfold image_Image_Right.f
  rw [if_neg (by rw [hl]; decide), if_neg (by rw [hl]; decide)]
  have hj : image_Image_Right.j0 (k + 1) true H0 A st mem = some false := by rw [image_Image_Right.j0, if_pos rfl]
  rw [hj]
  by_cases ha : (A.length : Int) > 64
  · rw [if_pos ha]
  · rw [if_neg ha, if_neg (show ¬ st < 0 by omega), if_pos h1]

theorem head_up (j : Nat) : palingslaw18_head.f (20 + j) = some true := by
  induction j with
  | zero => exact head_f
  | succ j ih => exact palingslaw18_head.mono (20 + j) _ ih
/-- the law's loop over the arrays -/
theorem arrays_step (k i n : Nat) (size gap st mem : Int) (hs : 1 ≤ size ∧ size ≤ 16) (hn : n ≤ 127) (hi : i < n) :
    palingslaw18_ImageArrays.l0 (k + 1) (n : Int) size gap (i : Int) H0 (arr size i) st mem = palingslaw18_ImageArrays.l0 k (n : Int) size gap ((i + 1 : Nat) : Int) H0 (arr size (i + 1)) st mem := by
  have e3 : wrap64 ((i : Int) + 1) = ((i + 1 : Nat) : Int) := by unfold wrap64; omega
  rw [palingslaw18_ImageArrays.l0, if_pos (by omega), if_pos (by rw [arr_length]; omega), e3]
  rfl
theorem arrays_loop (k n : Nat) (size gap st mem : Int) (hs : 1 ≤ size ∧ size ≤ 16) (hn : n ≤ 127) :
    ∀ d i, i + d = n → palingslaw18_ImageArrays.l0 (k + d) (n : Int) size gap (i : Int) H0 (arr size i) st mem = palingslaw18_ImageArrays.l0 k (n : Int) size gap (n : Int) H0 (arr size n) st mem := by
  intro d
  induction d with
  | zero =>
    intro i hi
    have e : i = n := by omega
    rw [e]
    rfl
  | succ d ih =>
    intro i hi
    rw [show k + (d + 1) = (k + d) + 1 by omega, arrays_step (k + d) i n size gap st mem hs hn (by omega)]
    exact ih (i + 1) (by omega)
theorem arrays_end (n : Nat) (size gap : Int) (hs : 1 ≤ size ∧ size ≤ 16) (hn : n ≤ 127) (h255 : 0 ≤ Go.bits .and .i64 gap 255) :
    palingslaw18_ImageArrays.l0 301 (n : Int) size gap (n : Int) H0 (arr size n) ((n : Int) * size) ((n : Int) * size + 9) = some true := by
  have hm : 0 ≤ (n : Int) * size ∧ (n : Int) * size ≤ 127 * 16 := ⟨Int.mul_nonneg (by omega) (by omega), Int.mul_le_mul (by omega) (by omega) (by omega) (by omega)⟩
  have ha := arr_length size n
  have r1 := right_arr (296 - n) n size ((n : Int) * size) ((n : Int) * size + 9) hs hn (by omega) (by omega) (by omega)
  rw [show 296 - n + n + 4 = 300 by omega] at r1
  rw [palingslaw18_ImageArrays.l0, if_neg (by omega), r1, Option.bind_some]
  rw [show (decide ((n : Int) * size ≤ (n : Int) * size)) = true by simp, Bool.and_true, show (decide ((n : Int) ≤ 64)) = decide (n ≤ 64) by rw [Bool.eq_iff_iff]; simp; omega]
  rw [if_neg (by simp)]
  by_cases h0 : n = 0
  · subst h0; rfl
  · have hgt : Int.tmod (Go.bits .and .i64 gap 255) n = Go.bits .and .i64 gap 255 % n := Int.tmod_eq_emod_of_nonneg h255
    rw [if_neg (by omega), Option.bind_some, if_pos (by rw [ha]; simp; omega), Option.bind_some, hgt]
    generalize Go.bits .and .i64 gap 255 = z at h255
    obtain ⟨g, hg⟩ : ∃ g : Nat, z % (n : Int) = g := ⟨(z % (n : Int)).toNat, by have := Int.emod_nonneg z (show (n : Int) ≠ 0 by omega); omega⟩
    have hgn : g < n := by have := Int.emod_lt_of_pos z (show (0 : Int) < n by omega); omega
    rw [hg, List.nil_append, if_pos (by omega), if_pos (by rw [ha]; omega)]
    have hgx := arr_get size n g hgn
    have hgm : 0 ≤ (g : Int) * size ∧ (g : Int) * size ≤ 127 * 16 := ⟨Int.mul_nonneg (by omega) (by omega), Int.mul_le_mul (by omega) (by omega) (by omega) (by omega)⟩
    have r2 := right_gap (296 - g) n g size ((n : Int) * size) ((n : Int) * size + 9) ((arr size n).set ((g : Int)).toNat ⟨wrap64 ((rd_T33 (arr size n) (g : Int)).f0 + 1), (rd_T33 (arr size n) (g : Int)).f1, (rd_T33 (arr size n) (g : Int)).f2⟩) hs hn hgn (by omega) (by omega) (by omega) (by rw [List.length_set, ha])
      (by
        intro j hj
        rw [← arr_get size n j (by omega)]
        unfold rd_T33
        rw [Int.toNat_natCast, Int.toNat_natCast, List.getD_eq_getElem?_getD, List.getD_eq_getElem?_getD, List.getElem?_set_ne (by omega)]
        first | done | rw [List.getD_eq_getElem?_getD])
      (by
        rw [hgx]
        unfold rd_T33
        rw [Int.toNat_natCast, List.getD_eq_getElem?_getD, List.getElem?_set_self (by rw [ha]; exact hgn)]
        show wrap64 (wrap64 ((g : Int) * size) + 1) ≠ (g : Int) * size
        generalize (g : Int) * size = y at hgm
        unfold wrap64; omega)
    rw [show 296 - g + g + 4 = 300 by omega] at r2
    rw [r2, Option.bind_some, if_neg (by decide)]
    have hn1 : (1 : Int) ≤ (n : Int) * size := by
      have : (1 : Int) * 1 ≤ (n : Int) * size := Int.mul_le_mul (by omega) (by omega) (by omega) (by omega)
      omega
    have e1 : wrap64 ((n : Int) * size - 1) = (n : Int) * size - 1 := by generalize (n : Int) * size = y at hm hn1; unfold wrap64; omega
    rw [e1]
    have r3 := right_arr (296 - n) n size ((n : Int) * size - 1) ((n : Int) * size + 9) hs hn (by omega) (by omega) (by omega)
    rw [show 296 - n + n + 4 = 300 by omega, show (decide ((n : Int) * size ≤ (n : Int) * size - 1)) = false by simp; omega, Bool.and_false] at r3
    rw [r3, Option.bind_some, if_neg (by decide)]
    have r4 := right_mem 299 n size ((n : Int) * size) ((n : Int) * size - 1) (arr size n) (by omega) (by omega)
    rw [r4, Option.bind_some]
    rfl
theorem ImageArrays_true (a b c : Int) : ∃ k, palingslaw18_ImageArrays.f k a b c = some true := by
  have m1 := and_mask a 127 (by decide)
  have m2 := and_mask b 15 (by decide)
  have m3 := and_mask c 255 (by decide)
  simp only [Int.cast_ofNat_Int] at m1 m2 m3
  obtain ⟨n, hn⟩ : ∃ n : Nat, Go.bits .and .i64 a 127 = n := ⟨(Go.bits .and .i64 a 127).toNat, by omega⟩
  refine ⟨301 + n, ?_⟩
  unfold palingslaw18_ImageArrays.f
  rw [show 301 + n = 20 + (281 + n) by omega, head_up, Option.bind_some, if_pos rfl, hn]
  rw [hn] at m1
  generalize hz : wrap64 (1 + Go.bits .and .i64 b 15) = size
  have hs : 1 ≤ size ∧ size ≤ 16 := by
    rw [← hz]
    generalize Go.bits .and .i64 b 15 = y at m2
    unfold wrap64; omega
  have hm : 0 ≤ (n : Int) * size ∧ (n : Int) * size ≤ 127 * 16 := ⟨Int.mul_nonneg (by omega) (by omega), Int.mul_le_mul (by omega) (by omega) (by omega) (by omega)⟩
  have e1 : wrap64 ((n : Int) * size) = (n : Int) * size := by generalize (n : Int) * size = y at hm; unfold wrap64; omega
  have e2 : wrap64 ((n : Int) * size + 9) = (n : Int) * size + 9 := by generalize (n : Int) * size = y at hm; unfold wrap64; omega
  rw [e1, e2, show 20 + (281 + n) = 301 + n by omega]
  exact (arrays_loop 301 n size c _ _ hs (by omega) n 0 (by omega)).trans (arrays_end n size c hs (by omega) m3.1)
end Go.Proofs.Yteabbcnoamhofaa.B
