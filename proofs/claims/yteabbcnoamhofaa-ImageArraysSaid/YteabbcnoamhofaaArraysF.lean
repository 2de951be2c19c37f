/- Out of the kit's print of this seat's functions, put together by a program of mine. -/
import Derived.Test.YteabbcnoamhofaaBx1
import Derived.Test.YteabbcnoamhofaaBx3
import Derived.Test.YteabbcnoamhofaaBx6
namespace Go.Proofs.Yteabbcnoamhofaa.B
open Go.RowKit Go.Proofs.YteabbcnoamhofaaW.PrintWords Go.Proofs.YteabbcnoamhofaaW.PrintLast Go.Proofs.YteabbcnoamhofaaW.PrintMore
attribute [local go_sem] max2_int min2_int max_two min_two max_three min_three max_four min_four   -- for this text's walks alone
set_option linter.unusedVariables false
set_option linter.unusedSimpArgs false

/-! ### palingslaw18_ImageArrays: function 3 -/
def palingslaw18_ImageArrays.l0 : Nat → Int → Int → Int → Int → List (S26) → List (S33) → Int → Int → Option (Bool)
  | 0, _, _, _, _, _, _, _, _ => none
  | k + 1, x0, x1, x2, x8, x176000, x176001, x176002, x176003 => if x8 < x0 then (if x176001.length < 5864062014805 then (palingslaw18_ImageArrays.l0 k x0 x1 x2 (wrap64 (x8 + 1)) x176000 (x176001 ++ [(⟨wrap64 (x8 * x1), x1, Int.tmod x8 3⟩ : S33)]) x176002 x176003) else (none)) else ((image_Image_Right.f k x176000 x176001 x176002 x176003).bind fun t179 => (if (t179 != (decide (x0 ≤ 64))) = true then (some false) else (if x0 = 0 then (some true) else ((some (([] : List (S33)) : List (S33))).bind fun y181 => (if y181.length + x176001.length < 5864062014805 then ((some (y181 ++ x176001 : List (S33))).bind fun y184 => (if 0 ≤ (Int.tmod (Go.bits .and .i64 x2 255) x0) then (if (Int.tmod (Go.bits .and .i64 x2 255) x0) < (y184.length : Int) then ((image_Image_Right.f k x176000 (y184.set ((Int.tmod (Go.bits .and .i64 x2 255) x0) : Int).toNat (⟨wrap64 (((rd_T33 y184 (Int.tmod (Go.bits .and .i64 x2 255) x0)).f0) + 1), (rd_T33 y184 (Int.tmod (Go.bits .and .i64 x2 255) x0)).f1, (rd_T33 y184 (Int.tmod (Go.bits .and .i64 x2 255) x0)).f2⟩ : S33)) x176002 x176003).bind fun t191 => (if t191 = true then (some false) else ((image_Image_Right.f k x176000 x176001 (wrap64 (x176002 - 1)) x176003).bind fun t192 => (if t192 = true then (some false) else ((image_Image_Right.f k x176000 x176001 x176002 (wrap64 (x176002 - 1))).bind fun t193 => (some (!t193))))))) else (none)) else (none))) else (none))))))
def palingslaw18_ImageArrays.f (k : Nat) (a0 : Int) (a1 : Int) (a2 : Int) : Option (Bool) := (palingslaw18_head.f k).bind fun t171 => (if t171 = true then (palingslaw18_ImageArrays.l0 k (Go.bits .and .i64 a0 127) (wrap64 (1 + (Go.bits .and .i64 a1 15))) a2 0 (([(⟨11, 0, 0, 0, 0, 0⟩ : S26)] : List (S26))) ([] : List (S33)) (wrap64 ((Go.bits .and .i64 a0 127) * (wrap64 (1 + (Go.bits .and .i64 a1 15))))) (wrap64 ((wrap64 ((Go.bits .and .i64 a0 127) * (wrap64 (1 + (Go.bits .and .i64 a1 15))))) + 9))) else (some false))
theorem palingslaw18_ImageArrays.mono_l : ∀ k, (∀ y0 y1 y2 y3 y4 y5 y6 y7, LeO (palingslaw18_ImageArrays.l0 k y0 y1 y2 y3 y4 y5 y6 y7) (palingslaw18_ImageArrays.l0 (k + 1) y0 y1 y2 y3 y4 y5 y6 y7))
  | 0 => fun _ _ _ _ _ _ _ _ r h => by simp [palingslaw18_ImageArrays.l0] at h
  | k + 1 => by
    have ih0 := palingslaw18_ImageArrays.mono_l k
    · intro y0 y1 y2 y3 y4 y5 y6 y7
      unfold palingslaw18_ImageArrays.l0
      repeat' first
      | (with_reducible exact ih0 _ _ _ _ _ _ _ _)
      | (with_reducible exact image_Image_Right.mono _ _ _ _ _)
      | (with_reducible exact palingslaw18_head.mono _)
      | (with_reducible exact LeO.refl _)
      | (with_reducible exact LeO.none _)
      | (with_reducible refine LeO.ite ?_ ?_)
      | (with_reducible refine LeO.bind ?_ (fun _ => ?_))
      | exact ih0 _ _ _ _ _ _ _ _
      | exact image_Image_Right.mono _ _ _ _ _
      | exact palingslaw18_head.mono _
      | exact LeO.none _
      | refine LeO.ite ?_ ?_
      | refine LeO.bind ?_ (fun _ => ?_)
theorem palingslaw18_ImageArrays.mono : ∀ a0 a1 a2 k, LeO (palingslaw18_ImageArrays.f k a0 a1 a2) (palingslaw18_ImageArrays.f (k + 1) a0 a1 a2) := by
  intro a0 a1 a2 k
  have ih0 := palingslaw18_ImageArrays.mono_l k
  unfold palingslaw18_ImageArrays.f
  repeat' first
      | (with_reducible exact ih0 _ _ _ _ _ _ _ _)
      | (with_reducible exact image_Image_Right.mono _ _ _ _ _)
      | (with_reducible exact palingslaw18_head.mono _)
      | (with_reducible exact LeO.refl _)
      | (with_reducible exact LeO.none _)
      | (with_reducible refine LeO.ite ?_ ?_)
      | (with_reducible refine LeO.bind ?_ (fun _ => ?_))
      | exact ih0 _ _ _ _ _ _ _ _
      | exact image_Image_Right.mono _ _ _ _ _
      | exact palingslaw18_head.mono _
      | exact LeO.none _
      | refine LeO.ite ?_ ?_
      | refine LeO.bind ?_ (fun _ => ?_)
def palingslaw18_ImageArrays.T16 : Bool × List (List Nat × List Nat) := (true, [([], []), ([0], [0]), ([], []), ([2], [2]), ([], []), ([3, 4], [3, 4]), ([1, 5], [1, 5]), ([6], [6]), ([7], [7]), ([8], [8]), ([1, 5, 0, 1, 2, 3, 4, 5, 6, 7, 8, 9], [1, 5]), ([10, 0, 1, 2, 3, 4, 5, 6, 7, 8, 9], [10]), ([11, 9, 0, 1, 2, 3, 4, 5, 6, 7, 8, 9], [9, 11])])
def palingslaw18_ImageArrays.B16 : List Nat := [0, 1, 0, 4, 0, 28, 63, 127, 255, 511, 1023, 2047, 4095]
theorem palingslaw18_ImageArrays.tab16 : rtab .any (opsOf Try.f3 16) = palingslaw18_ImageArrays.T16 := by kernel_rfl
theorem palingslaw18_ImageArrays.bits16 : waitsOk palingslaw18_ImageArrays.T16.2 palingslaw18_ImageArrays.B16 = true := by kernel_rfl

end Go.Proofs.Yteabbcnoamhofaa.B
