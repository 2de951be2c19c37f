/- CodeParts as a function: out of the kit's print. -/
import Derived.Test.YtapiapkdiggboaaBx2
import Derived.Test.YtapiapkdiggboaaBx3
import Derived.Test.YtapiapkdiggboaaBx4
import Derived.Test.YtapiapkdiggboaaBx5
import Derived.Test.YtapiapkdiggboaaBx6
import Derived.Test.YtapiapkdiggboaaBx7
import Derived.Test.YtapiapkdiggboaaRight
import Derived.Test.YtapiapkdiggboaaRightLaw
import Derived.Test.YtapiapkdiggboaaSame
namespace Go.Proofs.Ytapiapkdiggboaa.B
open Go.RowKit Go.Proofs.YtapiapkdiggboaaW.PrintWords Go.Proofs.YtapiapkdiggboaaW.PrintLast Go.Proofs.YtapiapkdiggboaaW.PrintMore
attribute [local go_sem] max2_int min2_int max_two min_two max_three min_three max_four min_four   -- for this text's walks alone
set_option linter.unusedVariables false
set_option linter.unusedSimpArgs false

/-! ### palingslaw17_CodeParts: function 7 -/
def palingslaw17_CodeParts.j0 : Nat → List Int → Int → List Int → Int → Int → Int → Int → Int → Int → Option (Bool)
  | 0, _, _, _, _, _, _, _, _, _ => none
  | k + 1, x3, x4, x5, x162000, x162001, x162002, x162003, x162004, x162005 => (code_Ins_Reads.f k x162000 x162001 x162002 x162003 x162004 x162005).bind fun t191 => ((palingslaw17_PartsSame.f k t191 x3).bind fun t194 => (if t194 = true then ((code_Ins_Turns.f k x162000 x162001 x162002 x162003 x162004 x162005).bind fun t195 => (if t195 = x4 then ((code_Ins_Shows.f k x162000 x162001 x162002 x162003 x162004 x162005).bind fun t196 => ((palingslaw17_PartsSame.f k t196 x5).bind fun t199 => (if t199 = true then ((code_Ins_Goes.f x162000 x162001 x162002 x162003 x162004 x162005).bind fun t200 => (if x162000 = 6 then (some (t200 == true)) else (if x162000 = 7 then (some (t200 == true)) else (some (t200 == (x162000 == 8)))))) else (some false)))) else (some false))) else (some false)))
def palingslaw17_CodeParts.f (k : Nat) (a0_0 : Int) (a0_1 : Int) (a0_2 : Int) (a0_3 : Int) (a0_4 : Int) (a0_5 : Int) : Option (Bool) := (palingslaw17_head.f k).bind fun t162 => (if t162 = true then ((palingslaw17_right.f k a0_0 a0_1 a0_2 a0_3 a0_4 a0_5).bind fun t163 => (if t163 = true then ((some (([] : List Int) : List Int)).bind fun y164 => ((some (([] : List Int) : List Int)).bind fun y167 => (if a0_0 = 1 then (palingslaw17_CodeParts.j0 k y164 a0_1 y167 a0_0 a0_1 a0_2 a0_3 a0_4 a0_5) else (if a0_0 = 2 then (palingslaw17_CodeParts.j0 k (([a0_2] : List Int)) a0_1 y167 a0_0 a0_1 a0_2 a0_3 a0_4 a0_5) else (if a0_0 = 3 then ((some (([a0_2, a0_3] : List Int) : List Int)).bind fun y173 => (if a0_4 = 4 then (palingslaw17_CodeParts.j0 k y173 a0_1 y173 a0_0 a0_1 a0_2 a0_3 a0_4 a0_5) else (if a0_4 = 5 then (palingslaw17_CodeParts.j0 k y173 a0_1 y173 a0_0 a0_1 a0_2 a0_3 a0_4 a0_5) else (palingslaw17_CodeParts.j0 k y173 a0_1 y167 a0_0 a0_1 a0_2 a0_3 a0_4 a0_5)))) else (if a0_0 = 4 then ((some (([a0_2] : List Int) : List Int)).bind fun y176 => (palingslaw17_CodeParts.j0 k y176 a0_1 y176 a0_0 a0_1 a0_2 a0_3 a0_4 a0_5)) else (if a0_0 = 5 then (palingslaw17_CodeParts.j0 k (([a0_2, a0_3] : List Int)) (-1) (([a0_2] : List Int)) a0_0 a0_1 a0_2 a0_3 a0_4 a0_5) else (if a0_0 = 7 then ((some (([a0_2] : List Int) : List Int)).bind fun y185 => (palingslaw17_CodeParts.j0 k y185 (-1) y185 a0_0 a0_1 a0_2 a0_3 a0_4 a0_5)) else (if a0_0 = 11 then (palingslaw17_CodeParts.j0 k (([a0_2] : List Int)) (-1) y167 a0_0 a0_1 a0_2 a0_3 a0_4 a0_5) else (palingslaw17_CodeParts.j0 k y164 (-1) y167 a0_0 a0_1 a0_2 a0_3 a0_4 a0_5)))))))))) else (some true))) else (some false))
theorem palingslaw17_CodeParts.mono_l : ∀ k, (∀ y0 y1 y2 y3 y4 y5 y6 y7 y8, LeO (palingslaw17_CodeParts.j0 k y0 y1 y2 y3 y4 y5 y6 y7 y8) (palingslaw17_CodeParts.j0 (k + 1) y0 y1 y2 y3 y4 y5 y6 y7 y8))
  | 0 => fun _ _ _ _ _ _ _ _ _ r h => by simp [palingslaw17_CodeParts.j0] at h
  | k + 1 => by
    have ih0 := palingslaw17_CodeParts.mono_l k
    · intro y0 y1 y2 y3 y4 y5 y6 y7 y8
      unfold palingslaw17_CodeParts.j0
      repeat' first
      | (with_reducible exact ih0 _ _ _ _ _ _ _ _ _)
      | (with_reducible exact code_Ins_Reads.mono _ _ _ _ _ _ _)
      | (with_reducible exact code_Ins_Shows.mono _ _ _ _ _ _ _)
      | (with_reducible exact code_Ins_Turns.mono _ _ _ _ _ _ _)
      | (with_reducible exact palingslaw17_PartsSame.mono _ _ _)
      | (with_reducible exact palingslaw17_head.mono _)
      | (with_reducible exact palingslaw17_right.mono _ _ _ _ _ _ _)
      | (with_reducible exact LeO.refl _)
      | (with_reducible exact LeO.none _)
      | (with_reducible refine LeO.ite ?_ ?_)
      | (with_reducible refine LeO.bind ?_ (fun _ => ?_))
      | exact ih0 _ _ _ _ _ _ _ _ _
      | exact code_Ins_Reads.mono _ _ _ _ _ _ _
      | exact code_Ins_Shows.mono _ _ _ _ _ _ _
      | exact code_Ins_Turns.mono _ _ _ _ _ _ _
      | exact palingslaw17_PartsSame.mono _ _ _
      | exact palingslaw17_head.mono _
      | exact palingslaw17_right.mono _ _ _ _ _ _ _
      | exact LeO.none _
      | refine LeO.ite ?_ ?_
      | refine LeO.bind ?_ (fun _ => ?_)
theorem palingslaw17_CodeParts.mono : ∀ a0 a1 a2 a3 a4 a5 k, LeO (palingslaw17_CodeParts.f k a0 a1 a2 a3 a4 a5) (palingslaw17_CodeParts.f (k + 1) a0 a1 a2 a3 a4 a5) := by
  intro a0 a1 a2 a3 a4 a5 k
  have ih0 := palingslaw17_CodeParts.mono_l k
  unfold palingslaw17_CodeParts.f
  repeat' first
      | (with_reducible exact ih0 _ _ _ _ _ _ _ _ _)
      | (with_reducible exact code_Ins_Reads.mono _ _ _ _ _ _ _)
      | (with_reducible exact code_Ins_Shows.mono _ _ _ _ _ _ _)
      | (with_reducible exact code_Ins_Turns.mono _ _ _ _ _ _ _)
      | (with_reducible exact palingslaw17_PartsSame.mono _ _ _)
      | (with_reducible exact palingslaw17_head.mono _)
      | (with_reducible exact palingslaw17_right.mono _ _ _ _ _ _ _)
      | (with_reducible exact LeO.refl _)
      | (with_reducible exact LeO.none _)
      | (with_reducible refine LeO.ite ?_ ?_)
      | (with_reducible refine LeO.bind ?_ (fun _ => ?_))
      | exact ih0 _ _ _ _ _ _ _ _ _
      | exact code_Ins_Reads.mono _ _ _ _ _ _ _
      | exact code_Ins_Shows.mono _ _ _ _ _ _ _
      | exact code_Ins_Turns.mono _ _ _ _ _ _ _
      | exact palingslaw17_PartsSame.mono _ _ _
      | exact palingslaw17_head.mono _
      | exact palingslaw17_right.mono _ _ _ _ _ _ _
      | exact LeO.none _
      | refine LeO.ite ?_ ?_
      | refine LeO.bind ?_ (fun _ => ?_)
def palingslaw17_CodeParts.T32 : Bool × List (List Nat × List Nat) := (true, [([], []), ([], []), ([1], [1]), ([], []), ([0, 2, 3, 2], [0, 2, 3]), ([4, 4], [4]), ([5], [5]), ([6, 5, 5], [5, 6]), ([5], [5]), ([7, 8, 5], [5, 7, 8]), ([5, 9], [5, 9]), ([10, 7], [10]), ([11], [11]), ([11], [11]), ([13, 11, 11], [11, 13]), ([11], [11]), ([12, 14, 15, 14, 11], [11, 12, 14, 15]), ([11, 16], [11, 16]), ([17, 16], [17]), ([18], [18]), ([19, 18, 18], [18, 19]), ([18], [18]), ([21, 18], [18, 21]), ([22, 18], [18, 22]), ([23, 20, 18], [18, 23]), ([24], [24]), ([25, 24], [24, 25]), ([26, 24], [24, 26]), ([24, 27, 18], [18, 24, 27]), ([28, 24, 18], [18, 28]), ([29], [29]), ([30, 29], [29, 30]), ([31, 29], [29, 31]), ([29, 32, 18], [18, 29, 32]), ([20, 33, 18], [18, 20, 33]), ([18, 34], [18, 34]), ([35, 29, 0, 1, 2, 3, 4, 5, 6, 7, 8, 9, 10, 11, 12, 13, 14, 15, 16, 17, 18, 19, 20, 21, 22, 23, 24, 25, 26, 27, 28, 29, 30, 31, 32, 33, 34, 35], [35])])
def palingslaw17_CodeParts.B32 : List Nat := [0, 0, 2, 0, 15, 31, 63, 127, 63, 511, 1023, 2047, 4095, 4095, 12287, 4095, 65535, 131071, 262143, 524287, 1048575, 524287, 2621439, 6815743, 16777215, 33554431, 67108863, 134217727, 268435455, 536870911, 1073741823, 2147483647, 4294967295, 8589934591, 17179869183, 34359738367, 68719476735]
theorem palingslaw17_CodeParts.tab32 : rtab .any (opsOf Try.f7 32) = palingslaw17_CodeParts.T32 := by kernel_rfl
theorem palingslaw17_CodeParts.bits32 : waitsOk palingslaw17_CodeParts.T32.2 palingslaw17_CodeParts.B32 = true := by kernel_rfl
def mB0 : Array Bool := #[true, false, false, false, false, false, false, false, false, false, false, false, false, false, false, false, false, false, false, false, false, false, false, false, false, false, false, false, false, false, false, false, false, false, false, false, false]
def mB1 : Array Bool := #[true, false, false, true, false, false, false, false, false, false, false, false, false, false, false, false, false, false, false, false, false, false, false, false, false, false, false, false, false, false, false, false, false, false, false, false, false]
def mB2 : Array Bool := #[true, true, false, true, false, false, false, false, false, false, false, false, false, false, false, false, false, false, false, false, false, false, false, false, false, false, false, false, false, false, false, false, false, false, false, false, false]
def mB3 : Array Bool := #[true, true, true, true, false, false, false, false, false, false, false, false, false, false, false, false, false, false, false, false, false, false, false, false, false, false, false, false, false, false, false, false, false, false, false, false, false]
def mB4 : Array Bool := #[true, true, true, true, true, false, false, false, false, false, false, false, false, false, false, false, false, false, false, false, false, false, false, false, false, false, false, false, false, false, false, false, false, false, false, false, false]
def mB5 : Array Bool := #[true, true, true, true, true, true, false, false, false, false, false, false, false, false, false, false, false, false, false, false, false, false, false, false, false, false, false, false, false, false, false, false, false, false, false, false, false]
def mB6 : Array Bool := #[true, true, true, true, true, true, false, false, true, false, false, false, false, false, false, false, false, false, false, false, false, false, false, false, false, false, false, false, false, false, false, false, false, false, false, false, false]
def mB7 : Array Bool := #[true, true, true, true, true, true, true, false, true, false, false, false, false, false, false, false, false, false, false, false, false, false, false, false, false, false, false, false, false, false, false, false, false, false, false, false, false]
def mB8 : Array Bool := #[true, true, true, true, true, true, true, true, true, false, false, false, false, false, false, false, false, false, false, false, false, false, false, false, false, false, false, false, false, false, false, false, false, false, false, false, false]
def mB9 : Array Bool := #[true, true, true, true, true, true, true, true, true, true, false, false, false, false, false, false, false, false, false, false, false, false, false, false, false, false, false, false, false, false, false, false, false, false, false, false, false]
def mB10 : Array Bool := #[true, true, true, true, true, true, true, true, true, true, true, false, false, false, false, false, false, false, false, false, false, false, false, false, false, false, false, false, false, false, false, false, false, false, false, false, false]
def mB11 : Array Bool := #[true, true, true, true, true, true, true, true, true, true, true, true, false, false, false, false, false, false, false, false, false, false, false, false, false, false, false, false, false, false, false, false, false, false, false, false, false]
def mB12 : Array Bool := #[true, true, true, true, true, true, true, true, true, true, true, true, true, false, false, false, false, false, false, false, false, false, false, false, false, false, false, false, false, false, false, false, false, false, false, false, false]
def mB13 : Array Bool := #[true, true, true, true, true, true, true, true, true, true, true, true, true, false, false, true, false, false, false, false, false, false, false, false, false, false, false, false, false, false, false, false, false, false, false, false, false]
def mB14 : Array Bool := #[true, true, true, true, true, true, true, true, true, true, true, true, true, true, false, true, false, false, false, false, false, false, false, false, false, false, false, false, false, false, false, false, false, false, false, false, false]
def mB15 : Array Bool := #[true, true, true, true, true, true, true, true, true, true, true, true, true, true, true, true, false, false, false, false, false, false, false, false, false, false, false, false, false, false, false, false, false, false, false, false, false]
def mB16 : Array Bool := #[true, true, true, true, true, true, true, true, true, true, true, true, true, true, true, true, true, false, false, false, false, false, false, false, false, false, false, false, false, false, false, false, false, false, false, false, false]
def mB17 : Array Bool := #[true, true, true, true, true, true, true, true, true, true, true, true, true, true, true, true, true, true, false, false, false, false, false, false, false, false, false, false, false, false, false, false, false, false, false, false, false]
def mB18 : Array Bool := #[true, true, true, true, true, true, true, true, true, true, true, true, true, true, true, true, true, true, true, false, false, false, false, false, false, false, false, false, false, false, false, false, false, false, false, false, false]
def mB19 : Array Bool := #[true, true, true, true, true, true, true, true, true, true, true, true, true, true, true, true, true, true, true, false, false, true, false, false, false, false, false, false, false, false, false, false, false, false, false, false, false]
def mB20 : Array Bool := #[true, true, true, true, true, true, true, true, true, true, true, true, true, true, true, true, true, true, true, true, false, true, false, false, false, false, false, false, false, false, false, false, false, false, false, false, false]
def mB21 : Array Bool := #[true, true, true, true, true, true, true, true, true, true, true, true, true, true, true, true, true, true, true, true, false, true, true, false, false, false, false, false, false, false, false, false, false, false, false, false, false]
def mB22 : Array Bool := #[true, true, true, true, true, true, true, true, true, true, true, true, true, true, true, true, true, true, true, true, false, true, true, true, false, false, false, false, false, false, false, false, false, false, false, false, false]
def mB23 : Array Bool := #[true, true, true, true, true, true, true, true, true, true, true, true, true, true, true, true, true, true, true, true, true, true, true, true, false, false, false, false, false, false, false, false, false, false, false, false, false]
def mB24 : Array Bool := #[true, true, true, true, true, true, true, true, true, true, true, true, true, true, true, true, true, true, true, true, true, true, true, true, true, false, false, false, false, false, false, false, false, false, false, false, false]
def mB25 : Array Bool := #[true, true, true, true, true, true, true, true, true, true, true, true, true, true, true, true, true, true, true, true, true, true, true, true, true, true, false, false, false, false, false, false, false, false, false, false, false]
def mB26 : Array Bool := #[true, true, true, true, true, true, true, true, true, true, true, true, true, true, true, true, true, true, true, true, true, true, true, true, true, true, true, false, false, false, false, false, false, false, false, false, false]
def mB27 : Array Bool := #[true, true, true, true, true, true, true, true, true, true, true, true, true, true, true, true, true, true, true, true, true, true, true, true, true, true, true, true, false, false, false, false, false, false, false, false, false]
def mB28 : Array Bool := #[true, true, true, true, true, true, true, true, true, true, true, true, true, true, true, true, true, true, true, true, true, true, true, true, true, true, true, true, true, false, false, false, false, false, false, false, false]
def mB29 : Array Bool := #[true, true, true, true, true, true, true, true, true, true, true, true, true, true, true, true, true, true, true, true, true, true, true, true, true, true, true, true, true, true, false, false, false, false, false, false, false]
def mB30 : Array Bool := #[true, true, true, true, true, true, true, true, true, true, true, true, true, true, true, true, true, true, true, true, true, true, true, true, true, true, true, true, true, true, true, false, false, false, false, false, false]
def mB31 : Array Bool := #[true, true, true, true, true, true, true, true, true, true, true, true, true, true, true, true, true, true, true, true, true, true, true, true, true, true, true, true, true, true, true, true, false, false, false, false, false]
def mB32 : Array Bool := #[true, true, true, true, true, true, true, true, true, true, true, true, true, true, true, true, true, true, true, true, true, true, true, true, true, true, true, true, true, true, true, true, true, false, false, false, false]
def mB33 : Array Bool := #[true, true, true, true, true, true, true, true, true, true, true, true, true, true, true, true, true, true, true, true, true, true, true, true, true, true, true, true, true, true, true, true, true, true, false, false, false]
def mB34 : Array Bool := #[true, true, true, true, true, true, true, true, true, true, true, true, true, true, true, true, true, true, true, true, true, true, true, true, true, true, true, true, true, true, true, true, true, true, true, false, false]
def mB35 : Array Bool := #[true, true, true, true, true, true, true, true, true, true, true, true, true, true, true, true, true, true, true, true, true, true, true, true, true, true, true, true, true, true, true, true, true, true, true, true, false]
def mB36 : Array Bool := #[true, true, true, true, true, true, true, true, true, true, true, true, true, true, true, true, true, true, true, true, true, true, true, true, true, true, true, true, true, true, true, true, true, true, true, true, true]
def mB37 : Array Bool := #[true, true, true, true, true, true, true, true, true, true, true, true, true, true, true, true, true, true, true, true, false, false, false, false, false, false, false, false, false, false, false, false, false, false, false, false, false]
def mB38 : Array Bool := #[true, true, true, true, true, true, true, true, true, true, true, true, true, true, true, true, true, true, true, true, true, false, false, false, false, false, false, false, false, false, false, false, false, false, false, false, false]
def mB39 : Array Bool := #[true, true, true, true, true, true, true, true, true, true, true, true, true, true, true, true, true, true, true, true, true, true, false, false, false, false, false, false, false, false, false, false, false, false, false, false, false]
def mB40 : Array Bool := #[true, true, true, true, true, true, true, true, true, true, true, true, true, true, true, true, true, true, true, true, true, true, true, false, false, false, false, false, false, false, false, false, false, false, false, false, false]
def mB41 : Array Bool := #[true, true, true, true, true, true, true, true, true, true, true, true, true, true, false, false, false, false, false, false, false, false, false, false, false, false, false, false, false, false, false, false, false, false, false, false, false]
def mB42 : Array Bool := #[true, true, true, true, true, true, true, true, true, true, true, true, true, true, true, false, false, false, false, false, false, false, false, false, false, false, false, false, false, false, false, false, false, false, false, false, false]
def mB43 : Array Bool := #[true, true, true, true, true, true, true, false, false, false, false, false, false, false, false, false, false, false, false, false, false, false, false, false, false, false, false, false, false, false, false, false, false, false, false, false, false]
def mB44 : Array Bool := #[true, true, true, true, true, true, true, true, false, false, false, false, false, false, false, false, false, false, false, false, false, false, false, false, false, false, false, false, false, false, false, false, false, false, false, false, false]

end Go.Proofs.Ytapiapkdiggboaa.B
