/- CodeParts: the plain law. -/
import Derived.Test.YtapiapkdiggboaaCodeLaws
import Derived.Test.YtapiapkdiggboaaPartsF
namespace Go.Proofs.Ytapiapkdiggboaa.B
open Go.RowKit Go.Proofs.Ytapiapkdiggboaa.Mine Go.Proofs.YtapiapkdiggboaaW.PrintWords Go.Proofs.YtapiapkdiggboaaW.PrintLast Go.Proofs.YtapiapkdiggboaaW.PrintMore
set_option linter.unusedVariables false
set_option linter.unusedSimpArgs false
theorem pw1 : wrap64 1 = 1 := by decide +kernel
theorem pw2 : wrap64 2 = 2 := by decide +kernel
theorem same0 : palingslaw17_PartsSame.f 19 [] [] = some true := by
  simp [palingslaw17_PartsSame.f, palingslaw17_PartsSame.l0]
theorem same1 (x : Int) : palingslaw17_PartsSame.f 19 [x] [x] = some true := by
  simp [palingslaw17_PartsSame.f, palingslaw17_PartsSame.l0, pw1]
theorem same2 (x y : Int) : palingslaw17_PartsSame.f 19 [x, y] [x, y] = some true := by
  simp [palingslaw17_PartsSame.f, palingslaw17_PartsSame.l0, pw1, pw2]
theorem CodeParts_true (op d a b bin imm : Int) : palingslaw17_CodeParts.f 20 op d a b bin imm = some true := by
  unfold palingslaw17_CodeParts.f
  rw [head_f]
  simp only [Option.bind_some, if_true, palingslaw17_right.f]
  by_cases h : rightB op d a b bin imm = true
  · have r := right_ranges h
    rw [if_pos h]
    have ho : op = 1 ∨ op = 2 ∨ op = 3 ∨ op = 4 ∨ op = 5 ∨ op = 6 ∨ op = 7 ∨ op = 8 ∨ op = 9 ∨ op = 10 ∨ op = 11 ∨ op = 12 := by omega
    clear h r
    by_cases h4 : bin = 4
    · rcases ho with rfl | rfl | rfl | rfl | rfl | rfl | rfl | rfl | rfl | rfl | rfl | rfl
      all_goals simp [h4, palingslaw17_CodeParts.j0, code_Ins_Reads.f, code_Ins_Turns.f, code_Ins_Shows.f, code_Ins_Shows.j0, code_Ins_Goes.f, code_parts.f, code_parts.j0, word_Op_Divides.f, same0, same1, same2]
    · by_cases h5 : bin = 5
      · rcases ho with rfl | rfl | rfl | rfl | rfl | rfl | rfl | rfl | rfl | rfl | rfl | rfl
        all_goals simp [h5, palingslaw17_CodeParts.j0, code_Ins_Reads.f, code_Ins_Turns.f, code_Ins_Shows.f, code_Ins_Shows.j0, code_Ins_Goes.f, code_parts.f, code_parts.j0, word_Op_Divides.f, same0, same1, same2]
      · rcases ho with rfl | rfl | rfl | rfl | rfl | rfl | rfl | rfl | rfl | rfl | rfl | rfl
        all_goals simp [h4, h5, palingslaw17_CodeParts.j0, code_Ins_Reads.f, code_Ins_Turns.f, code_Ins_Shows.f, code_Ins_Shows.j0, code_Ins_Goes.f, code_parts.f, code_parts.j0, word_Op_Divides.f, same0, same1, same2]
  · rw [if_neg h]
end Go.Proofs.Ytapiapkdiggboaa.B
