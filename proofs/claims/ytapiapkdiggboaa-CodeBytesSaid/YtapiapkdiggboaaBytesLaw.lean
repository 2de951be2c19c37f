/- CodeBytes: the law for any instruction. -/
import Derived.Test.YtapiapkdiggboaaCodeLaws
import Derived.Test.YtapiapkdiggboaaOpenIns
import Derived.Test.YtapiapkdiggboaaBytesWalk
namespace Go.Proofs.Ytapiapkdiggboaa.B
open Go.RowKit Go.Proofs.Ytapiapkdiggboaa.Mine Go.Proofs.YtapiapkdiggboaaW.PrintWords Go.Proofs.YtapiapkdiggboaaW.PrintLast Go.Proofs.YtapiapkdiggboaaW.PrintMore
set_option linter.unusedVariables false
theorem CodeBytes_true (op d a b bin imm : Int) (hi : -9223372036854775808 ≤ imm ∧ imm ≤ 9223372036854775807) : palingslaw17_CodeBytes.f 20 op d a b bin imm = some true := by
  unfold palingslaw17_CodeBytes.f
  rw [head_f]
  simp only [Option.bind_some, if_true, encode_f, code_Ins_Right.f, palingslaw17_right.f, bytes_f, bne_self_eq_false, Bool.false_eq_true, if_false]
  by_cases h : rightB op d a b bin imm = true
  · simp only [if_pos h, Option.bind_some, decode_bytes h hi, if_true]
    simp
  · simp only [if_neg h, Option.bind_some]
    rfl
theorem bytes_walk {H : Type} {enc : TypeId × Value → H} {d : DataW H} {p : List MemPlace} (v : Value) (W : World) (h : Arg enc Try.prog W 25 v d p) :
    Calls Try.prog 3 #[v] W fun e w' => e = .returned (.bool true) ∧ Below W.heap.size W w' := by
  obtain ⟨op, d, a, b, bin, imm, rfl, _, _, _, _, _, hw⟩ := open_ins h
  exact palingslaw17_CodeBytes.calls 20 op d a b bin imm true W (CodeBytes_true op d a b bin imm (i64_bounds hw))
end Go.Proofs.Ytapiapkdiggboaa.B
