/- CodeParts: the law for any instruction. -/
import Derived.Test.YtapiapkdiggboaaPartsPure
import Derived.Test.YtapiapkdiggboaaOpenIns
import Derived.Test.YtapiapkdiggboaaPartsWalk
namespace Go.Proofs.Ytapiapkdiggboaa.B
open Go.RowKit Go.Proofs.Ytapiapkdiggboaa.Mine
set_option linter.unusedVariables false
theorem parts_walk {H : Type} {enc : TypeId × Value → H} {d : DataW H} {p : List MemPlace} (v : Value) (W : World) (h : Arg enc Try.prog W 25 v d p) :
    Calls Try.prog 7 #[v] W fun e w' => e = .returned (.bool true) ∧ Below W.heap.size W w' := by
  obtain ⟨op, d, a, b, bin, imm, rfl, _⟩ := open_ins h
  exact palingslaw17_CodeParts.calls 20 op d a b bin imm true W (CodeParts_true op d a b bin imm)
end Go.Proofs.Ytapiapkdiggboaa.B
