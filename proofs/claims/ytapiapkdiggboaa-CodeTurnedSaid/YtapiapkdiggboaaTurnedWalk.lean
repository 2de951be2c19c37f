/- CodeTurned: the law for any instruction, place and bits. -/
import Derived.Test.YtapiapkdiggboaaCodeLaws
import Derived.Test.YtapiapkdiggboaaOpenIns
namespace Go.Proofs.Ytapiapkdiggboaa.B
open Go.RowKit Go.Proofs.Ytapiapkdiggboaa.Mine
set_option linter.unusedVariables false
theorem turned_walk {H : Type} {enc : TypeId × Value → H} {d : DataW H} {p : List MemPlace} (v : Value) (at_ bits : Int) (W : World) (h : Arg enc Try.prog W 25 v d p) (h1 : (Lit.int .i64 at_).wf = true) (h2 : (Lit.int .u8 bits).wf = true) :
    Calls Try.prog 6 #[v, .int .i64 at_, .int .u8 bits] W fun e w' => e = .returned (.bool true) ∧ Below W.heap.size W w' := by
  obtain ⟨op, d, a, b, bin, imm, rfl, _⟩ := open_ins h
  have hb := u8_bounds h2
  exact palingslaw17_CodeTurned.calls 20 op d a b bin imm at_ bits true W (CodeTurned_true op d a b bin imm at_ bits hb.1 hb.2)
end Go.Proofs.Ytapiapkdiggboaa.B
