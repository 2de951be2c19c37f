/- ImageArrays: the law for any three numbers. -/
import Derived.Test.YteabbcnoamhofaaArraysPure
namespace Go.Proofs.Yteabbcnoamhofaa.B
open Go.RowKit Go.Proofs.Yteabbcnoamhofaa.Mine
set_option linter.unusedVariables false
theorem arrays_walk (a b c : Int) (W : World) (h0 : (Lit.int .i64 a).wf = true) (h1 : (Lit.int .i64 b).wf = true) (h2 : (Lit.int .i64 c).wf = true) :
    Calls Try.prog 3 #[.int .i64 a, .int .i64 b, .int .i64 c] W fun e w' => e = .returned (.bool true) ∧ Below W.heap.size W w' := by
  obtain ⟨k, hk⟩ := ImageArrays_true a b c
  exact palingslaw18_ImageArrays.calls k a b c true W hk
end Go.Proofs.Yteabbcnoamhofaa.B
