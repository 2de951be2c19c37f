/-
  No cell of these rows narrows 'for every input' (looked for: loops, veiled, ifaces, maps, wideKeys, modest, calm, conditions, laid).
  DERIVED. THE GIVEN ROWS OF THIS SEAT. 6 by the template 'for every input the law returns true; each argument reads behind the call as it read before'; 0 by the template 'total and deterministic' (their statements: YtigimkcppocodaaTotals.lean).
  GIVEN WITH THE SEED: the statements are not yours to turn. If you find one false, say at which input.
  Laid BY PROGRAM, IN A SANDBOX (cutbox-rows.mjs): the forced cells as the released guide's own fill.sh prints them over the translation 93aa8a131b93a1a0… (all of the seat's roots in one cut). By AI agents, Wed Nov 11 2026. No macro, syntax, notation, axiom, sorry.
-/
import Derived.Test.YtigimkcppocodaaChecked
import GoSem.Claim
import GoSem.ClaimJoined
import GoSem.ClaimMapViews
import Derived.JoinedTies
import Derived.KernelRfl
namespace Go.Proofs.Ytigimkcppocodaa
/- THE CELL 'sum', in the pinned program and in every row, IS THE sha256 OF THE DUMP (.gsa) THAT YtigimkcppocodaaProg.lean LOADS. Nothing in Lean hashes anything: it is a label: what it is worth is what the hold of that sum in a sandbox is worth. -/
noncomputable def Try.pinned : Pinned := { name := "ytigimkcppocodaa", sum := "93aa8a131b93a1a01e2b8095a1e33b02325a6ed1c4fe8e1cca70a9ea6c00f775", checked := Try.checked }
namespace Rows
def none {H : Type} : Left H := { results := [], args := [] }

/-- 'palingslaw19.MachSteps': WHATEVER THE INPUT: true; the input reads as it did. -/
def machStepsSpec : ChangeSpec := { name := "machSteps", fn := fun _ => fun
  | [d1, d2, d3] => { results := [.lit (.bool true)], args := [d1, d2, d3] }
  | _ => none }
def machStepsRow : OpenClaim := { program := "ytigimkcppocodaa", sum := "93aa8a131b93a1a01e2b8095a1e33b02325a6ed1c4fe8e1cca70a9ea6c00f775", func := "palings/palingslaw19.MachSteps", spec := "machSteps", unfollowed := true, recurses := true, apart := false }
def MachStepsSaid : Prop := machStepsRow.holds Try.pinned (OpenSpec.ofChange machStepsSpec)

/-- ITS FALSE NEIGHBOUR: 'it returns false'. Refute it at one input. -/
def machStepsWrong : ChangeSpec := { name := "machSteps", fn := fun _ => fun
  | [d1, d2, d3] => { results := [.lit (.bool false)], args := [d1, d2, d3] }
  | _ => none }
def MachStepsWrongFalsely : Prop := machStepsRow.holds Try.pinned (OpenSpec.ofChange machStepsWrong)

/-- 'palingslaw19.MachRuns': WHATEVER THE INPUT: true; the input reads as it did. -/
def machRunsSpec : ChangeSpec := { name := "machRuns", fn := fun _ => fun
  | [d1, d2, d3] => { results := [.lit (.bool true)], args := [d1, d2, d3] }
  | _ => none }
def machRunsRow : OpenClaim := { program := "ytigimkcppocodaa", sum := "93aa8a131b93a1a01e2b8095a1e33b02325a6ed1c4fe8e1cca70a9ea6c00f775", func := "palings/palingslaw19.MachRuns", spec := "machRuns", unfollowed := true, recurses := true, apart := false }
def MachRunsSaid : Prop := machRunsRow.holds Try.pinned (OpenSpec.ofChange machRunsSpec)

/-- ITS FALSE NEIGHBOUR: 'it returns false'. Refute it at one input. -/
def machRunsWrong : ChangeSpec := { name := "machRuns", fn := fun _ => fun
  | [d1, d2, d3] => { results := [.lit (.bool false)], args := [d1, d2, d3] }
  | _ => none }
def MachRunsWrongFalsely : Prop := machRunsRow.holds Try.pinned (OpenSpec.ofChange machRunsWrong)

/-- 'palingslaw19.MachWords': WHATEVER THE INPUT: true; the input reads as it did. -/
def machWordsSpec : ChangeSpec := { name := "machWords", fn := fun _ => fun
  | [d1, d2, d3] => { results := [.lit (.bool true)], args := [d1, d2, d3] }
  | _ => none }
def machWordsRow : OpenClaim := { program := "ytigimkcppocodaa", sum := "93aa8a131b93a1a01e2b8095a1e33b02325a6ed1c4fe8e1cca70a9ea6c00f775", func := "palings/palingslaw19.MachWords", spec := "machWords", unfollowed := true, recurses := true, apart := false }
def MachWordsSaid : Prop := machWordsRow.holds Try.pinned (OpenSpec.ofChange machWordsSpec)

/-- ITS FALSE NEIGHBOUR: 'it returns false'. Refute it at one input. -/
def machWordsWrong : ChangeSpec := { name := "machWords", fn := fun _ => fun
  | [d1, d2, d3] => { results := [.lit (.bool false)], args := [d1, d2, d3] }
  | _ => none }
def MachWordsWrongFalsely : Prop := machWordsRow.holds Try.pinned (OpenSpec.ofChange machWordsWrong)

/-- 'palingslaw19.MachTwo': WHATEVER THE INPUT: true; the input reads as it did. -/
def machTwoSpec : ChangeSpec := { name := "machTwo", fn := fun _ => fun
  | [d1, d2, d3, d4] => { results := [.lit (.bool true)], args := [d1, d2, d3, d4] }
  | _ => none }
def machTwoRow : OpenClaim := { program := "ytigimkcppocodaa", sum := "93aa8a131b93a1a01e2b8095a1e33b02325a6ed1c4fe8e1cca70a9ea6c00f775", func := "palings/palingslaw19.MachTwo", spec := "machTwo", unfollowed := true, recurses := true, apart := false }
def MachTwoSaid : Prop := machTwoRow.holds Try.pinned (OpenSpec.ofChange machTwoSpec)

/-- ITS FALSE NEIGHBOUR: 'it returns false'. Refute it at one input. -/
def machTwoWrong : ChangeSpec := { name := "machTwo", fn := fun _ => fun
  | [d1, d2, d3, d4] => { results := [.lit (.bool false)], args := [d1, d2, d3, d4] }
  | _ => none }
def MachTwoWrongFalsely : Prop := machTwoRow.holds Try.pinned (OpenSpec.ofChange machTwoWrong)

/-- 'palingslaw19.MachCalls': WHATEVER THE INPUT: true; the input reads as it did. -/
def machCallsSpec : ChangeSpec := { name := "machCalls", fn := fun _ => fun
  | [d1, d2] => { results := [.lit (.bool true)], args := [d1, d2] }
  | _ => none }
def machCallsRow : OpenClaim := { program := "ytigimkcppocodaa", sum := "93aa8a131b93a1a01e2b8095a1e33b02325a6ed1c4fe8e1cca70a9ea6c00f775", func := "palings/palingslaw19.MachCalls", spec := "machCalls", unfollowed := true, recurses := true, apart := false }
def MachCallsSaid : Prop := machCallsRow.holds Try.pinned (OpenSpec.ofChange machCallsSpec)

/-- ITS FALSE NEIGHBOUR: 'it returns false'. Refute it at one input. -/
def machCallsWrong : ChangeSpec := { name := "machCalls", fn := fun _ => fun
  | [d1, d2] => { results := [.lit (.bool false)], args := [d1, d2] }
  | _ => none }
def MachCallsWrongFalsely : Prop := machCallsRow.holds Try.pinned (OpenSpec.ofChange machCallsWrong)

/-- 'palingslaw19.MachStops': WHATEVER THE INPUT: true; the input reads as it did. -/
def machStopsSpec : ChangeSpec := { name := "machStops", fn := fun _ => fun
  | [d1, d2, d3, d4] => { results := [.lit (.bool true)], args := [d1, d2, d3, d4] }
  | _ => none }
def machStopsRow : OpenClaim := { program := "ytigimkcppocodaa", sum := "93aa8a131b93a1a01e2b8095a1e33b02325a6ed1c4fe8e1cca70a9ea6c00f775", func := "palings/palingslaw19.MachStops", spec := "machStops", unfollowed := true, recurses := true, apart := false }
def MachStopsSaid : Prop := machStopsRow.holds Try.pinned (OpenSpec.ofChange machStopsSpec)

/-- ITS FALSE NEIGHBOUR: 'it returns false'. Refute it at one input. -/
def machStopsWrong : ChangeSpec := { name := "machStops", fn := fun _ => fun
  | [d1, d2, d3, d4] => { results := [.lit (.bool false)], args := [d1, d2, d3, d4] }
  | _ => none }
def MachStopsWrongFalsely : Prop := machStopsRow.holds Try.pinned (OpenSpec.ofChange machStopsWrong)

/- THE SECOND FORM. 'bulk': how many values and letters a reading holds, each counted each time it is reached (what is shared counts as often as it is met; a slice's spare places count too). A statement '..UptoSaid' is the law's where the arguments, and the package variables that the reading takes, are together of bulk at most 1048576: NARROWER than '..Said'. Prove '..Said' where nothing that the law and all that it calls make is longer than what came in: it says more and counts as full. Else prove '..UptoSaid'. A law counts once. -/
mutual
def uptoBulk {H : Type} : DataW H → Nat
  | .lit (.string bytes) => bytes.length + 1
  | .lit _ => 1
  | .nil => 1
  | .ptr d => uptoBulk d + 1
  | .slice elems spare => uptoBulkAll elems + uptoBulkAll spare + 1
  | .agg parts => uptoBulkAll parts + 1
  | .iface _ d => uptoBulk d + 1
  | .map entries => uptoBulkEntries entries + 1
  | .held _ => 1
def uptoBulkAll {H : Type} : List (DataW H) → Nat
  | [] => 0
  | d :: r => uptoBulk d + uptoBulkAll r
def uptoBulkEntries {H : Type} : List (Lit × DataW H) → Nat
  | [] => 0
  | x :: r => uptoBulkEntry x + uptoBulkEntries r
def uptoBulkEntry {H : Type} : Lit × DataW H → Nat
  | (.string bytes, d) => bytes.length + uptoBulk d + 1
  | (_, d) => uptoBulk d + 1
 end
def uptoSmall : (H : Type) → List (DataW H) → Bool := fun _ ds => decide (uptoBulkAll ds ≤ 1048576)
def OpenSpec.upto (s : _root_.Go.ChangeSpec) : _root_.Go.OpenSpec := { _root_.Go.OpenSpec.ofChange s with cond := some uptoSmall }

/-- 'palingslaw19.MachSteps', WHERE WHAT IT READS IS OF BULK AT MOST 1048576: true; the input reads as it did. -/
def machStepsUptoRow : OpenClaim := { program := "ytigimkcppocodaa", sum := "93aa8a131b93a1a01e2b8095a1e33b02325a6ed1c4fe8e1cca70a9ea6c00f775", func := "palings/palingslaw19.MachSteps", spec := "machSteps", unfollowed := true, recurses := true, apart := false, narrowed := true }
def MachStepsUptoSaid : Prop := machStepsUptoRow.holds Try.pinned (OpenSpec.upto machStepsSpec)

/-- 'palingslaw19.MachRuns', WHERE WHAT IT READS IS OF BULK AT MOST 1048576: true; the input reads as it did. -/
def machRunsUptoRow : OpenClaim := { program := "ytigimkcppocodaa", sum := "93aa8a131b93a1a01e2b8095a1e33b02325a6ed1c4fe8e1cca70a9ea6c00f775", func := "palings/palingslaw19.MachRuns", spec := "machRuns", unfollowed := true, recurses := true, apart := false, narrowed := true }
def MachRunsUptoSaid : Prop := machRunsUptoRow.holds Try.pinned (OpenSpec.upto machRunsSpec)

/-- 'palingslaw19.MachWords', WHERE WHAT IT READS IS OF BULK AT MOST 1048576: true; the input reads as it did. -/
def machWordsUptoRow : OpenClaim := { program := "ytigimkcppocodaa", sum := "93aa8a131b93a1a01e2b8095a1e33b02325a6ed1c4fe8e1cca70a9ea6c00f775", func := "palings/palingslaw19.MachWords", spec := "machWords", unfollowed := true, recurses := true, apart := false, narrowed := true }
def MachWordsUptoSaid : Prop := machWordsUptoRow.holds Try.pinned (OpenSpec.upto machWordsSpec)

/-- 'palingslaw19.MachTwo', WHERE WHAT IT READS IS OF BULK AT MOST 1048576: true; the input reads as it did. -/
def machTwoUptoRow : OpenClaim := { program := "ytigimkcppocodaa", sum := "93aa8a131b93a1a01e2b8095a1e33b02325a6ed1c4fe8e1cca70a9ea6c00f775", func := "palings/palingslaw19.MachTwo", spec := "machTwo", unfollowed := true, recurses := true, apart := false, narrowed := true }
def MachTwoUptoSaid : Prop := machTwoUptoRow.holds Try.pinned (OpenSpec.upto machTwoSpec)

/-- 'palingslaw19.MachCalls', WHERE WHAT IT READS IS OF BULK AT MOST 1048576: true; the input reads as it did. -/
def machCallsUptoRow : OpenClaim := { program := "ytigimkcppocodaa", sum := "93aa8a131b93a1a01e2b8095a1e33b02325a6ed1c4fe8e1cca70a9ea6c00f775", func := "palings/palingslaw19.MachCalls", spec := "machCalls", unfollowed := true, recurses := true, apart := false, narrowed := true }
def MachCallsUptoSaid : Prop := machCallsUptoRow.holds Try.pinned (OpenSpec.upto machCallsSpec)

/-- 'palingslaw19.MachStops', WHERE WHAT IT READS IS OF BULK AT MOST 1048576: true; the input reads as it did. -/
def machStopsUptoRow : OpenClaim := { program := "ytigimkcppocodaa", sum := "93aa8a131b93a1a01e2b8095a1e33b02325a6ed1c4fe8e1cca70a9ea6c00f775", func := "palings/palingslaw19.MachStops", spec := "machStops", unfollowed := true, recurses := true, apart := false, narrowed := true }
def MachStopsUptoSaid : Prop := machStopsUptoRow.holds Try.pinned (OpenSpec.upto machStopsSpec)

end Rows
end Go.Proofs.Ytigimkcppocodaa
