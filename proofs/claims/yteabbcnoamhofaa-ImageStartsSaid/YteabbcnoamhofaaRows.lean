/-
  No cell of these rows narrows 'for every input' (looked for: loops, veiled, ifaces, maps, wideKeys, modest, calm, conditions, laid).
  DERIVED. THE GIVEN ROWS OF THIS SEAT. 4 by the template 'for every input the law returns true; each argument reads behind the call as it read before'; 0 by the template 'total and deterministic' (their statements: YteabbcnoamhofaaTotals.lean).
  GIVEN WITH THE SEED: the statements are not yours to turn. If you find one false, say at which input.
  Laid BY PROGRAM, IN A SANDBOX (cutbox-rows.mjs): the forced cells as the released guide's own fill.sh prints them over the translation 4f1f56639c7b2d8b… (all of the seat's roots in one cut). By AI agents, Wed Nov 11 2026. No macro, syntax, notation, axiom, sorry.
-/
import Derived.Test.YteabbcnoamhofaaChecked
import GoSem.Claim
import GoSem.ClaimJoined
import GoSem.ClaimMapViews
import Derived.JoinedTies
import Derived.KernelRfl
namespace Go.Proofs.Yteabbcnoamhofaa
/- THE CELL 'sum', in the pinned program and in every row, IS THE sha256 OF THE DUMP (.gsa) THAT YteabbcnoamhofaaProg.lean LOADS. Nothing in Lean hashes anything: it is a label: what it is worth is what the hold of that sum in a sandbox is worth. -/
noncomputable def Try.pinned : Pinned := { name := "yteabbcnoamhofaa", sum := "4f1f56639c7b2d8b2b8118c455372836b7d04689156f59e53fbc5d588db11b72", checked := Try.checked }
namespace Rows
def none {H : Type} : Left H := { results := [], args := [] }

/-- 'palingslaw18.ImageArrays': WHATEVER THE INPUT: true; the input reads as it did. -/
def imageArraysSpec : ChangeSpec := { name := "imageArrays", fn := fun _ => fun
  | [d1, d2, d3] => { results := [.lit (.bool true)], args := [d1, d2, d3] }
  | _ => none }
def imageArraysRow : OpenClaim := { program := "yteabbcnoamhofaa", sum := "4f1f56639c7b2d8b2b8118c455372836b7d04689156f59e53fbc5d588db11b72", func := "palings/palingslaw18.ImageArrays", spec := "imageArrays", apart := false }
def ImageArraysSaid : Prop := imageArraysRow.holds Try.pinned (OpenSpec.ofChange imageArraysSpec)

/-- ITS FALSE NEIGHBOUR: 'it returns false'. Refute it at one input. -/
def imageArraysWrong : ChangeSpec := { name := "imageArrays", fn := fun _ => fun
  | [d1, d2, d3] => { results := [.lit (.bool false)], args := [d1, d2, d3] }
  | _ => none }
def ImageArraysWrongFalsely : Prop := imageArraysRow.holds Try.pinned (OpenSpec.ofChange imageArraysWrong)

/-- 'palingslaw18.ImageStarts': WHATEVER THE INPUT: true; the input reads as it did. -/
def imageStartsSpec : ChangeSpec := { name := "imageStarts", fn := fun _ => fun
  | [d1, d2] => { results := [.lit (.bool true)], args := [d1, d2] }
  | _ => none }
def imageStartsRow : OpenClaim := { program := "yteabbcnoamhofaa", sum := "4f1f56639c7b2d8b2b8118c455372836b7d04689156f59e53fbc5d588db11b72", func := "palings/palingslaw18.ImageStarts", spec := "imageStarts", apart := false }
def ImageStartsSaid : Prop := imageStartsRow.holds Try.pinned (OpenSpec.ofChange imageStartsSpec)

/-- ITS FALSE NEIGHBOUR: 'it returns false'. Refute it at one input. -/
def imageStartsWrong : ChangeSpec := { name := "imageStarts", fn := fun _ => fun
  | [d1, d2] => { results := [.lit (.bool false)], args := [d1, d2] }
  | _ => none }
def ImageStartsWrongFalsely : Prop := imageStartsRow.holds Try.pinned (OpenSpec.ofChange imageStartsWrong)

/-- 'palingslaw18.ImageReads': WHATEVER THE INPUT: true; the input reads as it did. -/
def imageReadsSpec : ChangeSpec := { name := "imageReads", fn := fun _ => fun
  | [d] => { results := [.lit (.bool true)], args := [d] }
  | _ => none }
def imageReadsRow : OpenClaim := { program := "yteabbcnoamhofaa", sum := "4f1f56639c7b2d8b2b8118c455372836b7d04689156f59e53fbc5d588db11b72", func := "palings/palingslaw18.ImageReads", spec := "imageReads", unfollowed := true, recurses := true, apart := false }
def ImageReadsSaid : Prop := imageReadsRow.holds Try.pinned (OpenSpec.ofChange imageReadsSpec)

/-- ITS FALSE NEIGHBOUR: 'it returns false'. Refute it at one input. -/
def imageReadsWrong : ChangeSpec := { name := "imageReads", fn := fun _ => fun
  | [d] => { results := [.lit (.bool false)], args := [d] }
  | _ => none }
def ImageReadsWrongFalsely : Prop := imageReadsRow.holds Try.pinned (OpenSpec.ofChange imageReadsWrong)

/-- 'palingslaw18.ImageCuts': WHATEVER THE INPUT: true; the input reads as it did. -/
def imageCutsSpec : ChangeSpec := { name := "imageCuts", fn := fun _ => fun
  | [d1, d2, d3] => { results := [.lit (.bool true)], args := [d1, d2, d3] }
  | _ => none }
def imageCutsRow : OpenClaim := { program := "yteabbcnoamhofaa", sum := "4f1f56639c7b2d8b2b8118c455372836b7d04689156f59e53fbc5d588db11b72", func := "palings/palingslaw18.ImageCuts", spec := "imageCuts", apart := false }
def ImageCutsSaid : Prop := imageCutsRow.holds Try.pinned (OpenSpec.ofChange imageCutsSpec)

/-- ITS FALSE NEIGHBOUR: 'it returns false'. Refute it at one input. -/
def imageCutsWrong : ChangeSpec := { name := "imageCuts", fn := fun _ => fun
  | [d1, d2, d3] => { results := [.lit (.bool false)], args := [d1, d2, d3] }
  | _ => none }
def ImageCutsWrongFalsely : Prop := imageCutsRow.holds Try.pinned (OpenSpec.ofChange imageCutsWrong)

/- THE SECOND FORM. 'bulk': how many values and letters a reading holds, each counted each time it is reached (what is shared counts as often as it is met; a slice's spare places count too). A statement '..UptoSaid' is the law's where the arguments, and the package variables that the reading takes, are together of bulk at most 1048576: NARROWER than '..Said'. Prove '..Said' where nothing that the law and all that it calls make is longer than what came in: it says more and counts as full. Else prove '..UptoSaid'. A law counts once. -/
mutual
def uptoBulk {H : Type} : DataW H → Nat
  | .lit (.string bytes) => bytes.length + 1
  | .lit _ => 1
  | .nil => 1
  | .ptr d => uptoBulk d + 1
  | .slice elems spare => uptoBulkAll elems + uptoBulkAll spare + 1
  | .agg parts => uptoBulkAll parts + 1
  | .iface _ d => uptoBulk d + 1
  | .map entries => uptoBulkEntries entries + 1
  | .held _ => 1
def uptoBulkAll {H : Type} : List (DataW H) → Nat
  | [] => 0
  | d :: r => uptoBulk d + uptoBulkAll r
def uptoBulkEntries {H : Type} : List (Lit × DataW H) → Nat
  | [] => 0
  | x :: r => uptoBulkEntry x + uptoBulkEntries r
def uptoBulkEntry {H : Type} : Lit × DataW H → Nat
  | (.string bytes, d) => bytes.length + uptoBulk d + 1
  | (_, d) => uptoBulk d + 1
 end
def uptoSmall : (H : Type) → List (DataW H) → Bool := fun _ ds => decide (uptoBulkAll ds ≤ 1048576)
def OpenSpec.upto (s : _root_.Go.ChangeSpec) : _root_.Go.OpenSpec := { _root_.Go.OpenSpec.ofChange s with cond := some uptoSmall }

/-- 'palingslaw18.ImageArrays', WHERE WHAT IT READS IS OF BULK AT MOST 1048576: true; the input reads as it did. -/
def imageArraysUptoRow : OpenClaim := { program := "yteabbcnoamhofaa", sum := "4f1f56639c7b2d8b2b8118c455372836b7d04689156f59e53fbc5d588db11b72", func := "palings/palingslaw18.ImageArrays", spec := "imageArrays", apart := false, narrowed := true }
def ImageArraysUptoSaid : Prop := imageArraysUptoRow.holds Try.pinned (OpenSpec.upto imageArraysSpec)

/-- 'palingslaw18.ImageStarts', WHERE WHAT IT READS IS OF BULK AT MOST 1048576: true; the input reads as it did. -/
def imageStartsUptoRow : OpenClaim := { program := "yteabbcnoamhofaa", sum := "4f1f56639c7b2d8b2b8118c455372836b7d04689156f59e53fbc5d588db11b72", func := "palings/palingslaw18.ImageStarts", spec := "imageStarts", apart := false, narrowed := true }
def ImageStartsUptoSaid : Prop := imageStartsUptoRow.holds Try.pinned (OpenSpec.upto imageStartsSpec)

/-- 'palingslaw18.ImageReads', WHERE WHAT IT READS IS OF BULK AT MOST 1048576: true; the input reads as it did. -/
def imageReadsUptoRow : OpenClaim := { program := "yteabbcnoamhofaa", sum := "4f1f56639c7b2d8b2b8118c455372836b7d04689156f59e53fbc5d588db11b72", func := "palings/palingslaw18.ImageReads", spec := "imageReads", unfollowed := true, recurses := true, apart := false, narrowed := true }
def ImageReadsUptoSaid : Prop := imageReadsUptoRow.holds Try.pinned (OpenSpec.upto imageReadsSpec)

/-- 'palingslaw18.ImageCuts', WHERE WHAT IT READS IS OF BULK AT MOST 1048576: true; the input reads as it did. -/
def imageCutsUptoRow : OpenClaim := { program := "yteabbcnoamhofaa", sum := "4f1f56639c7b2d8b2b8118c455372836b7d04689156f59e53fbc5d588db11b72", func := "palings/palingslaw18.ImageCuts", spec := "imageCuts", apart := false, narrowed := true }
def ImageCutsUptoSaid : Prop := imageCutsUptoRow.holds Try.pinned (OpenSpec.upto imageCutsSpec)

end Rows
end Go.Proofs.Yteabbcnoamhofaa
