/-
  No cell of these rows narrows 'for every input' (looked for: loops, veiled, ifaces, maps, wideKeys, modest, calm, conditions, laid).
  DERIVED. THE GIVEN ROWS OF THIS SEAT. 6 by the template 'for every input the law returns true; each argument reads behind the call as it read before'; 0 by the template 'total and deterministic' (their statements: YtiafbpbbhgpjkaaTotals.lean).
  GIVEN WITH THE SEED: the statements are not yours to turn. If you find one false, say at which input.
  Laid BY PROGRAM, IN A SANDBOX (cutbox-rows.mjs): the forced cells as the released guide's own fill.sh prints them over the translation 8cf94b8354a60deb… (all of the seat's roots in one cut). By AI agents, Wed Nov 11 2026. No macro, syntax, notation, axiom, sorry.
-/
import Derived.Test.YtiafbpbbhgpjkaaChecked
import GoSem.Claim
import GoSem.ClaimJoined
import GoSem.ClaimMapViews
import Derived.JoinedTies
import Derived.KernelRfl
namespace Go.Proofs.Ytiafbpbbhgpjkaa
/- THE CELL 'sum', in the pinned program and in every row, IS THE sha256 OF THE DUMP (.gsa) THAT YtiafbpbbhgpjkaaProg.lean LOADS. Nothing in Lean hashes anything: it is a label: what it is worth is what the hold of that sum in a sandbox is worth. -/
noncomputable def Try.pinned : Pinned := { name := "ytiafbpbbhgpjkaa", sum := "8cf94b8354a60debd5a3ca3f33e318dfc5c7fc6d5e415a3ec2d5694dab404c5c", checked := Try.checked }
namespace Rows
def none {H : Type} : Left H := { results := [], args := [] }

/-- 'palingslaw20.SpecHonest': WHATEVER THE INPUT: true; the input reads as it did. -/
def specHonestSpec : ChangeSpec := { name := "specHonest", fn := fun _ => fun
  | [d1, d2, d3, d4] => { results := [.lit (.bool true)], args := [d1, d2, d3, d4] }
  | _ => none }
def specHonestRow : OpenClaim := { program := "ytiafbpbbhgpjkaa", sum := "8cf94b8354a60debd5a3ca3f33e318dfc5c7fc6d5e415a3ec2d5694dab404c5c", func := "palings/palingslaw20.SpecHonest", spec := "specHonest", unfollowed := true, recurses := true, apart := false }
def SpecHonestSaid : Prop := specHonestRow.holds Try.pinned (OpenSpec.ofChange specHonestSpec)

/-- ITS FALSE NEIGHBOUR: 'it returns false'. Refute it at one input. -/
def specHonestWrong : ChangeSpec := { name := "specHonest", fn := fun _ => fun
  | [d1, d2, d3, d4] => { results := [.lit (.bool false)], args := [d1, d2, d3, d4] }
  | _ => none }
def SpecHonestWrongFalsely : Prop := specHonestRow.holds Try.pinned (OpenSpec.ofChange specHonestWrong)

/-- 'palingslaw20.SpecGuess': WHATEVER THE INPUT: true; the input reads as it did. -/
def specGuessSpec : ChangeSpec := { name := "specGuess", fn := fun _ => fun
  | [d1, d2, d3, d4] => { results := [.lit (.bool true)], args := [d1, d2, d3, d4] }
  | _ => none }
def specGuessRow : OpenClaim := { program := "ytiafbpbbhgpjkaa", sum := "8cf94b8354a60debd5a3ca3f33e318dfc5c7fc6d5e415a3ec2d5694dab404c5c", func := "palings/palingslaw20.SpecGuess", spec := "specGuess", unfollowed := true, recurses := true, apart := false }
def SpecGuessSaid : Prop := specGuessRow.holds Try.pinned (OpenSpec.ofChange specGuessSpec)

/-- ITS FALSE NEIGHBOUR: 'it returns false'. Refute it at one input. -/
def specGuessWrong : ChangeSpec := { name := "specGuess", fn := fun _ => fun
  | [d1, d2, d3, d4] => { results := [.lit (.bool false)], args := [d1, d2, d3, d4] }
  | _ => none }
def SpecGuessWrongFalsely : Prop := specGuessRow.holds Try.pinned (OpenSpec.ofChange specGuessWrong)

/-- 'palingslaw20.SpecSame': WHATEVER THE INPUT: true; the input reads as it did. -/
def specSameSpec : ChangeSpec := { name := "specSame", fn := fun _ => fun
  | [d1, d2, d3, d4] => { results := [.lit (.bool true)], args := [d1, d2, d3, d4] }
  | _ => none }
def specSameRow : OpenClaim := { program := "ytiafbpbbhgpjkaa", sum := "8cf94b8354a60debd5a3ca3f33e318dfc5c7fc6d5e415a3ec2d5694dab404c5c", func := "palings/palingslaw20.SpecSame", spec := "specSame", unfollowed := true, recurses := true, apart := false }
def SpecSameSaid : Prop := specSameRow.holds Try.pinned (OpenSpec.ofChange specSameSpec)

/-- ITS FALSE NEIGHBOUR: 'it returns false'. Refute it at one input. -/
def specSameWrong : ChangeSpec := { name := "specSame", fn := fun _ => fun
  | [d1, d2, d3, d4] => { results := [.lit (.bool false)], args := [d1, d2, d3, d4] }
  | _ => none }
def SpecSameWrongFalsely : Prop := specSameRow.holds Try.pinned (OpenSpec.ofChange specSameWrong)

/-- 'palingslaw20.SpecKnows': WHATEVER THE INPUT: true; the input reads as it did. -/
def specKnowsSpec : ChangeSpec := { name := "specKnows", fn := fun _ => fun
  | [d1, d2, d3, d4] => { results := [.lit (.bool true)], args := [d1, d2, d3, d4] }
  | _ => none }
def specKnowsRow : OpenClaim := { program := "ytiafbpbbhgpjkaa", sum := "8cf94b8354a60debd5a3ca3f33e318dfc5c7fc6d5e415a3ec2d5694dab404c5c", func := "palings/palingslaw20.SpecKnows", spec := "specKnows", unfollowed := true, recurses := true, apart := false }
def SpecKnowsSaid : Prop := specKnowsRow.holds Try.pinned (OpenSpec.ofChange specKnowsSpec)

/-- ITS FALSE NEIGHBOUR: 'it returns false'. Refute it at one input. -/
def specKnowsWrong : ChangeSpec := { name := "specKnows", fn := fun _ => fun
  | [d1, d2, d3, d4] => { results := [.lit (.bool false)], args := [d1, d2, d3, d4] }
  | _ => none }
def SpecKnowsWrongFalsely : Prop := specKnowsRow.holds Try.pinned (OpenSpec.ofChange specKnowsWrong)

/-- 'palingslaw20.SpecEnds': WHATEVER THE INPUT: true; the input reads as it did. -/
def specEndsSpec : ChangeSpec := { name := "specEnds", fn := fun _ => fun
  | [d1, d2, d3, d4] => { results := [.lit (.bool true)], args := [d1, d2, d3, d4] }
  | _ => none }
def specEndsRow : OpenClaim := { program := "ytiafbpbbhgpjkaa", sum := "8cf94b8354a60debd5a3ca3f33e318dfc5c7fc6d5e415a3ec2d5694dab404c5c", func := "palings/palingslaw20.SpecEnds", spec := "specEnds", unfollowed := true, recurses := true, apart := false }
def SpecEndsSaid : Prop := specEndsRow.holds Try.pinned (OpenSpec.ofChange specEndsSpec)

/-- ITS FALSE NEIGHBOUR: 'it returns false'. Refute it at one input. -/
def specEndsWrong : ChangeSpec := { name := "specEnds", fn := fun _ => fun
  | [d1, d2, d3, d4] => { results := [.lit (.bool false)], args := [d1, d2, d3, d4] }
  | _ => none }
def SpecEndsWrongFalsely : Prop := specEndsRow.holds Try.pinned (OpenSpec.ofChange specEndsWrong)

/-- 'palingslaw20.SpecBacks': WHATEVER THE INPUT: true; the input reads as it did. -/
def specBacksSpec : ChangeSpec := { name := "specBacks", fn := fun _ => fun
  | [d1, d2, d3, d4] => { results := [.lit (.bool true)], args := [d1, d2, d3, d4] }
  | _ => none }
def specBacksRow : OpenClaim := { program := "ytiafbpbbhgpjkaa", sum := "8cf94b8354a60debd5a3ca3f33e318dfc5c7fc6d5e415a3ec2d5694dab404c5c", func := "palings/palingslaw20.SpecBacks", spec := "specBacks", unfollowed := true, recurses := true, apart := false }
def SpecBacksSaid : Prop := specBacksRow.holds Try.pinned (OpenSpec.ofChange specBacksSpec)

/-- ITS FALSE NEIGHBOUR: 'it returns false'. Refute it at one input. -/
def specBacksWrong : ChangeSpec := { name := "specBacks", fn := fun _ => fun
  | [d1, d2, d3, d4] => { results := [.lit (.bool false)], args := [d1, d2, d3, d4] }
  | _ => none }
def SpecBacksWrongFalsely : Prop := specBacksRow.holds Try.pinned (OpenSpec.ofChange specBacksWrong)

/- THE SECOND FORM. 'bulk': how many values and letters a reading holds, each counted each time it is reached (what is shared counts as often as it is met; a slice's spare places count too). A statement '..UptoSaid' is the law's where the arguments, and the package variables that the reading takes, are together of bulk at most 1048576: NARROWER than '..Said'. Prove '..Said' where nothing that the law and all that it calls make is longer than what came in: it says more and counts as full. Else prove '..UptoSaid'. A law counts once. -/
mutual
def uptoBulk {H : Type} : DataW H → Nat
  | .lit (.string bytes) => bytes.length + 1
  | .lit _ => 1
  | .nil => 1
  | .ptr d => uptoBulk d + 1
  | .slice elems spare => uptoBulkAll elems + uptoBulkAll spare + 1
  | .agg parts => uptoBulkAll parts + 1
  | .iface _ d => uptoBulk d + 1
  | .map entries => uptoBulkEntries entries + 1
  | .held _ => 1
def uptoBulkAll {H : Type} : List (DataW H) → Nat
  | [] => 0
  | d :: r => uptoBulk d + uptoBulkAll r
def uptoBulkEntries {H : Type} : List (Lit × DataW H) → Nat
  | [] => 0
  | x :: r => uptoBulkEntry x + uptoBulkEntries r
def uptoBulkEntry {H : Type} : Lit × DataW H → Nat
  | (.string bytes, d) => bytes.length + uptoBulk d + 1
  | (_, d) => uptoBulk d + 1
 end
def uptoSmall : (H : Type) → List (DataW H) → Bool := fun _ ds => decide (uptoBulkAll ds ≤ 1048576)
def OpenSpec.upto (s : _root_.Go.ChangeSpec) : _root_.Go.OpenSpec := { _root_.Go.OpenSpec.ofChange s with cond := some uptoSmall }

/-- 'palingslaw20.SpecHonest', WHERE WHAT IT READS IS OF BULK AT MOST 1048576: true; the input reads as it did. -/
def specHonestUptoRow : OpenClaim := { program := "ytiafbpbbhgpjkaa", sum := "8cf94b8354a60debd5a3ca3f33e318dfc5c7fc6d5e415a3ec2d5694dab404c5c", func := "palings/palingslaw20.SpecHonest", spec := "specHonest", unfollowed := true, recurses := true, apart := false, narrowed := true }
def SpecHonestUptoSaid : Prop := specHonestUptoRow.holds Try.pinned (OpenSpec.upto specHonestSpec)

/-- 'palingslaw20.SpecGuess', WHERE WHAT IT READS IS OF BULK AT MOST 1048576: true; the input reads as it did. -/
def specGuessUptoRow : OpenClaim := { program := "ytiafbpbbhgpjkaa", sum := "8cf94b8354a60debd5a3ca3f33e318dfc5c7fc6d5e415a3ec2d5694dab404c5c", func := "palings/palingslaw20.SpecGuess", spec := "specGuess", unfollowed := true, recurses := true, apart := false, narrowed := true }
def SpecGuessUptoSaid : Prop := specGuessUptoRow.holds Try.pinned (OpenSpec.upto specGuessSpec)

/-- 'palingslaw20.SpecSame', WHERE WHAT IT READS IS OF BULK AT MOST 1048576: true; the input reads as it did. -/
def specSameUptoRow : OpenClaim := { program := "ytiafbpbbhgpjkaa", sum := "8cf94b8354a60debd5a3ca3f33e318dfc5c7fc6d5e415a3ec2d5694dab404c5c", func := "palings/palingslaw20.SpecSame", spec := "specSame", unfollowed := true, recurses := true, apart := false, narrowed := true }
def SpecSameUptoSaid : Prop := specSameUptoRow.holds Try.pinned (OpenSpec.upto specSameSpec)

/-- 'palingslaw20.SpecKnows', WHERE WHAT IT READS IS OF BULK AT MOST 1048576: true; the input reads as it did. -/
def specKnowsUptoRow : OpenClaim := { program := "ytiafbpbbhgpjkaa", sum := "8cf94b8354a60debd5a3ca3f33e318dfc5c7fc6d5e415a3ec2d5694dab404c5c", func := "palings/palingslaw20.SpecKnows", spec := "specKnows", unfollowed := true, recurses := true, apart := false, narrowed := true }
def SpecKnowsUptoSaid : Prop := specKnowsUptoRow.holds Try.pinned (OpenSpec.upto specKnowsSpec)

/-- 'palingslaw20.SpecEnds', WHERE WHAT IT READS IS OF BULK AT MOST 1048576: true; the input reads as it did. -/
def specEndsUptoRow : OpenClaim := { program := "ytiafbpbbhgpjkaa", sum := "8cf94b8354a60debd5a3ca3f33e318dfc5c7fc6d5e415a3ec2d5694dab404c5c", func := "palings/palingslaw20.SpecEnds", spec := "specEnds", unfollowed := true, recurses := true, apart := false, narrowed := true }
def SpecEndsUptoSaid : Prop := specEndsUptoRow.holds Try.pinned (OpenSpec.upto specEndsSpec)

/-- 'palingslaw20.SpecBacks', WHERE WHAT IT READS IS OF BULK AT MOST 1048576: true; the input reads as it did. -/
def specBacksUptoRow : OpenClaim := { program := "ytiafbpbbhgpjkaa", sum := "8cf94b8354a60debd5a3ca3f33e318dfc5c7fc6d5e415a3ec2d5694dab404c5c", func := "palings/palingslaw20.SpecBacks", spec := "specBacks", unfollowed := true, recurses := true, apart := false, narrowed := true }
def SpecBacksUptoSaid : Prop := specBacksUptoRow.holds Try.pinned (OpenSpec.upto specBacksSpec)

end Rows
end Go.Proofs.Ytiafbpbbhgpjkaa
