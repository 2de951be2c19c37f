/-
  No cell of these rows narrows 'for every input' (looked for: loops, veiled, ifaces, maps, wideKeys, modest, calm, conditions, laid).
  DERIVED. THE GIVEN ROWS OF THIS SEAT. 3 by the template 'for every input the law returns true; each argument reads behind the call as it read before'; 0 by the template 'total and deterministic' (their statements: YtkgoljbimblkhaaTotals.lean).
  GIVEN WITH THE SEED: the statements are not yours to turn. If you find one false, say at which input.
  Laid BY PROGRAM, IN A SANDBOX (cutbox-rows.mjs): the forced cells as the released guide's own fill.sh prints them over the translation 81031fb5ebf1bc08… (all of the seat's roots in one cut). By AI agents, Wed Nov 11 2026. No macro, syntax, notation, axiom, sorry.
-/
import Derived.Test.YtkgoljbimblkhaaChecked
import GoSem.Claim
import GoSem.ClaimJoined
import GoSem.ClaimMapViews
import Derived.JoinedTies
import Derived.KernelRfl
namespace Go.Proofs.Ytkgoljbimblkhaa
/- THE CELL 'sum', in the pinned program and in every row, IS THE sha256 OF THE DUMP (.gsa) THAT YtkgoljbimblkhaaProg.lean LOADS. Nothing in Lean hashes anything: it is a label: what it is worth is what the hold of that sum in a sandbox is worth. -/
noncomputable def Try.pinned : Pinned := { name := "ytkgoljbimblkhaa", sum := "81031fb5ebf1bc08f6e40292190c9cc6d6b9d6baa9c63ef252d153702e50db76", checked := Try.checked }
namespace Rows
def none {H : Type} : Left H := { results := [], args := [] }

/-- 'palingslaw24.TwinHolds': WHATEVER THE INPUT: true; the input reads as it did. -/
def twinHoldsSpec : ChangeSpec := { name := "twinHolds", fn := fun _ => fun
  | [d1, d2, d3, d4, d5, d6] => { results := [.lit (.bool true)], args := [d1, d2, d3, d4, d5, d6] }
  | _ => none }
def twinHoldsRow : OpenClaim := { program := "ytkgoljbimblkhaa", sum := "81031fb5ebf1bc08f6e40292190c9cc6d6b9d6baa9c63ef252d153702e50db76", func := "palings/palingslaw24.TwinHolds", spec := "twinHolds", unfollowed := true, recurses := true, apart := false }
def TwinHoldsSaid : Prop := twinHoldsRow.holds Try.pinned (OpenSpec.ofChange twinHoldsSpec)

/-- ITS FALSE NEIGHBOUR: 'it returns false'. Refute it at one input. -/
def twinHoldsWrong : ChangeSpec := { name := "twinHolds", fn := fun _ => fun
  | [d1, d2, d3, d4, d5, d6] => { results := [.lit (.bool false)], args := [d1, d2, d3, d4, d5, d6] }
  | _ => none }
def TwinHoldsWrongFalsely : Prop := twinHoldsRow.holds Try.pinned (OpenSpec.ofChange twinHoldsWrong)

/-- 'palingslaw24.TwinSelf': WHATEVER THE INPUT: true; the input reads as it did. -/
def twinSelfSpec : ChangeSpec := { name := "twinSelf", fn := fun _ => fun
  | [d1, d2, d3, d4] => { results := [.lit (.bool true)], args := [d1, d2, d3, d4] }
  | _ => none }
def twinSelfRow : OpenClaim := { program := "ytkgoljbimblkhaa", sum := "81031fb5ebf1bc08f6e40292190c9cc6d6b9d6baa9c63ef252d153702e50db76", func := "palings/palingslaw24.TwinSelf", spec := "twinSelf", unfollowed := true, recurses := true, apart := false }
def TwinSelfSaid : Prop := twinSelfRow.holds Try.pinned (OpenSpec.ofChange twinSelfSpec)

/-- ITS FALSE NEIGHBOUR: 'it returns false'. Refute it at one input. -/
def twinSelfWrong : ChangeSpec := { name := "twinSelf", fn := fun _ => fun
  | [d1, d2, d3, d4] => { results := [.lit (.bool false)], args := [d1, d2, d3, d4] }
  | _ => none }
def TwinSelfWrongFalsely : Prop := twinSelfRow.holds Try.pinned (OpenSpec.ofChange twinSelfWrong)

/-- 'palingslaw24.TwinTurn': WHATEVER THE INPUT: true; the input reads as it did. -/
def twinTurnSpec : ChangeSpec := { name := "twinTurn", fn := fun _ => fun
  | [d1, d2, d3, d4, d5, d6] => { results := [.lit (.bool true)], args := [d1, d2, d3, d4, d5, d6] }
  | _ => none }
def twinTurnRow : OpenClaim := { program := "ytkgoljbimblkhaa", sum := "81031fb5ebf1bc08f6e40292190c9cc6d6b9d6baa9c63ef252d153702e50db76", func := "palings/palingslaw24.TwinTurn", spec := "twinTurn", unfollowed := true, recurses := true, apart := false }
def TwinTurnSaid : Prop := twinTurnRow.holds Try.pinned (OpenSpec.ofChange twinTurnSpec)

/-- ITS FALSE NEIGHBOUR: 'it returns false'. Refute it at one input. -/
def twinTurnWrong : ChangeSpec := { name := "twinTurn", fn := fun _ => fun
  | [d1, d2, d3, d4, d5, d6] => { results := [.lit (.bool false)], args := [d1, d2, d3, d4, d5, d6] }
  | _ => none }
def TwinTurnWrongFalsely : Prop := twinTurnRow.holds Try.pinned (OpenSpec.ofChange twinTurnWrong)

/- THE SECOND FORM. 'bulk': how many values and letters a reading holds, each counted each time it is reached (what is shared counts as often as it is met; a slice's spare places count too). A statement '..UptoSaid' is the law's where the arguments, and the package variables that the reading takes, are together of bulk at most 1048576: NARROWER than '..Said'. Prove '..Said' where nothing that the law and all that it calls make is longer than what came in: it says more and counts as full. Else prove '..UptoSaid'. A law counts once. -/
mutual
def uptoBulk {H : Type} : DataW H → Nat
  | .lit (.string bytes) => bytes.length + 1
  | .lit _ => 1
  | .nil => 1
  | .ptr d => uptoBulk d + 1
  | .slice elems spare => uptoBulkAll elems + uptoBulkAll spare + 1
  | .agg parts => uptoBulkAll parts + 1
  | .iface _ d => uptoBulk d + 1
  | .map entries => uptoBulkEntries entries + 1
  | .held _ => 1
def uptoBulkAll {H : Type} : List (DataW H) → Nat
  | [] => 0
  | d :: r => uptoBulk d + uptoBulkAll r
def uptoBulkEntries {H : Type} : List (Lit × DataW H) → Nat
  | [] => 0
  | x :: r => uptoBulkEntry x + uptoBulkEntries r
def uptoBulkEntry {H : Type} : Lit × DataW H → Nat
  | (.string bytes, d) => bytes.length + uptoBulk d + 1
  | (_, d) => uptoBulk d + 1
 end
def uptoSmall : (H : Type) → List (DataW H) → Bool := fun _ ds => decide (uptoBulkAll ds ≤ 1048576)
def OpenSpec.upto (s : _root_.Go.ChangeSpec) : _root_.Go.OpenSpec := { _root_.Go.OpenSpec.ofChange s with cond := some uptoSmall }

/-- 'palingslaw24.TwinHolds', WHERE WHAT IT READS IS OF BULK AT MOST 1048576: true; the input reads as it did. -/
def twinHoldsUptoRow : OpenClaim := { program := "ytkgoljbimblkhaa", sum := "81031fb5ebf1bc08f6e40292190c9cc6d6b9d6baa9c63ef252d153702e50db76", func := "palings/palingslaw24.TwinHolds", spec := "twinHolds", unfollowed := true, recurses := true, apart := false, narrowed := true }
def TwinHoldsUptoSaid : Prop := twinHoldsUptoRow.holds Try.pinned (OpenSpec.upto twinHoldsSpec)

/-- 'palingslaw24.TwinSelf', WHERE WHAT IT READS IS OF BULK AT MOST 1048576: true; the input reads as it did. -/
def twinSelfUptoRow : OpenClaim := { program := "ytkgoljbimblkhaa", sum := "81031fb5ebf1bc08f6e40292190c9cc6d6b9d6baa9c63ef252d153702e50db76", func := "palings/palingslaw24.TwinSelf", spec := "twinSelf", unfollowed := true, recurses := true, apart := false, narrowed := true }
def TwinSelfUptoSaid : Prop := twinSelfUptoRow.holds Try.pinned (OpenSpec.upto twinSelfSpec)

/-- 'palingslaw24.TwinTurn', WHERE WHAT IT READS IS OF BULK AT MOST 1048576: true; the input reads as it did. -/
def twinTurnUptoRow : OpenClaim := { program := "ytkgoljbimblkhaa", sum := "81031fb5ebf1bc08f6e40292190c9cc6d6b9d6baa9c63ef252d153702e50db76", func := "palings/palingslaw24.TwinTurn", spec := "twinTurn", unfollowed := true, recurses := true, apart := false, narrowed := true }
def TwinTurnUptoSaid : Prop := twinTurnUptoRow.holds Try.pinned (OpenSpec.upto twinTurnSpec)

end Rows
end Go.Proofs.Ytkgoljbimblkhaa
