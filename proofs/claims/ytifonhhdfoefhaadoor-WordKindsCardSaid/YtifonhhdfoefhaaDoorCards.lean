/-
  DERIVED. GIVEN WITH THE SEED: THE CARDS: each row of YtifonhhdfoefhaaDoorRows.lean that lists a variable, with what it lists TIED to the program's text (the seventh form; the later family's looks); each row that meets fmt, with fmt's text TOLD by the authors' own Lean function (tested against real Go, not proved from fmt's source: count such statements apart). THE CARD IS WHAT COUNTS. Prove the row's statement (the work); the ties are given (YtifonhhdfoefhaaDoorTie.lean); close each card by the builder's one call (the guide's Derived/Test/ToyasCard.lean, 'card_holds'). Laid BY PROGRAM, IN A SANDBOX (cutbox-door.mjs). By AI agents, Wed Nov 11 2026. No macro, syntax, notation, axiom, sorry.
-/
import Derived.Test.YtifonhhdfoefhaaDoorRows
import GoSem.ClaimSeven
namespace Go.Proofs.YtifonhhdfoefhaaDoor
namespace Rows

/-- THE TIED CARD OF 'palingslaw01.WordKinds'. -/
def wordKindsCard : Claim7 := { stood := { row := wordKindsRow, standIns := [], harness := (true, "72d70e2c21b9d91b3f3947a1fe345d8852db7aef59dbd5e6f7c6b0eac3cf314d"), looks := false }, kinds := [], alts := [], laidByText := true, laidKinds := [.data], laidTests := true, laidLooks := .later }
def WordKindsCardSaid : Prop := Claim7.holds Tryd.pinned (.plain (OpenSpec.ofChange wordKindsSpec)) wordKindsCard

/-- THE SECOND FORM's CARD OF 'palingslaw01.WordKinds'. -/
def wordKindsUptoCard : Claim7 := { stood := { row := wordKindsUptoRow, standIns := [], harness := (true, "72d70e2c21b9d91b3f3947a1fe345d8852db7aef59dbd5e6f7c6b0eac3cf314d"), looks := false }, kinds := [], alts := [], laidByText := true, laidKinds := [.data], laidTests := true, laidLooks := .later }
def WordKindsUptoCardSaid : Prop := Claim7.holds Tryd.pinned (.plain (OpenSpec.upto wordKindsSpec)) wordKindsUptoCard
end Rows
end Go.Proofs.YtifonhhdfoefhaaDoor
