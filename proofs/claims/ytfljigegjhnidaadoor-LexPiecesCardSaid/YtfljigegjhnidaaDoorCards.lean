/-
  DERIVED. GIVEN WITH THE SEED: THE CARDS: each row of YtfljigegjhnidaaDoorRows.lean that lists a variable, with what it lists TIED to the program's text (the seventh form; the later family's looks); each row that meets fmt, with fmt's text TOLD by the authors' own Lean function (tested against real Go, not proved from fmt's source: count such statements apart). THE CARD IS WHAT COUNTS. Prove the row's statement (the work); the ties are given (YtfljigegjhnidaaDoorTie.lean); close each card by the builder's one call (the guide's Derived/Test/ToyasCard.lean, 'card_holds'). Laid BY PROGRAM, IN A SANDBOX (cutbox-door.mjs). By AI agents, Wed Nov 11 2026. No macro, syntax, notation, axiom, sorry.
-/
import Derived.Test.YtfljigegjhnidaaDoorRows
import GoSem.ClaimSeven
namespace Go.Proofs.YtfljigegjhnidaaDoor
namespace Rows

/-- THE TIED CARD OF 'palingslaw02.LexAny'. -/
def lexAnyCard : Claim7 := { stood := { row := lexAnyRow, standIns := [], harness := (true, "b55096a0868b1f6096376f7a262c456934dd89fe013a86633181f8aa41a081b9"), looks := false }, kinds := [], alts := [], laidByText := true, laidKinds := [.data, .data], laidTests := true, laidLooks := .later }
def LexAnyCardSaid : Prop := Claim7.holds Tryd.pinned (.plain (OpenSpec.ofChange lexAnySpec)) lexAnyCard

/-- THE TIED CARD OF 'palingslaw02.LexBytes'. -/
def lexBytesCard : Claim7 := { stood := { row := lexBytesRow, standIns := [], harness := (true, "b55096a0868b1f6096376f7a262c456934dd89fe013a86633181f8aa41a081b9"), looks := false }, kinds := [], alts := [], laidByText := true, laidKinds := [.data, .data, .data], laidTests := true, laidLooks := .later }
def LexBytesCardSaid : Prop := Claim7.holds Tryd.pinned (.plain (OpenSpec.ofChange lexBytesSpec)) lexBytesCard

/-- THE TIED CARD OF 'palingslaw02.LexLong'. -/
def lexLongCard : Claim7 := { stood := { row := lexLongRow, standIns := [], harness := (true, "b55096a0868b1f6096376f7a262c456934dd89fe013a86633181f8aa41a081b9"), looks := false }, kinds := [], alts := [], laidByText := true, laidKinds := [.data, .data], laidTests := true, laidLooks := .later }
def LexLongCardSaid : Prop := Claim7.holds Tryd.pinned (.plain (OpenSpec.ofChange lexLongSpec)) lexLongCard

/-- THE TIED CARD OF 'palingslaw02.LexAgain'. -/
def lexAgainCard : Claim7 := { stood := { row := lexAgainRow, standIns := [], harness := (true, "b55096a0868b1f6096376f7a262c456934dd89fe013a86633181f8aa41a081b9"), looks := false }, kinds := [], alts := [], laidByText := true, laidKinds := [.data, .data], laidTests := true, laidLooks := .later }
def LexAgainCardSaid : Prop := Claim7.holds Tryd.pinned (.plain (OpenSpec.ofChange lexAgainSpec)) lexAgainCard

/-- THE TIED CARD OF 'palingslaw02.LexNumbers'. -/
def lexNumbersCard : Claim7 := { stood := { row := lexNumbersRow, standIns := [], harness := (true, "b55096a0868b1f6096376f7a262c456934dd89fe013a86633181f8aa41a081b9"), looks := false }, kinds := [], alts := [], laidByText := true, laidKinds := [.data, .data, .data, .data, .data], laidTests := true, laidLooks := .later }
def LexNumbersCardSaid : Prop := Claim7.holds Tryd.pinned (.plain (OpenSpec.ofChange lexNumbersSpec)) lexNumbersCard

/-- THE TIED CARD OF 'palingslaw02.LexPieces'. -/
def lexPiecesCard : Claim7 := { stood := { row := lexPiecesRow, standIns := [], harness := (true, "b55096a0868b1f6096376f7a262c456934dd89fe013a86633181f8aa41a081b9"), looks := false }, kinds := [], alts := [], laidByText := true, laidKinds := [.data, .data, .data, .data, .data, .data, .data], laidTests := true, laidLooks := .later }
def LexPiecesCardSaid : Prop := Claim7.holds Tryd.pinned (.plain (OpenSpec.ofChange lexPiecesSpec)) lexPiecesCard

/-- THE SECOND FORM's CARD OF 'palingslaw02.LexAny'. -/
def lexAnyUptoCard : Claim7 := { stood := { row := lexAnyUptoRow, standIns := [], harness := (true, "b55096a0868b1f6096376f7a262c456934dd89fe013a86633181f8aa41a081b9"), looks := false }, kinds := [], alts := [], laidByText := true, laidKinds := [.data, .data], laidTests := true, laidLooks := .later }
def LexAnyUptoCardSaid : Prop := Claim7.holds Tryd.pinned (.plain (OpenSpec.upto lexAnySpec)) lexAnyUptoCard

/-- THE SECOND FORM's CARD OF 'palingslaw02.LexBytes'. -/
def lexBytesUptoCard : Claim7 := { stood := { row := lexBytesUptoRow, standIns := [], harness := (true, "b55096a0868b1f6096376f7a262c456934dd89fe013a86633181f8aa41a081b9"), looks := false }, kinds := [], alts := [], laidByText := true, laidKinds := [.data, .data, .data], laidTests := true, laidLooks := .later }
def LexBytesUptoCardSaid : Prop := Claim7.holds Tryd.pinned (.plain (OpenSpec.upto lexBytesSpec)) lexBytesUptoCard

/-- THE SECOND FORM's CARD OF 'palingslaw02.LexLong'. -/
def lexLongUptoCard : Claim7 := { stood := { row := lexLongUptoRow, standIns := [], harness := (true, "b55096a0868b1f6096376f7a262c456934dd89fe013a86633181f8aa41a081b9"), looks := false }, kinds := [], alts := [], laidByText := true, laidKinds := [.data, .data], laidTests := true, laidLooks := .later }
def LexLongUptoCardSaid : Prop := Claim7.holds Tryd.pinned (.plain (OpenSpec.upto lexLongSpec)) lexLongUptoCard

/-- THE SECOND FORM's CARD OF 'palingslaw02.LexAgain'. -/
def lexAgainUptoCard : Claim7 := { stood := { row := lexAgainUptoRow, standIns := [], harness := (true, "b55096a0868b1f6096376f7a262c456934dd89fe013a86633181f8aa41a081b9"), looks := false }, kinds := [], alts := [], laidByText := true, laidKinds := [.data, .data], laidTests := true, laidLooks := .later }
def LexAgainUptoCardSaid : Prop := Claim7.holds Tryd.pinned (.plain (OpenSpec.upto lexAgainSpec)) lexAgainUptoCard

/-- THE SECOND FORM's CARD OF 'palingslaw02.LexNumbers'. -/
def lexNumbersUptoCard : Claim7 := { stood := { row := lexNumbersUptoRow, standIns := [], harness := (true, "b55096a0868b1f6096376f7a262c456934dd89fe013a86633181f8aa41a081b9"), looks := false }, kinds := [], alts := [], laidByText := true, laidKinds := [.data, .data, .data, .data, .data], laidTests := true, laidLooks := .later }
def LexNumbersUptoCardSaid : Prop := Claim7.holds Tryd.pinned (.plain (OpenSpec.upto lexNumbersSpec)) lexNumbersUptoCard

/-- THE SECOND FORM's CARD OF 'palingslaw02.LexPieces'. -/
def lexPiecesUptoCard : Claim7 := { stood := { row := lexPiecesUptoRow, standIns := [], harness := (true, "b55096a0868b1f6096376f7a262c456934dd89fe013a86633181f8aa41a081b9"), looks := false }, kinds := [], alts := [], laidByText := true, laidKinds := [.data, .data, .data, .data, .data, .data, .data], laidTests := true, laidLooks := .later }
def LexPiecesUptoCardSaid : Prop := Claim7.holds Tryd.pinned (.plain (OpenSpec.upto lexPiecesSpec)) lexPiecesUptoCard
end Rows
end Go.Proofs.YtfljigegjhnidaaDoor
