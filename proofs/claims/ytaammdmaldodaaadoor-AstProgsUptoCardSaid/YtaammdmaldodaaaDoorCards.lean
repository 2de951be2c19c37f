/-
  DERIVED. GIVEN WITH THE SEED: THE CARDS: each row of YtaammdmaldodaaaDoorRows.lean that lists a variable, with what it lists TIED to the program's text (the seventh form; the later family's looks); each row that meets fmt, with fmt's text TOLD by the authors' own Lean function (tested against real Go, not proved from fmt's source: count such statements apart). THE CARD IS WHAT COUNTS. Prove the row's statement (the work); the ties are given (YtaammdmaldodaaaDoorTie.lean); close each card by the builder's one call (the guide's Derived/Test/ToyasCard.lean, 'card_holds'). Laid BY PROGRAM, IN A SANDBOX (cutbox-door.mjs). By AI agents, Wed Nov 11 2026. No macro, syntax, notation, axiom, sorry.
-/
import Derived.Test.YtaammdmaldodaaaDoorRows
import GoSem.ClaimSeven
namespace Go.Proofs.YtaammdmaldodaaaDoor
namespace Rows

/-- THE TIED CARD OF 'palingslaw03.AstSigns'. -/
def astSignsCard : Claim7 := { stood := { row := astSignsRow, standIns := [], harness := (true, "13bc1610028756d4915d8244afd8341120952effdd1d267417a80fc859a74c2b"), looks := false }, kinds := [], alts := [], laidByText := true, laidKinds := [.data, .data, .data, .data], laidTests := true, laidLooks := .later }
def AstSignsCardSaid : Prop := Claim7.holds Tryd.pinned (.plain (OpenSpec.ofChange astSignsSpec)) astSignsCard

/-- THE TIED CARD OF 'palingslaw03.AstSame'. -/
def astSameCard : Claim7 := { stood := { row := astSameRow, standIns := [], harness := (true, "13bc1610028756d4915d8244afd8341120952effdd1d267417a80fc859a74c2b"), looks := false }, kinds := [], alts := [], laidByText := true, laidKinds := [.data, .data, .data, .data], laidTests := true, laidLooks := .later }
def AstSameCardSaid : Prop := Claim7.holds Tryd.pinned (.plain (OpenSpec.ofChange astSameSpec)) astSameCard

/-- THE TIED CARD OF 'palingslaw03.AstLines'. -/
def astLinesCard : Claim7 := { stood := { row := astLinesRow, standIns := [], harness := (true, "13bc1610028756d4915d8244afd8341120952effdd1d267417a80fc859a74c2b"), looks := false }, kinds := [], alts := [], laidByText := true, laidKinds := [.data, .data, .data, .data], laidTests := true, laidLooks := .later }
def AstLinesCardSaid : Prop := Claim7.holds Tryd.pinned (.plain (OpenSpec.ofChange astLinesSpec)) astLinesCard

/-- THE TIED CARD OF 'palingslaw03.AstProgs'. -/
def astProgsCard : Claim7 := { stood := { row := astProgsRow, standIns := [], harness := (true, "13bc1610028756d4915d8244afd8341120952effdd1d267417a80fc859a74c2b"), looks := false }, kinds := [], alts := [], laidByText := true, laidKinds := [.data, .data, .data, .data], laidTests := true, laidLooks := .later }
def AstProgsCardSaid : Prop := Claim7.holds Tryd.pinned (.plain (OpenSpec.ofChange astProgsSpec)) astProgsCard

/-- THE SECOND FORM's CARD OF 'palingslaw03.AstSigns'. -/
def astSignsUptoCard : Claim7 := { stood := { row := astSignsUptoRow, standIns := [], harness := (true, "13bc1610028756d4915d8244afd8341120952effdd1d267417a80fc859a74c2b"), looks := false }, kinds := [], alts := [], laidByText := true, laidKinds := [.data, .data, .data, .data], laidTests := true, laidLooks := .later }
def AstSignsUptoCardSaid : Prop := Claim7.holds Tryd.pinned (.plain (OpenSpec.upto astSignsSpec)) astSignsUptoCard

/-- THE SECOND FORM's CARD OF 'palingslaw03.AstSame'. -/
def astSameUptoCard : Claim7 := { stood := { row := astSameUptoRow, standIns := [], harness := (true, "13bc1610028756d4915d8244afd8341120952effdd1d267417a80fc859a74c2b"), looks := false }, kinds := [], alts := [], laidByText := true, laidKinds := [.data, .data, .data, .data], laidTests := true, laidLooks := .later }
def AstSameUptoCardSaid : Prop := Claim7.holds Tryd.pinned (.plain (OpenSpec.upto astSameSpec)) astSameUptoCard

/-- THE SECOND FORM's CARD OF 'palingslaw03.AstLines'. -/
def astLinesUptoCard : Claim7 := { stood := { row := astLinesUptoRow, standIns := [], harness := (true, "13bc1610028756d4915d8244afd8341120952effdd1d267417a80fc859a74c2b"), looks := false }, kinds := [], alts := [], laidByText := true, laidKinds := [.data, .data, .data, .data], laidTests := true, laidLooks := .later }
def AstLinesUptoCardSaid : Prop := Claim7.holds Tryd.pinned (.plain (OpenSpec.upto astLinesSpec)) astLinesUptoCard

/-- THE SECOND FORM's CARD OF 'palingslaw03.AstProgs'. -/
def astProgsUptoCard : Claim7 := { stood := { row := astProgsUptoRow, standIns := [], harness := (true, "13bc1610028756d4915d8244afd8341120952effdd1d267417a80fc859a74c2b"), looks := false }, kinds := [], alts := [], laidByText := true, laidKinds := [.data, .data, .data, .data], laidTests := true, laidLooks := .later }
def AstProgsUptoCardSaid : Prop := Claim7.holds Tryd.pinned (.plain (OpenSpec.upto astProgsSpec)) astProgsUptoCard
end Rows
end Go.Proofs.YtaammdmaldodaaaDoor
