/-
  DERIVED. GIVEN WITH THE SEED: THE CARDS: each row of YtenkganofobioaaDoorRows.lean that lists a variable, with what it lists TIED to the program's text (the seventh form; the later family's looks); each row that meets fmt, with fmt's text TOLD by the authors' own Lean function (tested against real Go, not proved from fmt's source: count such statements apart). THE CARD IS WHAT COUNTS. Prove the row's statement (the work); the ties are given (YtenkganofobioaaDoorTie.lean); close each card by the builder's one call (the guide's Derived/Test/ToyasCard.lean, 'card_holds'). Laid BY PROGRAM, IN A SANDBOX (cutbox-door.mjs). By AI agents, Wed Nov 11 2026. No macro, syntax, notation, axiom, sorry.
-/
import Derived.Test.YtenkganofobioaaDoorRows
import GoSem.ClaimSeven
namespace Go.Proofs.YtenkganofobioaaDoor
namespace Rows

/-- THE TIED CARD OF 'palingslaw04.ParseErrors'. -/
def parseErrorsCard : Claim7 := { stood := { row := parseErrorsRow, standIns := [], harness := (true, "1209b8cf5d09065d9e3a7d68be9753a48f0690ca5c2111088228a404af0cee73"), looks := false }, kinds := [], alts := [], laidByText := true, laidKinds := [.data, .data, .data, .data, .data, .data, .widerDeep], laidTests := true, laidLooks := .later }
def ParseErrorsCardSaid : Prop := Claim7.holds Tryd.pinned (.plain (OpenSpec.ofChange parseErrorsSpec)) parseErrorsCard

/-- THE TIED CARD OF 'palingslaw04.ParseNests'. -/
def parseNestsCard : Claim7 := { stood := { row := parseNestsRow, standIns := [], harness := (true, "1209b8cf5d09065d9e3a7d68be9753a48f0690ca5c2111088228a404af0cee73"), looks := false }, kinds := [], alts := [], laidByText := true, laidKinds := [.data, .data, .data, .data, .data, .data, .widerDeep], laidTests := true, laidLooks := .later }
def ParseNestsCardSaid : Prop := Claim7.holds Tryd.pinned (.plain (OpenSpec.ofChange parseNestsSpec)) parseNestsCard

/-- THE TIED CARD OF 'palingslaw04.ParseChains'. -/
def parseChainsCard : Claim7 := { stood := { row := parseChainsRow, standIns := [], harness := (true, "1209b8cf5d09065d9e3a7d68be9753a48f0690ca5c2111088228a404af0cee73"), looks := false }, kinds := [], alts := [], laidByText := true, laidKinds := [.data, .data, .data, .data, .data, .data, .widerDeep], laidTests := true, laidLooks := .later }
def ParseChainsCardSaid : Prop := Claim7.holds Tryd.pinned (.plain (OpenSpec.ofChange parseChainsSpec)) parseChainsCard

/-- THE TIED CARD OF 'palingslaw04.ParseArgs'. -/
def parseArgsCard : Claim7 := { stood := { row := parseArgsRow, standIns := [], harness := (true, "1209b8cf5d09065d9e3a7d68be9753a48f0690ca5c2111088228a404af0cee73"), looks := false }, kinds := [], alts := [], laidByText := true, laidKinds := [.data, .data, .data, .data, .data, .data, .widerDeep], laidTests := true, laidLooks := .later }
def ParseArgsCardSaid : Prop := Claim7.holds Tryd.pinned (.plain (OpenSpec.ofChange parseArgsSpec)) parseArgsCard

/-- THE TIED CARD OF 'palingslaw04.ParseBinds'. -/
def parseBindsCard : Claim7 := { stood := { row := parseBindsRow, standIns := [], harness := (true, "1209b8cf5d09065d9e3a7d68be9753a48f0690ca5c2111088228a404af0cee73"), looks := false }, kinds := [], alts := [], laidByText := true, laidKinds := [.data, .data, .data, .data, .data, .data, .widerDeep], laidTests := true, laidLooks := .later }
def ParseBindsCardSaid : Prop := Claim7.holds Tryd.pinned (.plain (OpenSpec.ofChange parseBindsSpec)) parseBindsCard

/-- THE TIED CARD OF 'palingslaw04.ParseAgain'. -/
def parseAgainCard : Claim7 := { stood := { row := parseAgainRow, standIns := [], harness := (true, "1209b8cf5d09065d9e3a7d68be9753a48f0690ca5c2111088228a404af0cee73"), looks := false }, kinds := [], alts := [], laidByText := true, laidKinds := [.data, .data, .data, .data, .data, .data, .widerDeep], laidTests := true, laidLooks := .later }
def ParseAgainCardSaid : Prop := Claim7.holds Tryd.pinned (.plain (OpenSpec.ofChange parseAgainSpec)) parseAgainCard

/-- THE SECOND FORM's CARD OF 'palingslaw04.ParseErrors'. -/
def parseErrorsUptoCard : Claim7 := { stood := { row := parseErrorsUptoRow, standIns := [], harness := (true, "1209b8cf5d09065d9e3a7d68be9753a48f0690ca5c2111088228a404af0cee73"), looks := false }, kinds := [], alts := [], laidByText := true, laidKinds := [.data, .data, .data, .data, .data, .data, .widerDeep], laidTests := true, laidLooks := .later }
def ParseErrorsUptoCardSaid : Prop := Claim7.holds Tryd.pinned (.plain (OpenSpec.upto parseErrorsSpec)) parseErrorsUptoCard

/-- THE SECOND FORM's CARD OF 'palingslaw04.ParseNests'. -/
def parseNestsUptoCard : Claim7 := { stood := { row := parseNestsUptoRow, standIns := [], harness := (true, "1209b8cf5d09065d9e3a7d68be9753a48f0690ca5c2111088228a404af0cee73"), looks := false }, kinds := [], alts := [], laidByText := true, laidKinds := [.data, .data, .data, .data, .data, .data, .widerDeep], laidTests := true, laidLooks := .later }
def ParseNestsUptoCardSaid : Prop := Claim7.holds Tryd.pinned (.plain (OpenSpec.upto parseNestsSpec)) parseNestsUptoCard

/-- THE SECOND FORM's CARD OF 'palingslaw04.ParseChains'. -/
def parseChainsUptoCard : Claim7 := { stood := { row := parseChainsUptoRow, standIns := [], harness := (true, "1209b8cf5d09065d9e3a7d68be9753a48f0690ca5c2111088228a404af0cee73"), looks := false }, kinds := [], alts := [], laidByText := true, laidKinds := [.data, .data, .data, .data, .data, .data, .widerDeep], laidTests := true, laidLooks := .later }
def ParseChainsUptoCardSaid : Prop := Claim7.holds Tryd.pinned (.plain (OpenSpec.upto parseChainsSpec)) parseChainsUptoCard

/-- THE SECOND FORM's CARD OF 'palingslaw04.ParseArgs'. -/
def parseArgsUptoCard : Claim7 := { stood := { row := parseArgsUptoRow, standIns := [], harness := (true, "1209b8cf5d09065d9e3a7d68be9753a48f0690ca5c2111088228a404af0cee73"), looks := false }, kinds := [], alts := [], laidByText := true, laidKinds := [.data, .data, .data, .data, .data, .data, .widerDeep], laidTests := true, laidLooks := .later }
def ParseArgsUptoCardSaid : Prop := Claim7.holds Tryd.pinned (.plain (OpenSpec.upto parseArgsSpec)) parseArgsUptoCard

/-- THE SECOND FORM's CARD OF 'palingslaw04.ParseBinds'. -/
def parseBindsUptoCard : Claim7 := { stood := { row := parseBindsUptoRow, standIns := [], harness := (true, "1209b8cf5d09065d9e3a7d68be9753a48f0690ca5c2111088228a404af0cee73"), looks := false }, kinds := [], alts := [], laidByText := true, laidKinds := [.data, .data, .data, .data, .data, .data, .widerDeep], laidTests := true, laidLooks := .later }
def ParseBindsUptoCardSaid : Prop := Claim7.holds Tryd.pinned (.plain (OpenSpec.upto parseBindsSpec)) parseBindsUptoCard

/-- THE SECOND FORM's CARD OF 'palingslaw04.ParseAgain'. -/
def parseAgainUptoCard : Claim7 := { stood := { row := parseAgainUptoRow, standIns := [], harness := (true, "1209b8cf5d09065d9e3a7d68be9753a48f0690ca5c2111088228a404af0cee73"), looks := false }, kinds := [], alts := [], laidByText := true, laidKinds := [.data, .data, .data, .data, .data, .data, .widerDeep], laidTests := true, laidLooks := .later }
def ParseAgainUptoCardSaid : Prop := Claim7.holds Tryd.pinned (.plain (OpenSpec.upto parseAgainSpec)) parseAgainUptoCard
end Rows
end Go.Proofs.YtenkganofobioaaDoor
