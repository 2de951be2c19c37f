/-
  NARROWER THAN 'FOR EVERY INPUT', by the rows' own cells (each row's printed sentence says how): ParseErrors: laid · ParseNests: laid · ParseChains: laid · ParseArgs: laid · ParseBinds: laid · ParseAgain: laid.
  DERIVED. THE GIVEN ROWS OF THIS SEAT. 6 by the template 'for every input the law returns true; each argument reads behind the call as it read before'; 0 by the template 'total and deterministic' (their statements: YtenkganofobioaaDoorTotals.lean).
  GIVEN WITH THE SEED: the statements are not yours to turn. If you find one false, say at which input.
  Laid BY PROGRAM, IN A SANDBOX (cutbox-rows.mjs): the forced cells as the released guide's own fill.sh prints them over the translation 697796febc6bbfda… (all of the seat's roots in one cut). By AI agents, Wed Nov 11 2026. No macro, syntax, notation, axiom, sorry.
-/
import Derived.Test.YtenkganofobioaaDoorChecked
import GoSem.Claim
import GoSem.ClaimJoined
import GoSem.ClaimMapViews
import Derived.JoinedTies
import Derived.KernelRfl
namespace Go.Proofs.YtenkganofobioaaDoor
/- THE CELL 'sum', in the pinned program and in every row, IS THE sha256 OF THE DUMP (.gsa) THAT YtenkganofobioaaDoorProg.lean LOADS. Nothing in Lean hashes anything: it is a label: what it is worth is what the hold of that sum in a sandbox is worth. -/
noncomputable def Tryd.pinned : Pinned := { name := "ytenkganofobioaadoor", sum := "697796febc6bbfda48cdb6575dbd05633d1bd45e85a63b9a93182ea2dd0ac201", checked := Tryd.checked }
namespace Rows
def none {H : Type} : Left H := { results := [], args := [] }

/- WHAT THE LISTED PACKAGE-LEVEL VARIABLES READ AS WHEN THE CALL BEGINS. Each datum BY PROGRAM (the guide's laid-datum.mjs) off the statement by which the dump's own 'gosem.cut.vars' lays the variable. In a bare row this is a premise. The card (YtenkganofobioaaDoorCards.lean) ties it to the program's text. -/
def laid_math_bits_deBruijn32tab {H : Type} : DataW H := .agg [.lit (.int .u8 0), .lit (.int .u8 1), .lit (.int .u8 28), .lit (.int .u8 2), .lit (.int .u8 29), .lit (.int .u8 14), .lit (.int .u8 24), .lit (.int .u8 3), .lit (.int .u8 30), .lit (.int .u8 22), .lit (.int .u8 20), .lit (.int .u8 15), .lit (.int .u8 25), .lit (.int .u8 17), .lit (.int .u8 4), .lit (.int .u8 8), .lit (.int .u8 31), .lit (.int .u8 27), .lit (.int .u8 13), .lit (.int .u8 23), .lit (.int .u8 21), .lit (.int .u8 19), .lit (.int .u8 16), .lit (.int .u8 7), .lit (.int .u8 26), .lit (.int .u8 12), .lit (.int .u8 18), .lit (.int .u8 6), .lit (.int .u8 11), .lit (.int .u8 5), .lit (.int .u8 10), .lit (.int .u8 9)]
def laid_math_bits_deBruijn64tab {H : Type} : DataW H := .agg [.lit (.int .u8 0), .lit (.int .u8 1), .lit (.int .u8 56), .lit (.int .u8 2), .lit (.int .u8 57), .lit (.int .u8 49), .lit (.int .u8 28), .lit (.int .u8 3), .lit (.int .u8 61), .lit (.int .u8 58), .lit (.int .u8 42), .lit (.int .u8 50), .lit (.int .u8 38), .lit (.int .u8 29), .lit (.int .u8 17), .lit (.int .u8 4), .lit (.int .u8 62), .lit (.int .u8 47), .lit (.int .u8 59), .lit (.int .u8 36), .lit (.int .u8 45), .lit (.int .u8 43), .lit (.int .u8 51), .lit (.int .u8 22), .lit (.int .u8 53), .lit (.int .u8 39), .lit (.int .u8 33), .lit (.int .u8 30), .lit (.int .u8 24), .lit (.int .u8 18), .lit (.int .u8 12), .lit (.int .u8 5), .lit (.int .u8 63), .lit (.int .u8 55), .lit (.int .u8 48), .lit (.int .u8 27), .lit (.int .u8 60), .lit (.int .u8 41), .lit (.int .u8 37), .lit (.int .u8 16), .lit (.int .u8 46), .lit (.int .u8 35), .lit (.int .u8 44), .lit (.int .u8 21), .lit (.int .u8 52), .lit (.int .u8 32), .lit (.int .u8 23), .lit (.int .u8 11), .lit (.int .u8 54), .lit (.int .u8 26), .lit (.int .u8 40), .lit (.int .u8 15), .lit (.int .u8 34), .lit (.int .u8 20), .lit (.int .u8 31), .lit (.int .u8 10), .lit (.int .u8 25), .lit (.int .u8 14), .lit (.int .u8 19), .lit (.int .u8 9), .lit (.int .u8 13), .lit (.int .u8 8), .lit (.int .u8 7), .lit (.int .u8 6)]
def laid_internal_strconv_uint64pow10 {H : Type} : DataW H := .agg [.lit (.int .u64 1), .lit (.int .u64 10), .lit (.int .u64 100), .lit (.int .u64 1000), .lit (.int .u64 10000), .lit (.int .u64 100000), .lit (.int .u64 1000000), .lit (.int .u64 10000000), .lit (.int .u64 100000000), .lit (.int .u64 1000000000), .lit (.int .u64 10000000000), .lit (.int .u64 100000000000), .lit (.int .u64 1000000000000), .lit (.int .u64 10000000000000), .lit (.int .u64 100000000000000), .lit (.int .u64 1000000000000000), .lit (.int .u64 10000000000000000), .lit (.int .u64 100000000000000000), .lit (.int .u64 1000000000000000000), .lit (.int .u64 10000000000000000000)]
def laid_palings_ast_signs {H : Type} : DataW H := .agg [.lit (.string []), .lit (.string [43]), .lit (.string [45]), .lit (.string [42]), .lit (.string [47]), .lit (.string [37]), .lit (.string [38]), .lit (.string [124]), .lit (.string [94]), .lit (.string [60, 60]), .lit (.string [62, 62]), .lit (.string [61, 61]), .lit (.string [33, 61]), .lit (.string [60]), .lit (.string [60, 61])]
def laid_palings_lex_words {H : Type} : DataW H := .slice [.lit (.string [101, 108, 115, 101]), .lit (.string [102, 97, 108, 115, 101]), .lit (.string [102, 117, 110, 99]), .lit (.string [105, 102]), .lit (.string [108, 101, 116]), .lit (.string [112, 117, 98, 108, 105, 99]), .lit (.string [114, 101, 116, 117, 114, 110]), .lit (.string [115, 101, 99, 114, 101, 116]), .lit (.string [116, 114, 117, 101]), .lit (.string [118, 97, 114]), .lit (.string [119, 104, 105, 108, 101])] []
def laid_palings_lex_marks {H : Type} : DataW H := .slice [.lit (.string [38, 38]), .lit (.string [124, 124]), .lit (.string [61, 61]), .lit (.string [33, 61]), .lit (.string [60, 61]), .lit (.string [62, 61]), .lit (.string [60, 60]), .lit (.string [62, 62]), .lit (.string [43]), .lit (.string [45]), .lit (.string [42]), .lit (.string [47]), .lit (.string [37]), .lit (.string [38]), .lit (.string [124]), .lit (.string [94]), .lit (.string [60]), .lit (.string [62]), .lit (.string [61]), .lit (.string [33]), .lit (.string [40]), .lit (.string [41]), .lit (.string [123]), .lit (.string [125]), .lit (.string [91]), .lit (.string [93]), .lit (.string [44]), .lit (.string [59])] []
def laid_palings_parse_levels {H : Type} : DataW H := .slice [.slice [.lit (.string [124, 124])] [], .slice [.lit (.string [38, 38])] [], .slice [.lit (.string [61, 61]), .lit (.string [33, 61]), .lit (.string [60]), .lit (.string [60, 61]), .lit (.string [62]), .lit (.string [62, 61])] [], .slice [.lit (.string [43]), .lit (.string [45]), .lit (.string [124]), .lit (.string [94])] [], .slice [.lit (.string [42]), .lit (.string [47]), .lit (.string [37]), .lit (.string [38]), .lit (.string [60, 60]), .lit (.string [62, 62])] []] []

/-- 'palingslaw04.ParseErrors': WHATEVER THE INPUT: true; the input reads as it did. -/
def parseErrorsSpec : ChangeSpec := { name := "parseErrors", fn := fun _ => fun
  | [d1, d2] => { results := [.lit (.bool true)], args := [d1, d2] }
  | _ => none }
def parseErrorsRow : OpenClaim := { program := "ytenkganofobioaadoor", sum := "697796febc6bbfda48cdb6575dbd05633d1bd45e85a63b9a93182ea2dd0ac201", func := "palings/palingslaw04.ParseErrors", spec := "parseErrors", inPlace := ["internal/bytealg.IndexByteString", "internal/abi.NoEscape", "internal/bytealg.MakeNoZero"], unfollowed := true, recurses := true, named := ["palings/lex.words", "palings/lex.marks", "palings/parse.levels", "palings/ast.signs", "internal/strconv.uint64pow10", "math/bits.deBruijn32tab", "math/bits.deBruijn64tab"], apart := false, laid := [("math/bits.deBruijn32tab", laid_math_bits_deBruijn32tab), ("math/bits.deBruijn64tab", laid_math_bits_deBruijn64tab), ("internal/strconv.uint64pow10", laid_internal_strconv_uint64pow10), ("palings/ast.signs", laid_palings_ast_signs), ("palings/lex.words", laid_palings_lex_words), ("palings/lex.marks", laid_palings_lex_marks), ("palings/parse.levels", laid_palings_parse_levels)] }
def ParseErrorsSaid : Prop := parseErrorsRow.holds Tryd.pinned (OpenSpec.ofChange parseErrorsSpec)

/-- ITS FALSE NEIGHBOUR: 'it returns false'. Refute it at one input. -/
def parseErrorsWrong : ChangeSpec := { name := "parseErrors", fn := fun _ => fun
  | [d1, d2] => { results := [.lit (.bool false)], args := [d1, d2] }
  | _ => none }
def ParseErrorsWrongFalsely : Prop := parseErrorsRow.holds Tryd.pinned (OpenSpec.ofChange parseErrorsWrong)

/-- 'palingslaw04.ParseNests': WHATEVER THE INPUT: true; the input reads as it did. -/
def parseNestsSpec : ChangeSpec := { name := "parseNests", fn := fun _ => fun
  | [d1, d2] => { results := [.lit (.bool true)], args := [d1, d2] }
  | _ => none }
def parseNestsRow : OpenClaim := { program := "ytenkganofobioaadoor", sum := "697796febc6bbfda48cdb6575dbd05633d1bd45e85a63b9a93182ea2dd0ac201", func := "palings/palingslaw04.ParseNests", spec := "parseNests", inPlace := ["internal/bytealg.IndexByteString", "internal/abi.NoEscape", "internal/bytealg.MakeNoZero"], unfollowed := true, recurses := true, named := ["palings/lex.words", "palings/lex.marks", "palings/parse.levels", "palings/ast.signs", "internal/strconv.uint64pow10", "math/bits.deBruijn32tab", "math/bits.deBruijn64tab"], apart := false, laid := [("math/bits.deBruijn32tab", laid_math_bits_deBruijn32tab), ("math/bits.deBruijn64tab", laid_math_bits_deBruijn64tab), ("internal/strconv.uint64pow10", laid_internal_strconv_uint64pow10), ("palings/ast.signs", laid_palings_ast_signs), ("palings/lex.words", laid_palings_lex_words), ("palings/lex.marks", laid_palings_lex_marks), ("palings/parse.levels", laid_palings_parse_levels)] }
def ParseNestsSaid : Prop := parseNestsRow.holds Tryd.pinned (OpenSpec.ofChange parseNestsSpec)

/-- ITS FALSE NEIGHBOUR: 'it returns false'. Refute it at one input. -/
def parseNestsWrong : ChangeSpec := { name := "parseNests", fn := fun _ => fun
  | [d1, d2] => { results := [.lit (.bool false)], args := [d1, d2] }
  | _ => none }
def ParseNestsWrongFalsely : Prop := parseNestsRow.holds Tryd.pinned (OpenSpec.ofChange parseNestsWrong)

/-- 'palingslaw04.ParseChains': WHATEVER THE INPUT: true; the input reads as it did. -/
def parseChainsSpec : ChangeSpec := { name := "parseChains", fn := fun _ => fun
  | [d1, d2] => { results := [.lit (.bool true)], args := [d1, d2] }
  | _ => none }
def parseChainsRow : OpenClaim := { program := "ytenkganofobioaadoor", sum := "697796febc6bbfda48cdb6575dbd05633d1bd45e85a63b9a93182ea2dd0ac201", func := "palings/palingslaw04.ParseChains", spec := "parseChains", inPlace := ["internal/bytealg.IndexByteString", "internal/abi.NoEscape", "internal/bytealg.MakeNoZero"], unfollowed := true, recurses := true, named := ["palings/lex.words", "palings/lex.marks", "palings/parse.levels", "palings/ast.signs", "internal/strconv.uint64pow10", "math/bits.deBruijn32tab", "math/bits.deBruijn64tab"], apart := false, laid := [("math/bits.deBruijn32tab", laid_math_bits_deBruijn32tab), ("math/bits.deBruijn64tab", laid_math_bits_deBruijn64tab), ("internal/strconv.uint64pow10", laid_internal_strconv_uint64pow10), ("palings/ast.signs", laid_palings_ast_signs), ("palings/lex.words", laid_palings_lex_words), ("palings/lex.marks", laid_palings_lex_marks), ("palings/parse.levels", laid_palings_parse_levels)] }
def ParseChainsSaid : Prop := parseChainsRow.holds Tryd.pinned (OpenSpec.ofChange parseChainsSpec)

/-- ITS FALSE NEIGHBOUR: 'it returns false'. Refute it at one input. -/
def parseChainsWrong : ChangeSpec := { name := "parseChains", fn := fun _ => fun
  | [d1, d2] => { results := [.lit (.bool false)], args := [d1, d2] }
  | _ => none }
def ParseChainsWrongFalsely : Prop := parseChainsRow.holds Tryd.pinned (OpenSpec.ofChange parseChainsWrong)

/-- 'palingslaw04.ParseArgs': WHATEVER THE INPUT: true; the input reads as it did. -/
def parseArgsSpec : ChangeSpec := { name := "parseArgs", fn := fun _ => fun
  | [d1, d2] => { results := [.lit (.bool true)], args := [d1, d2] }
  | _ => none }
def parseArgsRow : OpenClaim := { program := "ytenkganofobioaadoor", sum := "697796febc6bbfda48cdb6575dbd05633d1bd45e85a63b9a93182ea2dd0ac201", func := "palings/palingslaw04.ParseArgs", spec := "parseArgs", inPlace := ["internal/bytealg.IndexByteString", "internal/abi.NoEscape", "internal/bytealg.MakeNoZero"], unfollowed := true, recurses := true, named := ["palings/lex.words", "palings/lex.marks", "palings/parse.levels", "palings/ast.signs", "internal/strconv.uint64pow10", "math/bits.deBruijn32tab", "math/bits.deBruijn64tab"], apart := false, laid := [("math/bits.deBruijn32tab", laid_math_bits_deBruijn32tab), ("math/bits.deBruijn64tab", laid_math_bits_deBruijn64tab), ("internal/strconv.uint64pow10", laid_internal_strconv_uint64pow10), ("palings/ast.signs", laid_palings_ast_signs), ("palings/lex.words", laid_palings_lex_words), ("palings/lex.marks", laid_palings_lex_marks), ("palings/parse.levels", laid_palings_parse_levels)] }
def ParseArgsSaid : Prop := parseArgsRow.holds Tryd.pinned (OpenSpec.ofChange parseArgsSpec)

/-- ITS FALSE NEIGHBOUR: 'it returns false'. Refute it at one input. -/
def parseArgsWrong : ChangeSpec := { name := "parseArgs", fn := fun _ => fun
  | [d1, d2] => { results := [.lit (.bool false)], args := [d1, d2] }
  | _ => none }
def ParseArgsWrongFalsely : Prop := parseArgsRow.holds Tryd.pinned (OpenSpec.ofChange parseArgsWrong)

/-- 'palingslaw04.ParseBinds': WHATEVER THE INPUT: true; the input reads as it did. -/
def parseBindsSpec : ChangeSpec := { name := "parseBinds", fn := fun _ => fun
  | [d1, d2, d3, d4, d5, d6] => { results := [.lit (.bool true)], args := [d1, d2, d3, d4, d5, d6] }
  | _ => none }
def parseBindsRow : OpenClaim := { program := "ytenkganofobioaadoor", sum := "697796febc6bbfda48cdb6575dbd05633d1bd45e85a63b9a93182ea2dd0ac201", func := "palings/palingslaw04.ParseBinds", spec := "parseBinds", inPlace := ["internal/bytealg.IndexByteString", "internal/abi.NoEscape", "internal/bytealg.MakeNoZero"], unfollowed := true, recurses := true, named := ["palings/lex.words", "palings/lex.marks", "palings/parse.levels", "palings/ast.signs", "internal/strconv.uint64pow10", "math/bits.deBruijn32tab", "math/bits.deBruijn64tab"], apart := false, laid := [("math/bits.deBruijn32tab", laid_math_bits_deBruijn32tab), ("math/bits.deBruijn64tab", laid_math_bits_deBruijn64tab), ("internal/strconv.uint64pow10", laid_internal_strconv_uint64pow10), ("palings/ast.signs", laid_palings_ast_signs), ("palings/lex.words", laid_palings_lex_words), ("palings/lex.marks", laid_palings_lex_marks), ("palings/parse.levels", laid_palings_parse_levels)] }
def ParseBindsSaid : Prop := parseBindsRow.holds Tryd.pinned (OpenSpec.ofChange parseBindsSpec)

/-- ITS FALSE NEIGHBOUR: 'it returns false'. Refute it at one input. -/
def parseBindsWrong : ChangeSpec := { name := "parseBinds", fn := fun _ => fun
  | [d1, d2, d3, d4, d5, d6] => { results := [.lit (.bool false)], args := [d1, d2, d3, d4, d5, d6] }
  | _ => none }
def ParseBindsWrongFalsely : Prop := parseBindsRow.holds Tryd.pinned (OpenSpec.ofChange parseBindsWrong)

/-- 'palingslaw04.ParseAgain': WHATEVER THE INPUT: true; the input reads as it did. -/
def parseAgainSpec : ChangeSpec := { name := "parseAgain", fn := fun _ => fun
  | [d] => { results := [.lit (.bool true)], args := [d] }
  | _ => none }
def parseAgainRow : OpenClaim := { program := "ytenkganofobioaadoor", sum := "697796febc6bbfda48cdb6575dbd05633d1bd45e85a63b9a93182ea2dd0ac201", func := "palings/palingslaw04.ParseAgain", spec := "parseAgain", inPlace := ["internal/bytealg.IndexByteString", "internal/abi.NoEscape", "internal/bytealg.MakeNoZero"], unfollowed := true, recurses := true, named := ["palings/lex.words", "palings/lex.marks", "palings/parse.levels", "palings/ast.signs", "internal/strconv.uint64pow10", "math/bits.deBruijn32tab", "math/bits.deBruijn64tab"], apart := false, laid := [("math/bits.deBruijn32tab", laid_math_bits_deBruijn32tab), ("math/bits.deBruijn64tab", laid_math_bits_deBruijn64tab), ("internal/strconv.uint64pow10", laid_internal_strconv_uint64pow10), ("palings/ast.signs", laid_palings_ast_signs), ("palings/lex.words", laid_palings_lex_words), ("palings/lex.marks", laid_palings_lex_marks), ("palings/parse.levels", laid_palings_parse_levels)] }
def ParseAgainSaid : Prop := parseAgainRow.holds Tryd.pinned (OpenSpec.ofChange parseAgainSpec)

/-- ITS FALSE NEIGHBOUR: 'it returns false'. Refute it at one input. -/
def parseAgainWrong : ChangeSpec := { name := "parseAgain", fn := fun _ => fun
  | [d] => { results := [.lit (.bool false)], args := [d] }
  | _ => none }
def ParseAgainWrongFalsely : Prop := parseAgainRow.holds Tryd.pinned (OpenSpec.ofChange parseAgainWrong)

/- THE SECOND FORM. 'bulk': how many values and letters a reading holds, each counted each time it is reached (what is shared counts as often as it is met; a slice's spare places count too). A statement '..UptoSaid' is the law's where the arguments, and the package variables that the reading takes, are together of bulk at most 1048576: NARROWER than '..Said'. Prove '..Said' where nothing that the law and all that it calls make is longer than what came in: it says more and counts as full. Else prove '..UptoSaid'. A law counts once. -/
mutual
def uptoBulk {H : Type} : DataW H → Nat
  | .lit (.string bytes) => bytes.length + 1
  | .lit _ => 1
  | .nil => 1
  | .ptr d => uptoBulk d + 1
  | .slice elems spare => uptoBulkAll elems + uptoBulkAll spare + 1
  | .agg parts => uptoBulkAll parts + 1
  | .iface _ d => uptoBulk d + 1
  | .map entries => uptoBulkEntries entries + 1
  | .held _ => 1
def uptoBulkAll {H : Type} : List (DataW H) → Nat
  | [] => 0
  | d :: r => uptoBulk d + uptoBulkAll r
def uptoBulkEntries {H : Type} : List (Lit × DataW H) → Nat
  | [] => 0
  | x :: r => uptoBulkEntry x + uptoBulkEntries r
def uptoBulkEntry {H : Type} : Lit × DataW H → Nat
  | (.string bytes, d) => bytes.length + uptoBulk d + 1
  | (_, d) => uptoBulk d + 1
 end
def uptoSmall : (H : Type) → List (DataW H) → Bool := fun _ ds => decide (uptoBulkAll ds ≤ 1048576)
def OpenSpec.upto (s : _root_.Go.ChangeSpec) : _root_.Go.OpenSpec := { _root_.Go.OpenSpec.ofChange s with cond := some uptoSmall }

/-- 'palingslaw04.ParseErrors', WHERE WHAT IT READS IS OF BULK AT MOST 1048576: true; the input reads as it did. -/
def parseErrorsUptoRow : OpenClaim := { program := "ytenkganofobioaadoor", sum := "697796febc6bbfda48cdb6575dbd05633d1bd45e85a63b9a93182ea2dd0ac201", func := "palings/palingslaw04.ParseErrors", spec := "parseErrors", inPlace := ["internal/bytealg.IndexByteString", "internal/abi.NoEscape", "internal/bytealg.MakeNoZero"], unfollowed := true, recurses := true, named := ["palings/lex.words", "palings/lex.marks", "palings/parse.levels", "palings/ast.signs", "internal/strconv.uint64pow10", "math/bits.deBruijn32tab", "math/bits.deBruijn64tab"], apart := false, laid := [("math/bits.deBruijn32tab", laid_math_bits_deBruijn32tab), ("math/bits.deBruijn64tab", laid_math_bits_deBruijn64tab), ("internal/strconv.uint64pow10", laid_internal_strconv_uint64pow10), ("palings/ast.signs", laid_palings_ast_signs), ("palings/lex.words", laid_palings_lex_words), ("palings/lex.marks", laid_palings_lex_marks), ("palings/parse.levels", laid_palings_parse_levels)], narrowed := true }
def ParseErrorsUptoSaid : Prop := parseErrorsUptoRow.holds Tryd.pinned (OpenSpec.upto parseErrorsSpec)

/-- 'palingslaw04.ParseNests', WHERE WHAT IT READS IS OF BULK AT MOST 1048576: true; the input reads as it did. -/
def parseNestsUptoRow : OpenClaim := { program := "ytenkganofobioaadoor", sum := "697796febc6bbfda48cdb6575dbd05633d1bd45e85a63b9a93182ea2dd0ac201", func := "palings/palingslaw04.ParseNests", spec := "parseNests", inPlace := ["internal/bytealg.IndexByteString", "internal/abi.NoEscape", "internal/bytealg.MakeNoZero"], unfollowed := true, recurses := true, named := ["palings/lex.words", "palings/lex.marks", "palings/parse.levels", "palings/ast.signs", "internal/strconv.uint64pow10", "math/bits.deBruijn32tab", "math/bits.deBruijn64tab"], apart := false, laid := [("math/bits.deBruijn32tab", laid_math_bits_deBruijn32tab), ("math/bits.deBruijn64tab", laid_math_bits_deBruijn64tab), ("internal/strconv.uint64pow10", laid_internal_strconv_uint64pow10), ("palings/ast.signs", laid_palings_ast_signs), ("palings/lex.words", laid_palings_lex_words), ("palings/lex.marks", laid_palings_lex_marks), ("palings/parse.levels", laid_palings_parse_levels)], narrowed := true }
def ParseNestsUptoSaid : Prop := parseNestsUptoRow.holds Tryd.pinned (OpenSpec.upto parseNestsSpec)

/-- 'palingslaw04.ParseChains', WHERE WHAT IT READS IS OF BULK AT MOST 1048576: true; the input reads as it did. -/
def parseChainsUptoRow : OpenClaim := { program := "ytenkganofobioaadoor", sum := "697796febc6bbfda48cdb6575dbd05633d1bd45e85a63b9a93182ea2dd0ac201", func := "palings/palingslaw04.ParseChains", spec := "parseChains", inPlace := ["internal/bytealg.IndexByteString", "internal/abi.NoEscape", "internal/bytealg.MakeNoZero"], unfollowed := true, recurses := true, named := ["palings/lex.words", "palings/lex.marks", "palings/parse.levels", "palings/ast.signs", "internal/strconv.uint64pow10", "math/bits.deBruijn32tab", "math/bits.deBruijn64tab"], apart := false, laid := [("math/bits.deBruijn32tab", laid_math_bits_deBruijn32tab), ("math/bits.deBruijn64tab", laid_math_bits_deBruijn64tab), ("internal/strconv.uint64pow10", laid_internal_strconv_uint64pow10), ("palings/ast.signs", laid_palings_ast_signs), ("palings/lex.words", laid_palings_lex_words), ("palings/lex.marks", laid_palings_lex_marks), ("palings/parse.levels", laid_palings_parse_levels)], narrowed := true }
def ParseChainsUptoSaid : Prop := parseChainsUptoRow.holds Tryd.pinned (OpenSpec.upto parseChainsSpec)

/-- 'palingslaw04.ParseArgs', WHERE WHAT IT READS IS OF BULK AT MOST 1048576: true; the input reads as it did. -/
def parseArgsUptoRow : OpenClaim := { program := "ytenkganofobioaadoor", sum := "697796febc6bbfda48cdb6575dbd05633d1bd45e85a63b9a93182ea2dd0ac201", func := "palings/palingslaw04.ParseArgs", spec := "parseArgs", inPlace := ["internal/bytealg.IndexByteString", "internal/abi.NoEscape", "internal/bytealg.MakeNoZero"], unfollowed := true, recurses := true, named := ["palings/lex.words", "palings/lex.marks", "palings/parse.levels", "palings/ast.signs", "internal/strconv.uint64pow10", "math/bits.deBruijn32tab", "math/bits.deBruijn64tab"], apart := false, laid := [("math/bits.deBruijn32tab", laid_math_bits_deBruijn32tab), ("math/bits.deBruijn64tab", laid_math_bits_deBruijn64tab), ("internal/strconv.uint64pow10", laid_internal_strconv_uint64pow10), ("palings/ast.signs", laid_palings_ast_signs), ("palings/lex.words", laid_palings_lex_words), ("palings/lex.marks", laid_palings_lex_marks), ("palings/parse.levels", laid_palings_parse_levels)], narrowed := true }
def ParseArgsUptoSaid : Prop := parseArgsUptoRow.holds Tryd.pinned (OpenSpec.upto parseArgsSpec)

/-- 'palingslaw04.ParseBinds', WHERE WHAT IT READS IS OF BULK AT MOST 1048576: true; the input reads as it did. -/
def parseBindsUptoRow : OpenClaim := { program := "ytenkganofobioaadoor", sum := "697796febc6bbfda48cdb6575dbd05633d1bd45e85a63b9a93182ea2dd0ac201", func := "palings/palingslaw04.ParseBinds", spec := "parseBinds", inPlace := ["internal/bytealg.IndexByteString", "internal/abi.NoEscape", "internal/bytealg.MakeNoZero"], unfollowed := true, recurses := true, named := ["palings/lex.words", "palings/lex.marks", "palings/parse.levels", "palings/ast.signs", "internal/strconv.uint64pow10", "math/bits.deBruijn32tab", "math/bits.deBruijn64tab"], apart := false, laid := [("math/bits.deBruijn32tab", laid_math_bits_deBruijn32tab), ("math/bits.deBruijn64tab", laid_math_bits_deBruijn64tab), ("internal/strconv.uint64pow10", laid_internal_strconv_uint64pow10), ("palings/ast.signs", laid_palings_ast_signs), ("palings/lex.words", laid_palings_lex_words), ("palings/lex.marks", laid_palings_lex_marks), ("palings/parse.levels", laid_palings_parse_levels)], narrowed := true }
def ParseBindsUptoSaid : Prop := parseBindsUptoRow.holds Tryd.pinned (OpenSpec.upto parseBindsSpec)

/-- 'palingslaw04.ParseAgain', WHERE WHAT IT READS IS OF BULK AT MOST 1048576: true; the input reads as it did. -/
def parseAgainUptoRow : OpenClaim := { program := "ytenkganofobioaadoor", sum := "697796febc6bbfda48cdb6575dbd05633d1bd45e85a63b9a93182ea2dd0ac201", func := "palings/palingslaw04.ParseAgain", spec := "parseAgain", inPlace := ["internal/bytealg.IndexByteString", "internal/abi.NoEscape", "internal/bytealg.MakeNoZero"], unfollowed := true, recurses := true, named := ["palings/lex.words", "palings/lex.marks", "palings/parse.levels", "palings/ast.signs", "internal/strconv.uint64pow10", "math/bits.deBruijn32tab", "math/bits.deBruijn64tab"], apart := false, laid := [("math/bits.deBruijn32tab", laid_math_bits_deBruijn32tab), ("math/bits.deBruijn64tab", laid_math_bits_deBruijn64tab), ("internal/strconv.uint64pow10", laid_internal_strconv_uint64pow10), ("palings/ast.signs", laid_palings_ast_signs), ("palings/lex.words", laid_palings_lex_words), ("palings/lex.marks", laid_palings_lex_marks), ("palings/parse.levels", laid_palings_parse_levels)], narrowed := true }
def ParseAgainUptoSaid : Prop := parseAgainUptoRow.holds Tryd.pinned (OpenSpec.upto parseAgainSpec)

end Rows
end Go.Proofs.YtenkganofobioaaDoor
