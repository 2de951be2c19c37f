/-
  NARROWER THAN 'FOR EVERY INPUT', by the rows' own cells (each row's printed sentence says how): LexAny: laid · LexBytes: laid · LexLong: laid · LexAgain: laid · LexNumbers: laid · LexPieces: laid.
  DERIVED. THE GIVEN ROWS OF THIS SEAT. 6 by the template 'for every input the law returns true; each argument reads behind the call as it read before'; 0 by the template 'total and deterministic' (their statements: YtfljigegjhnidaaDoorTotals.lean).
  GIVEN WITH THE SEED: the statements are not yours to turn. If you find one false, say at which input.
  Laid BY PROGRAM, IN A SANDBOX (cutbox-rows.mjs): the forced cells as the released guide's own fill.sh prints them over the translation 2d75dee398e07595… (all of the seat's roots in one cut). By AI agents, Wed Nov 11 2026. No macro, syntax, notation, axiom, sorry.
-/
import Derived.Test.YtfljigegjhnidaaDoorChecked
import GoSem.Claim
import GoSem.ClaimJoined
import GoSem.ClaimMapViews
import Derived.JoinedTies
import Derived.KernelRfl
namespace Go.Proofs.YtfljigegjhnidaaDoor
/- THE CELL 'sum', in the pinned program and in every row, IS THE sha256 OF THE DUMP (.gsa) THAT YtfljigegjhnidaaDoorProg.lean LOADS. Nothing in Lean hashes anything: it is a label: what it is worth is what the hold of that sum in a sandbox is worth. -/
noncomputable def Tryd.pinned : Pinned := { name := "ytfljigegjhnidaadoor", sum := "2d75dee398e075954c6bbdc369550234ef835139e27c96033381d00d18b46d30", checked := Tryd.checked }
namespace Rows
def none {H : Type} : Left H := { results := [], args := [] }

/- WHAT THE LISTED PACKAGE-LEVEL VARIABLES READ AS WHEN THE CALL BEGINS. Each datum BY PROGRAM (the guide's laid-datum.mjs) off the statement by which the dump's own 'gosem.cut.vars' lays the variable. In a bare row this is a premise. The card (YtfljigegjhnidaaDoorCards.lean) ties it to the program's text. -/
def laid_palings_lex_words {H : Type} : DataW H := .slice [.lit (.string [101, 108, 115, 101]), .lit (.string [102, 97, 108, 115, 101]), .lit (.string [102, 117, 110, 99]), .lit (.string [105, 102]), .lit (.string [108, 101, 116]), .lit (.string [112, 117, 98, 108, 105, 99]), .lit (.string [114, 101, 116, 117, 114, 110]), .lit (.string [115, 101, 99, 114, 101, 116]), .lit (.string [116, 114, 117, 101]), .lit (.string [118, 97, 114]), .lit (.string [119, 104, 105, 108, 101])] []
def laid_palings_lex_marks {H : Type} : DataW H := .slice [.lit (.string [38, 38]), .lit (.string [124, 124]), .lit (.string [61, 61]), .lit (.string [33, 61]), .lit (.string [60, 61]), .lit (.string [62, 61]), .lit (.string [60, 60]), .lit (.string [62, 62]), .lit (.string [43]), .lit (.string [45]), .lit (.string [42]), .lit (.string [47]), .lit (.string [37]), .lit (.string [38]), .lit (.string [124]), .lit (.string [94]), .lit (.string [60]), .lit (.string [62]), .lit (.string [61]), .lit (.string [33]), .lit (.string [40]), .lit (.string [41]), .lit (.string [123]), .lit (.string [125]), .lit (.string [91]), .lit (.string [93]), .lit (.string [44]), .lit (.string [59])] []
def laid_palings_palingslaw02_marks {H : Type} : DataW H := .slice [.lit (.string [38, 38]), .lit (.string [124, 124]), .lit (.string [61, 61]), .lit (.string [33, 61]), .lit (.string [60, 61]), .lit (.string [62, 61]), .lit (.string [60, 60]), .lit (.string [62, 62]), .lit (.string [43]), .lit (.string [45]), .lit (.string [42]), .lit (.string [47]), .lit (.string [37]), .lit (.string [38]), .lit (.string [124]), .lit (.string [94]), .lit (.string [60]), .lit (.string [62]), .lit (.string [61]), .lit (.string [33]), .lit (.string [40]), .lit (.string [41]), .lit (.string [123]), .lit (.string [125]), .lit (.string [91]), .lit (.string [93]), .lit (.string [44]), .lit (.string [59])] []
def laid_math_bits_deBruijn32tab {H : Type} : DataW H := .agg [.lit (.int .u8 0), .lit (.int .u8 1), .lit (.int .u8 28), .lit (.int .u8 2), .lit (.int .u8 29), .lit (.int .u8 14), .lit (.int .u8 24), .lit (.int .u8 3), .lit (.int .u8 30), .lit (.int .u8 22), .lit (.int .u8 20), .lit (.int .u8 15), .lit (.int .u8 25), .lit (.int .u8 17), .lit (.int .u8 4), .lit (.int .u8 8), .lit (.int .u8 31), .lit (.int .u8 27), .lit (.int .u8 13), .lit (.int .u8 23), .lit (.int .u8 21), .lit (.int .u8 19), .lit (.int .u8 16), .lit (.int .u8 7), .lit (.int .u8 26), .lit (.int .u8 12), .lit (.int .u8 18), .lit (.int .u8 6), .lit (.int .u8 11), .lit (.int .u8 5), .lit (.int .u8 10), .lit (.int .u8 9)]
def laid_math_bits_deBruijn64tab {H : Type} : DataW H := .agg [.lit (.int .u8 0), .lit (.int .u8 1), .lit (.int .u8 56), .lit (.int .u8 2), .lit (.int .u8 57), .lit (.int .u8 49), .lit (.int .u8 28), .lit (.int .u8 3), .lit (.int .u8 61), .lit (.int .u8 58), .lit (.int .u8 42), .lit (.int .u8 50), .lit (.int .u8 38), .lit (.int .u8 29), .lit (.int .u8 17), .lit (.int .u8 4), .lit (.int .u8 62), .lit (.int .u8 47), .lit (.int .u8 59), .lit (.int .u8 36), .lit (.int .u8 45), .lit (.int .u8 43), .lit (.int .u8 51), .lit (.int .u8 22), .lit (.int .u8 53), .lit (.int .u8 39), .lit (.int .u8 33), .lit (.int .u8 30), .lit (.int .u8 24), .lit (.int .u8 18), .lit (.int .u8 12), .lit (.int .u8 5), .lit (.int .u8 63), .lit (.int .u8 55), .lit (.int .u8 48), .lit (.int .u8 27), .lit (.int .u8 60), .lit (.int .u8 41), .lit (.int .u8 37), .lit (.int .u8 16), .lit (.int .u8 46), .lit (.int .u8 35), .lit (.int .u8 44), .lit (.int .u8 21), .lit (.int .u8 52), .lit (.int .u8 32), .lit (.int .u8 23), .lit (.int .u8 11), .lit (.int .u8 54), .lit (.int .u8 26), .lit (.int .u8 40), .lit (.int .u8 15), .lit (.int .u8 34), .lit (.int .u8 20), .lit (.int .u8 31), .lit (.int .u8 10), .lit (.int .u8 25), .lit (.int .u8 14), .lit (.int .u8 19), .lit (.int .u8 9), .lit (.int .u8 13), .lit (.int .u8 8), .lit (.int .u8 7), .lit (.int .u8 6)]
def laid_internal_strconv_uint64pow10 {H : Type} : DataW H := .agg [.lit (.int .u64 1), .lit (.int .u64 10), .lit (.int .u64 100), .lit (.int .u64 1000), .lit (.int .u64 10000), .lit (.int .u64 100000), .lit (.int .u64 1000000), .lit (.int .u64 10000000), .lit (.int .u64 100000000), .lit (.int .u64 1000000000), .lit (.int .u64 10000000000), .lit (.int .u64 100000000000), .lit (.int .u64 1000000000000), .lit (.int .u64 10000000000000), .lit (.int .u64 100000000000000), .lit (.int .u64 1000000000000000), .lit (.int .u64 10000000000000000), .lit (.int .u64 100000000000000000), .lit (.int .u64 1000000000000000000), .lit (.int .u64 10000000000000000000)]
def laid_palings_palingslaw02_words {H : Type} : DataW H := .slice [.lit (.string [101, 108, 115, 101]), .lit (.string [102, 97, 108, 115, 101]), .lit (.string [102, 117, 110, 99]), .lit (.string [105, 102]), .lit (.string [108, 101, 116]), .lit (.string [112, 117, 98, 108, 105, 99]), .lit (.string [114, 101, 116, 117, 114, 110]), .lit (.string [115, 101, 99, 114, 101, 116]), .lit (.string [116, 114, 117, 101]), .lit (.string [118, 97, 114]), .lit (.string [119, 104, 105, 108, 101])] []

/-- 'palingslaw02.LexAny': WHATEVER THE INPUT: true; the input reads as it did. -/
def lexAnySpec : ChangeSpec := { name := "lexAny", fn := fun _ => fun
  | [d] => { results := [.lit (.bool true)], args := [d] }
  | _ => none }
def lexAnyRow : OpenClaim := { program := "ytfljigegjhnidaadoor", sum := "2d75dee398e075954c6bbdc369550234ef835139e27c96033381d00d18b46d30", func := "palings/palingslaw02.LexAny", spec := "lexAny", inPlace := ["internal/bytealg.IndexByteString"], unfollowed := true, recurses := true, named := ["palings/lex.words", "palings/lex.marks"], apart := false, laid := [("palings/lex.words", laid_palings_lex_words), ("palings/lex.marks", laid_palings_lex_marks)] }
def LexAnySaid : Prop := lexAnyRow.holds Tryd.pinned (OpenSpec.ofChange lexAnySpec)

/-- ITS FALSE NEIGHBOUR: 'it returns false'. Refute it at one input. -/
def lexAnyWrong : ChangeSpec := { name := "lexAny", fn := fun _ => fun
  | [d] => { results := [.lit (.bool false)], args := [d] }
  | _ => none }
def LexAnyWrongFalsely : Prop := lexAnyRow.holds Tryd.pinned (OpenSpec.ofChange lexAnyWrong)

/-- 'palingslaw02.LexBytes': WHATEVER THE INPUT: true; the input reads as it did. -/
def lexBytesSpec : ChangeSpec := { name := "lexBytes", fn := fun _ => fun
  | [d] => { results := [.lit (.bool true)], args := [d] }
  | _ => none }
def lexBytesRow : OpenClaim := { program := "ytfljigegjhnidaadoor", sum := "2d75dee398e075954c6bbdc369550234ef835139e27c96033381d00d18b46d30", func := "palings/palingslaw02.LexBytes", spec := "lexBytes", inPlace := ["internal/bytealg.IndexByteString"], named := ["palings/palingslaw02.marks", "palings/lex.words", "palings/lex.marks"], apart := false, laid := [("palings/lex.words", laid_palings_lex_words), ("palings/lex.marks", laid_palings_lex_marks), ("palings/palingslaw02.marks", laid_palings_palingslaw02_marks)] }
def LexBytesSaid : Prop := lexBytesRow.holds Tryd.pinned (OpenSpec.ofChange lexBytesSpec)

/-- ITS FALSE NEIGHBOUR: 'it returns false'. Refute it at one input. -/
def lexBytesWrong : ChangeSpec := { name := "lexBytes", fn := fun _ => fun
  | [d] => { results := [.lit (.bool false)], args := [d] }
  | _ => none }
def LexBytesWrongFalsely : Prop := lexBytesRow.holds Tryd.pinned (OpenSpec.ofChange lexBytesWrong)

/-- 'palingslaw02.LexLong': WHATEVER THE INPUT: true; the input reads as it did. -/
def lexLongSpec : ChangeSpec := { name := "lexLong", fn := fun _ => fun
  | [d] => { results := [.lit (.bool true)], args := [d] }
  | _ => none }
def lexLongRow : OpenClaim := { program := "ytfljigegjhnidaadoor", sum := "2d75dee398e075954c6bbdc369550234ef835139e27c96033381d00d18b46d30", func := "palings/palingslaw02.LexLong", spec := "lexLong", inPlace := ["internal/bytealg.IndexByteString"], named := ["palings/lex.words", "palings/lex.marks"], apart := false, laid := [("palings/lex.words", laid_palings_lex_words), ("palings/lex.marks", laid_palings_lex_marks)] }
def LexLongSaid : Prop := lexLongRow.holds Tryd.pinned (OpenSpec.ofChange lexLongSpec)

/-- ITS FALSE NEIGHBOUR: 'it returns false'. Refute it at one input. -/
def lexLongWrong : ChangeSpec := { name := "lexLong", fn := fun _ => fun
  | [d] => { results := [.lit (.bool false)], args := [d] }
  | _ => none }
def LexLongWrongFalsely : Prop := lexLongRow.holds Tryd.pinned (OpenSpec.ofChange lexLongWrong)

/-- 'palingslaw02.LexAgain': WHATEVER THE INPUT: true; the input reads as it did. -/
def lexAgainSpec : ChangeSpec := { name := "lexAgain", fn := fun _ => fun
  | [d] => { results := [.lit (.bool true)], args := [d] }
  | _ => none }
def lexAgainRow : OpenClaim := { program := "ytfljigegjhnidaadoor", sum := "2d75dee398e075954c6bbdc369550234ef835139e27c96033381d00d18b46d30", func := "palings/palingslaw02.LexAgain", spec := "lexAgain", inPlace := ["internal/bytealg.IndexByteString"], named := ["palings/lex.words", "palings/lex.marks"], apart := false, laid := [("palings/lex.words", laid_palings_lex_words), ("palings/lex.marks", laid_palings_lex_marks)] }
def LexAgainSaid : Prop := lexAgainRow.holds Tryd.pinned (OpenSpec.ofChange lexAgainSpec)

/-- ITS FALSE NEIGHBOUR: 'it returns false'. Refute it at one input. -/
def lexAgainWrong : ChangeSpec := { name := "lexAgain", fn := fun _ => fun
  | [d] => { results := [.lit (.bool false)], args := [d] }
  | _ => none }
def LexAgainWrongFalsely : Prop := lexAgainRow.holds Tryd.pinned (OpenSpec.ofChange lexAgainWrong)

/-- 'palingslaw02.LexNumbers': WHATEVER THE INPUT: true; the input reads as it did. -/
def lexNumbersSpec : ChangeSpec := { name := "lexNumbers", fn := fun _ => fun
  | [d1, d2] => { results := [.lit (.bool true)], args := [d1, d2] }
  | _ => none }
def lexNumbersRow : OpenClaim := { program := "ytfljigegjhnidaadoor", sum := "2d75dee398e075954c6bbdc369550234ef835139e27c96033381d00d18b46d30", func := "palings/palingslaw02.LexNumbers", spec := "lexNumbers", inPlace := ["internal/bytealg.IndexByteString"], named := ["palings/lex.words", "palings/lex.marks", "internal/strconv.uint64pow10", "math/bits.deBruijn32tab", "math/bits.deBruijn64tab"], apart := false, laid := [("math/bits.deBruijn32tab", laid_math_bits_deBruijn32tab), ("math/bits.deBruijn64tab", laid_math_bits_deBruijn64tab), ("internal/strconv.uint64pow10", laid_internal_strconv_uint64pow10), ("palings/lex.words", laid_palings_lex_words), ("palings/lex.marks", laid_palings_lex_marks)] }
def LexNumbersSaid : Prop := lexNumbersRow.holds Tryd.pinned (OpenSpec.ofChange lexNumbersSpec)

/-- ITS FALSE NEIGHBOUR: 'it returns false'. Refute it at one input. -/
def lexNumbersWrong : ChangeSpec := { name := "lexNumbers", fn := fun _ => fun
  | [d1, d2] => { results := [.lit (.bool false)], args := [d1, d2] }
  | _ => none }
def LexNumbersWrongFalsely : Prop := lexNumbersRow.holds Tryd.pinned (OpenSpec.ofChange lexNumbersWrong)

/-- 'palingslaw02.LexPieces': WHATEVER THE INPUT: true; the input reads as it did. -/
def lexPiecesSpec : ChangeSpec := { name := "lexPieces", fn := fun _ => fun
  | [d] => { results := [.lit (.bool true)], args := [d] }
  | _ => none }
def lexPiecesRow : OpenClaim := { program := "ytfljigegjhnidaadoor", sum := "2d75dee398e075954c6bbdc369550234ef835139e27c96033381d00d18b46d30", func := "palings/palingslaw02.LexPieces", spec := "lexPieces", inPlace := ["internal/bytealg.IndexByteString"], named := ["palings/palingslaw02.words", "palings/palingslaw02.marks", "palings/lex.words", "palings/lex.marks", "internal/strconv.uint64pow10", "math/bits.deBruijn32tab", "math/bits.deBruijn64tab"], apart := false, laid := [("math/bits.deBruijn32tab", laid_math_bits_deBruijn32tab), ("math/bits.deBruijn64tab", laid_math_bits_deBruijn64tab), ("internal/strconv.uint64pow10", laid_internal_strconv_uint64pow10), ("palings/lex.words", laid_palings_lex_words), ("palings/lex.marks", laid_palings_lex_marks), ("palings/palingslaw02.words", laid_palings_palingslaw02_words), ("palings/palingslaw02.marks", laid_palings_palingslaw02_marks)] }
def LexPiecesSaid : Prop := lexPiecesRow.holds Tryd.pinned (OpenSpec.ofChange lexPiecesSpec)

/-- ITS FALSE NEIGHBOUR: 'it returns false'. Refute it at one input. -/
def lexPiecesWrong : ChangeSpec := { name := "lexPieces", fn := fun _ => fun
  | [d] => { results := [.lit (.bool false)], args := [d] }
  | _ => none }
def LexPiecesWrongFalsely : Prop := lexPiecesRow.holds Tryd.pinned (OpenSpec.ofChange lexPiecesWrong)

/- THE SECOND FORM. 'bulk': how many values and letters a reading holds, each counted each time it is reached (what is shared counts as often as it is met; a slice's spare places count too). A statement '..UptoSaid' is the law's where the arguments, and the package variables that the reading takes, are together of bulk at most 1048576: NARROWER than '..Said'. Prove '..Said' where nothing that the law and all that it calls make is longer than what came in: it says more and counts as full. Else prove '..UptoSaid'. A law counts once. -/
mutual
def uptoBulk {H : Type} : DataW H → Nat
  | .lit (.string bytes) => bytes.length + 1
  | .lit _ => 1
  | .nil => 1
  | .ptr d => uptoBulk d + 1
  | .slice elems spare => uptoBulkAll elems + uptoBulkAll spare + 1
  | .agg parts => uptoBulkAll parts + 1
  | .iface _ d => uptoBulk d + 1
  | .map entries => uptoBulkEntries entries + 1
  | .held _ => 1
def uptoBulkAll {H : Type} : List (DataW H) → Nat
  | [] => 0
  | d :: r => uptoBulk d + uptoBulkAll r
def uptoBulkEntries {H : Type} : List (Lit × DataW H) → Nat
  | [] => 0
  | x :: r => uptoBulkEntry x + uptoBulkEntries r
def uptoBulkEntry {H : Type} : Lit × DataW H → Nat
  | (.string bytes, d) => bytes.length + uptoBulk d + 1
  | (_, d) => uptoBulk d + 1
 end
def uptoSmall : (H : Type) → List (DataW H) → Bool := fun _ ds => decide (uptoBulkAll ds ≤ 1048576)
def OpenSpec.upto (s : _root_.Go.ChangeSpec) : _root_.Go.OpenSpec := { _root_.Go.OpenSpec.ofChange s with cond := some uptoSmall }

/-- 'palingslaw02.LexAny', WHERE WHAT IT READS IS OF BULK AT MOST 1048576: true; the input reads as it did. -/
def lexAnyUptoRow : OpenClaim := { program := "ytfljigegjhnidaadoor", sum := "2d75dee398e075954c6bbdc369550234ef835139e27c96033381d00d18b46d30", func := "palings/palingslaw02.LexAny", spec := "lexAny", inPlace := ["internal/bytealg.IndexByteString"], unfollowed := true, recurses := true, named := ["palings/lex.words", "palings/lex.marks"], apart := false, laid := [("palings/lex.words", laid_palings_lex_words), ("palings/lex.marks", laid_palings_lex_marks)], narrowed := true }
def LexAnyUptoSaid : Prop := lexAnyUptoRow.holds Tryd.pinned (OpenSpec.upto lexAnySpec)

/-- 'palingslaw02.LexBytes', WHERE WHAT IT READS IS OF BULK AT MOST 1048576: true; the input reads as it did. -/
def lexBytesUptoRow : OpenClaim := { program := "ytfljigegjhnidaadoor", sum := "2d75dee398e075954c6bbdc369550234ef835139e27c96033381d00d18b46d30", func := "palings/palingslaw02.LexBytes", spec := "lexBytes", inPlace := ["internal/bytealg.IndexByteString"], named := ["palings/palingslaw02.marks", "palings/lex.words", "palings/lex.marks"], apart := false, laid := [("palings/lex.words", laid_palings_lex_words), ("palings/lex.marks", laid_palings_lex_marks), ("palings/palingslaw02.marks", laid_palings_palingslaw02_marks)], narrowed := true }
def LexBytesUptoSaid : Prop := lexBytesUptoRow.holds Tryd.pinned (OpenSpec.upto lexBytesSpec)

/-- 'palingslaw02.LexLong', WHERE WHAT IT READS IS OF BULK AT MOST 1048576: true; the input reads as it did. -/
def lexLongUptoRow : OpenClaim := { program := "ytfljigegjhnidaadoor", sum := "2d75dee398e075954c6bbdc369550234ef835139e27c96033381d00d18b46d30", func := "palings/palingslaw02.LexLong", spec := "lexLong", inPlace := ["internal/bytealg.IndexByteString"], named := ["palings/lex.words", "palings/lex.marks"], apart := false, laid := [("palings/lex.words", laid_palings_lex_words), ("palings/lex.marks", laid_palings_lex_marks)], narrowed := true }
def LexLongUptoSaid : Prop := lexLongUptoRow.holds Tryd.pinned (OpenSpec.upto lexLongSpec)

/-- 'palingslaw02.LexAgain', WHERE WHAT IT READS IS OF BULK AT MOST 1048576: true; the input reads as it did. -/
def lexAgainUptoRow : OpenClaim := { program := "ytfljigegjhnidaadoor", sum := "2d75dee398e075954c6bbdc369550234ef835139e27c96033381d00d18b46d30", func := "palings/palingslaw02.LexAgain", spec := "lexAgain", inPlace := ["internal/bytealg.IndexByteString"], named := ["palings/lex.words", "palings/lex.marks"], apart := false, laid := [("palings/lex.words", laid_palings_lex_words), ("palings/lex.marks", laid_palings_lex_marks)], narrowed := true }
def LexAgainUptoSaid : Prop := lexAgainUptoRow.holds Tryd.pinned (OpenSpec.upto lexAgainSpec)

/-- 'palingslaw02.LexNumbers', WHERE WHAT IT READS IS OF BULK AT MOST 1048576: true; the input reads as it did. -/
def lexNumbersUptoRow : OpenClaim := { program := "ytfljigegjhnidaadoor", sum := "2d75dee398e075954c6bbdc369550234ef835139e27c96033381d00d18b46d30", func := "palings/palingslaw02.LexNumbers", spec := "lexNumbers", inPlace := ["internal/bytealg.IndexByteString"], named := ["palings/lex.words", "palings/lex.marks", "internal/strconv.uint64pow10", "math/bits.deBruijn32tab", "math/bits.deBruijn64tab"], apart := false, laid := [("math/bits.deBruijn32tab", laid_math_bits_deBruijn32tab), ("math/bits.deBruijn64tab", laid_math_bits_deBruijn64tab), ("internal/strconv.uint64pow10", laid_internal_strconv_uint64pow10), ("palings/lex.words", laid_palings_lex_words), ("palings/lex.marks", laid_palings_lex_marks)], narrowed := true }
def LexNumbersUptoSaid : Prop := lexNumbersUptoRow.holds Tryd.pinned (OpenSpec.upto lexNumbersSpec)

/-- 'palingslaw02.LexPieces', WHERE WHAT IT READS IS OF BULK AT MOST 1048576: true; the input reads as it did. -/
def lexPiecesUptoRow : OpenClaim := { program := "ytfljigegjhnidaadoor", sum := "2d75dee398e075954c6bbdc369550234ef835139e27c96033381d00d18b46d30", func := "palings/palingslaw02.LexPieces", spec := "lexPieces", inPlace := ["internal/bytealg.IndexByteString"], named := ["palings/palingslaw02.words", "palings/palingslaw02.marks", "palings/lex.words", "palings/lex.marks", "internal/strconv.uint64pow10", "math/bits.deBruijn32tab", "math/bits.deBruijn64tab"], apart := false, laid := [("math/bits.deBruijn32tab", laid_math_bits_deBruijn32tab), ("math/bits.deBruijn64tab", laid_math_bits_deBruijn64tab), ("internal/strconv.uint64pow10", laid_internal_strconv_uint64pow10), ("palings/lex.words", laid_palings_lex_words), ("palings/lex.marks", laid_palings_lex_marks), ("palings/palingslaw02.words", laid_palings_palingslaw02_words), ("palings/palingslaw02.marks", laid_palings_palingslaw02_marks)], narrowed := true }
def LexPiecesUptoSaid : Prop := lexPiecesUptoRow.holds Tryd.pinned (OpenSpec.upto lexPiecesSpec)

end Rows
end Go.Proofs.YtfljigegjhnidaaDoor
