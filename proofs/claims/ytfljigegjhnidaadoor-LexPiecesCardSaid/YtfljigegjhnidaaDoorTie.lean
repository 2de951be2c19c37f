/-
  DERIVED. GIVEN WITH THE SEED: THE PROGRAM's TIES (one call each: nine closed facts by the kernel) AND EACH ROW's TIE, after the 31st guide's Derived/Test/Toyas{Tie, Card}.lean. No idea stands in it: it is a product of the set-up. Laid BY PROGRAM, IN A SANDBOX (cutbox-door.mjs). By AI agents, Wed Nov 11 2026. No macro, syntax, notation, axiom, sorry.
-/
import Derived.Test.YtfljigegjhnidaaDoorRows
import Derived.LaidByTextLater
import Derived.SevenTiedAt
import Derived.LaidSub
import Derived.LaidOnce
namespace Go.Proofs.YtfljigegjhnidaaDoor
open Go
set_option maxRecDepth 100000
theorem seatTie1 : Tryd.prog.laidByTextLater [("math/bits.deBruijn32tab", Rows.laid_math_bits_deBruijn32tab), ("math/bits.deBruijn64tab", Rows.laid_math_bits_deBruijn64tab), ("internal/strconv.uint64pow10", Rows.laid_internal_strconv_uint64pow10), ("palings/lex.words", Rows.laid_palings_lex_words), ("palings/lex.marks", Rows.laid_palings_lex_marks), ("palings/palingslaw02.words", Rows.laid_palings_palingslaw02_words), ("palings/palingslaw02.marks", Rows.laid_palings_palingslaw02_marks)] [.data, .data, .data, .data, .data, .data, .data] true :=
  Program.laidByTextLater_by_one 44 8 65 (by kernel_rfl) (by kernel_rfl) (by kernel_rfl) (by kernel_rfl) (by kernel_rfl) (by kernel_rfl) (fun _ _ => by kernel_rfl)
theorem noOwnUnsafe : Tryd.pinned.checked.prog.headLifts.contains "ownunsafe" = false := by kernel_rfl
theorem tie : Tryd.prog.laidByTextLater [("palings/lex.words", Rows.laid_palings_lex_words), ("palings/lex.marks", Rows.laid_palings_lex_marks)] [.data, .data] true :=
  Program.laidByTextLater.sub seatTie1 ["palings/lex.words", "palings/lex.marks"] (by kernel_rfl) (by kernel_rfl)
theorem lexAny_row_tie : Rows.lexAnyRow.laidByTextAt .later Tryd.pinned [.data, .data] true :=
  OpenClaim.laidByTextAt_later rfl rfl tie noOwnUnsafe
theorem lexLong_row_tie : Rows.lexLongRow.laidByTextAt .later Tryd.pinned [.data, .data] true :=
  OpenClaim.laidByTextAt_later rfl rfl tie noOwnUnsafe
theorem lexAgain_row_tie : Rows.lexAgainRow.laidByTextAt .later Tryd.pinned [.data, .data] true :=
  OpenClaim.laidByTextAt_later rfl rfl tie noOwnUnsafe
theorem tie2 : Tryd.prog.laidByTextLater [("palings/lex.words", Rows.laid_palings_lex_words), ("palings/lex.marks", Rows.laid_palings_lex_marks), ("palings/palingslaw02.marks", Rows.laid_palings_palingslaw02_marks)] [.data, .data, .data] true :=
  Program.laidByTextLater.sub seatTie1 ["palings/lex.words", "palings/lex.marks", "palings/palingslaw02.marks"] (by kernel_rfl) (by kernel_rfl)
theorem lexBytes_row_tie : Rows.lexBytesRow.laidByTextAt .later Tryd.pinned [.data, .data, .data] true :=
  OpenClaim.laidByTextAt_later rfl rfl tie2 noOwnUnsafe
theorem tie3 : Tryd.prog.laidByTextLater [("math/bits.deBruijn32tab", Rows.laid_math_bits_deBruijn32tab), ("math/bits.deBruijn64tab", Rows.laid_math_bits_deBruijn64tab), ("internal/strconv.uint64pow10", Rows.laid_internal_strconv_uint64pow10), ("palings/lex.words", Rows.laid_palings_lex_words), ("palings/lex.marks", Rows.laid_palings_lex_marks)] [.data, .data, .data, .data, .data] true :=
  Program.laidByTextLater.sub seatTie1 ["math/bits.deBruijn32tab", "math/bits.deBruijn64tab", "internal/strconv.uint64pow10", "palings/lex.words", "palings/lex.marks"] (by kernel_rfl) (by kernel_rfl)
theorem lexNumbers_row_tie : Rows.lexNumbersRow.laidByTextAt .later Tryd.pinned [.data, .data, .data, .data, .data] true :=
  OpenClaim.laidByTextAt_later rfl rfl tie3 noOwnUnsafe
theorem tie4 : Tryd.prog.laidByTextLater [("math/bits.deBruijn32tab", Rows.laid_math_bits_deBruijn32tab), ("math/bits.deBruijn64tab", Rows.laid_math_bits_deBruijn64tab), ("internal/strconv.uint64pow10", Rows.laid_internal_strconv_uint64pow10), ("palings/lex.words", Rows.laid_palings_lex_words), ("palings/lex.marks", Rows.laid_palings_lex_marks), ("palings/palingslaw02.words", Rows.laid_palings_palingslaw02_words), ("palings/palingslaw02.marks", Rows.laid_palings_palingslaw02_marks)] [.data, .data, .data, .data, .data, .data, .data] true :=
  Program.laidByTextLater.sub seatTie1 ["math/bits.deBruijn32tab", "math/bits.deBruijn64tab", "internal/strconv.uint64pow10", "palings/lex.words", "palings/lex.marks", "palings/palingslaw02.words", "palings/palingslaw02.marks"] (by kernel_rfl) (by kernel_rfl)
theorem lexPieces_row_tie : Rows.lexPiecesRow.laidByTextAt .later Tryd.pinned [.data, .data, .data, .data, .data, .data, .data] true :=
  OpenClaim.laidByTextAt_later rfl rfl tie4 noOwnUnsafe
theorem lexAnyUpto_row_tie : Rows.lexAnyUptoRow.laidByTextAt .later Tryd.pinned [.data, .data] true :=
  OpenClaim.laidByTextAt_later rfl rfl tie noOwnUnsafe
theorem lexBytesUpto_row_tie : Rows.lexBytesUptoRow.laidByTextAt .later Tryd.pinned [.data, .data, .data] true :=
  OpenClaim.laidByTextAt_later rfl rfl tie2 noOwnUnsafe
theorem lexLongUpto_row_tie : Rows.lexLongUptoRow.laidByTextAt .later Tryd.pinned [.data, .data] true :=
  OpenClaim.laidByTextAt_later rfl rfl tie noOwnUnsafe
theorem lexAgainUpto_row_tie : Rows.lexAgainUptoRow.laidByTextAt .later Tryd.pinned [.data, .data] true :=
  OpenClaim.laidByTextAt_later rfl rfl tie noOwnUnsafe
theorem lexNumbersUpto_row_tie : Rows.lexNumbersUptoRow.laidByTextAt .later Tryd.pinned [.data, .data, .data, .data, .data] true :=
  OpenClaim.laidByTextAt_later rfl rfl tie3 noOwnUnsafe
theorem lexPiecesUpto_row_tie : Rows.lexPiecesUptoRow.laidByTextAt .later Tryd.pinned [.data, .data, .data, .data, .data, .data, .data] true :=
  OpenClaim.laidByTextAt_later rfl rfl tie4 noOwnUnsafe
end Go.Proofs.YtfljigegjhnidaaDoor
