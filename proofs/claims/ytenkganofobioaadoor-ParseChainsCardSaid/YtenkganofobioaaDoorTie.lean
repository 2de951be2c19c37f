/-
  DERIVED. GIVEN WITH THE SEED: THE PROGRAM's TIES (one call each: nine closed facts by the kernel) AND EACH ROW's TIE, after the 31st guide's Derived/Test/Toyas{Tie, Card}.lean. No idea stands in it: it is a product of the set-up. Laid BY PROGRAM, IN A SANDBOX (cutbox-door.mjs). By AI agents, Wed Nov 11 2026. No macro, syntax, notation, axiom, sorry.
-/
import Derived.Test.YtenkganofobioaaDoorRows
import Derived.LaidByTextLater
import Derived.SevenTiedAt
import Derived.LaidSub
import Derived.LaidOnce
namespace Go.Proofs.YtenkganofobioaaDoor
open Go
set_option maxRecDepth 100000
theorem seatTie1 : Tryd.prog.laidByTextLater [("math/bits.deBruijn32tab", Rows.laid_math_bits_deBruijn32tab), ("math/bits.deBruijn64tab", Rows.laid_math_bits_deBruijn64tab), ("internal/strconv.uint64pow10", Rows.laid_internal_strconv_uint64pow10), ("palings/ast.signs", Rows.laid_palings_ast_signs), ("palings/lex.words", Rows.laid_palings_lex_words), ("palings/lex.marks", Rows.laid_palings_lex_marks), ("palings/parse.levels", Rows.laid_palings_parse_levels)] [.data, .data, .data, .data, .data, .data, .widerDeep] true :=
  Program.laidByTextLater_by_one 49 8 65 (by kernel_rfl) (by kernel_rfl) (by kernel_rfl) (by kernel_rfl) (by kernel_rfl) (by kernel_rfl) (fun _ _ => by kernel_rfl)
theorem noOwnUnsafe : Tryd.pinned.checked.prog.headLifts.contains "ownunsafe" = false := by kernel_rfl
theorem tie : Tryd.prog.laidByTextLater [("math/bits.deBruijn32tab", Rows.laid_math_bits_deBruijn32tab), ("math/bits.deBruijn64tab", Rows.laid_math_bits_deBruijn64tab), ("internal/strconv.uint64pow10", Rows.laid_internal_strconv_uint64pow10), ("palings/ast.signs", Rows.laid_palings_ast_signs), ("palings/lex.words", Rows.laid_palings_lex_words), ("palings/lex.marks", Rows.laid_palings_lex_marks), ("palings/parse.levels", Rows.laid_palings_parse_levels)] [.data, .data, .data, .data, .data, .data, .widerDeep] true :=
  Program.laidByTextLater.sub seatTie1 ["math/bits.deBruijn32tab", "math/bits.deBruijn64tab", "internal/strconv.uint64pow10", "palings/ast.signs", "palings/lex.words", "palings/lex.marks", "palings/parse.levels"] (by kernel_rfl) (by kernel_rfl)
theorem parseErrors_row_tie : Rows.parseErrorsRow.laidByTextAt .later Tryd.pinned [.data, .data, .data, .data, .data, .data, .widerDeep] true :=
  OpenClaim.laidByTextAt_later rfl rfl tie noOwnUnsafe
theorem parseNests_row_tie : Rows.parseNestsRow.laidByTextAt .later Tryd.pinned [.data, .data, .data, .data, .data, .data, .widerDeep] true :=
  OpenClaim.laidByTextAt_later rfl rfl tie noOwnUnsafe
theorem parseChains_row_tie : Rows.parseChainsRow.laidByTextAt .later Tryd.pinned [.data, .data, .data, .data, .data, .data, .widerDeep] true :=
  OpenClaim.laidByTextAt_later rfl rfl tie noOwnUnsafe
theorem parseArgs_row_tie : Rows.parseArgsRow.laidByTextAt .later Tryd.pinned [.data, .data, .data, .data, .data, .data, .widerDeep] true :=
  OpenClaim.laidByTextAt_later rfl rfl tie noOwnUnsafe
theorem parseBinds_row_tie : Rows.parseBindsRow.laidByTextAt .later Tryd.pinned [.data, .data, .data, .data, .data, .data, .widerDeep] true :=
  OpenClaim.laidByTextAt_later rfl rfl tie noOwnUnsafe
theorem parseAgain_row_tie : Rows.parseAgainRow.laidByTextAt .later Tryd.pinned [.data, .data, .data, .data, .data, .data, .widerDeep] true :=
  OpenClaim.laidByTextAt_later rfl rfl tie noOwnUnsafe
theorem parseErrorsUpto_row_tie : Rows.parseErrorsUptoRow.laidByTextAt .later Tryd.pinned [.data, .data, .data, .data, .data, .data, .widerDeep] true :=
  OpenClaim.laidByTextAt_later rfl rfl tie noOwnUnsafe
theorem parseNestsUpto_row_tie : Rows.parseNestsUptoRow.laidByTextAt .later Tryd.pinned [.data, .data, .data, .data, .data, .data, .widerDeep] true :=
  OpenClaim.laidByTextAt_later rfl rfl tie noOwnUnsafe
theorem parseChainsUpto_row_tie : Rows.parseChainsUptoRow.laidByTextAt .later Tryd.pinned [.data, .data, .data, .data, .data, .data, .widerDeep] true :=
  OpenClaim.laidByTextAt_later rfl rfl tie noOwnUnsafe
theorem parseArgsUpto_row_tie : Rows.parseArgsUptoRow.laidByTextAt .later Tryd.pinned [.data, .data, .data, .data, .data, .data, .widerDeep] true :=
  OpenClaim.laidByTextAt_later rfl rfl tie noOwnUnsafe
theorem parseBindsUpto_row_tie : Rows.parseBindsUptoRow.laidByTextAt .later Tryd.pinned [.data, .data, .data, .data, .data, .data, .widerDeep] true :=
  OpenClaim.laidByTextAt_later rfl rfl tie noOwnUnsafe
theorem parseAgainUpto_row_tie : Rows.parseAgainUptoRow.laidByTextAt .later Tryd.pinned [.data, .data, .data, .data, .data, .data, .widerDeep] true :=
  OpenClaim.laidByTextAt_later rfl rfl tie noOwnUnsafe
end Go.Proofs.YtenkganofobioaaDoor
