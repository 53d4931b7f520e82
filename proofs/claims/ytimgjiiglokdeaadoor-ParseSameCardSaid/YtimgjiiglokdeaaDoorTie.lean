/-
  DERIVED. GIVEN WITH THE SEED: THE PROGRAM's TIES (one call each: nine closed facts by the kernel) AND EACH ROW's TIE, after the 31st guide's Derived/Test/Toyas{Tie, Card}.lean. No idea stands in it: it is a product of the set-up. Laid BY PROGRAM, IN A SANDBOX (cutbox-door.mjs). By AI agents, Wed Nov 11 2026. No macro, syntax, notation, axiom, sorry.
-/
import Derived.Test.YtimgjiiglokdeaaDoorRows
import Derived.LaidByTextLater
import Derived.SevenTiedAt
import Derived.LaidSub
import Derived.LaidOnce
namespace Go.Proofs.YtimgjiiglokdeaaDoor
open Go
set_option maxRecDepth 100000
theorem seatTie1 : Tryd.prog.laidByTextLater [("math/bits.deBruijn32tab", Rows.laid_math_bits_deBruijn32tab), ("math/bits.deBruijn64tab", Rows.laid_math_bits_deBruijn64tab), ("internal/strconv.uint64pow10", Rows.laid_internal_strconv_uint64pow10), ("truchman/api.ErrFull", Rows.laid_truchman_api_ErrFull), ("truchman/api.ErrShort", Rows.laid_truchman_api_ErrShort), ("truchman/api.ErrLong", Rows.laid_truchman_api_ErrLong), ("truchman/api.ErrForm", Rows.laid_truchman_api_ErrForm), ("truchman/api.ErrDepth", Rows.laid_truchman_api_ErrDepth), ("truchman/codes.words", Rows.laid_truchman_codes_words), ("truchman/glob.words", Rows.laid_truchman_glob_words)] [.data, .data, .data, .sentinel, .sentinel, .sentinel, .sentinel, .sentinel, .widerDeep, .widerDeep] true :=
  Program.laidByTextLater_by_one 129 8 65 (by kernel_rfl) (by kernel_rfl) (by kernel_rfl) (by kernel_rfl) (by kernel_rfl) (by kernel_rfl) (fun _ _ => by kernel_rfl)
theorem noOwnUnsafe : Tryd.pinned.checked.prog.headLifts.contains "ownunsafe" = false := by kernel_rfl
theorem tie : Tryd.prog.laidByTextLater [("math/bits.deBruijn32tab", Rows.laid_math_bits_deBruijn32tab), ("math/bits.deBruijn64tab", Rows.laid_math_bits_deBruijn64tab), ("internal/strconv.uint64pow10", Rows.laid_internal_strconv_uint64pow10), ("truchman/api.ErrFull", Rows.laid_truchman_api_ErrFull), ("truchman/api.ErrShort", Rows.laid_truchman_api_ErrShort), ("truchman/api.ErrLong", Rows.laid_truchman_api_ErrLong), ("truchman/api.ErrForm", Rows.laid_truchman_api_ErrForm), ("truchman/api.ErrDepth", Rows.laid_truchman_api_ErrDepth), ("truchman/codes.words", Rows.laid_truchman_codes_words), ("truchman/glob.words", Rows.laid_truchman_glob_words)] [.data, .data, .data, .sentinel, .sentinel, .sentinel, .sentinel, .sentinel, .widerDeep, .widerDeep] true :=
  Program.laidByTextLater.sub seatTie1 ["math/bits.deBruijn32tab", "math/bits.deBruijn64tab", "internal/strconv.uint64pow10", "truchman/api.ErrFull", "truchman/api.ErrShort", "truchman/api.ErrLong", "truchman/api.ErrForm", "truchman/api.ErrDepth", "truchman/codes.words", "truchman/glob.words"] (by kernel_rfl) (by kernel_rfl)
theorem parseSame_row_tie : Rows.parseSameRow.laidByTextAt .later Tryd.pinned [.data, .data, .data, .sentinel, .sentinel, .sentinel, .sentinel, .sentinel, .widerDeep, .widerDeep] true :=
  OpenClaim.laidByTextAt_later rfl rfl tie noOwnUnsafe
theorem parseSameUpto_row_tie : Rows.parseSameUptoRow.laidByTextAt .later Tryd.pinned [.data, .data, .data, .sentinel, .sentinel, .sentinel, .sentinel, .sentinel, .widerDeep, .widerDeep] true :=
  OpenClaim.laidByTextAt_later rfl rfl tie noOwnUnsafe
end Go.Proofs.YtimgjiiglokdeaaDoor
