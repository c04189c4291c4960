/-
  DERIVED. GIVEN WITH THE SEED: THE PROGRAM's TIES (one call each: nine closed facts by the kernel) AND EACH ROW's TIE, after the 31st guide's Derived/Test/Toyas{Tie, Card}.lean. No idea stands in it: it is a product of the set-up. Laid BY PROGRAM, IN A SANDBOX (cutbox-door.mjs). By AI agents, Wed Nov 11 2026. No macro, syntax, notation, axiom, sorry.
-/
import Derived.Test.YtggopflifieoiaaDoorRows
import Derived.LaidByTextLater
import Derived.SevenTiedAt
import Derived.LaidSub
import Derived.LaidOnce
namespace Go.Proofs.YtggopflifieoiaaDoor
open Go
set_option maxRecDepth 100000
theorem seatTie1 : Tryd.prog.laidByTextLater [("math/bits.deBruijn32tab", Rows.laid_math_bits_deBruijn32tab), ("math/bits.deBruijn64tab", Rows.laid_math_bits_deBruijn64tab), ("internal/strconv.uint64pow10", Rows.laid_internal_strconv_uint64pow10), ("cashbook/date.before", Rows.laid_cashbook_date_before), ("cashbook/money.currencies", Rows.laid_cashbook_money_currencies), ("cashbook/order.words", Rows.laid_cashbook_order_words)] [.data, .data, .data, .data, .widerDeep, .data] true :=
  Program.laidByTextLater_by_one 43 8 65 (by kernel_rfl) (by kernel_rfl) (by kernel_rfl) (by kernel_rfl) (by kernel_rfl) (by kernel_rfl) (fun _ _ => by kernel_rfl)
theorem noOwnUnsafe : Tryd.pinned.checked.prog.headLifts.contains "ownunsafe" = false := by kernel_rfl
theorem tie : Tryd.prog.laidByTextLater [("cashbook/money.currencies", Rows.laid_cashbook_money_currencies)] [.widerDeep] true :=
  Program.laidByTextLater.sub seatTie1 ["cashbook/money.currencies"] (by kernel_rfl) (by kernel_rfl)
theorem topReversed_row_tie : Rows.topReversedRow.laidByTextAt .later Tryd.pinned [.widerDeep] true :=
  OpenClaim.laidByTextAt_later rfl rfl tie noOwnUnsafe
theorem tie2 : Tryd.prog.laidByTextLater [("math/bits.deBruijn32tab", Rows.laid_math_bits_deBruijn32tab), ("math/bits.deBruijn64tab", Rows.laid_math_bits_deBruijn64tab), ("internal/strconv.uint64pow10", Rows.laid_internal_strconv_uint64pow10), ("cashbook/date.before", Rows.laid_cashbook_date_before), ("cashbook/money.currencies", Rows.laid_cashbook_money_currencies), ("cashbook/order.words", Rows.laid_cashbook_order_words)] [.data, .data, .data, .data, .widerDeep, .data] true :=
  Program.laidByTextLater.sub seatTie1 ["math/bits.deBruijn32tab", "math/bits.deBruijn64tab", "internal/strconv.uint64pow10", "cashbook/date.before", "cashbook/money.currencies", "cashbook/order.words"] (by kernel_rfl) (by kernel_rfl)
theorem topMoved_row_tie : Rows.topMovedRow.laidByTextAt .later Tryd.pinned [.data, .data, .data, .data, .widerDeep, .data] true :=
  OpenClaim.laidByTextAt_later rfl rfl tie2 noOwnUnsafe
theorem topCorrected_row_tie : Rows.topCorrectedRow.laidByTextAt .later Tryd.pinned [.data, .data, .data, .data, .widerDeep, .data] true :=
  OpenClaim.laidByTextAt_later rfl rfl tie2 noOwnUnsafe
theorem topTaken_row_tie : Rows.topTakenRow.laidByTextAt .later Tryd.pinned [.data, .data, .data, .data, .widerDeep, .data] true :=
  OpenClaim.laidByTextAt_later rfl rfl tie2 noOwnUnsafe
theorem topShares_row_tie : Rows.topSharesRow.laidByTextAt .later Tryd.pinned [.data, .data, .data, .data, .widerDeep, .data] true :=
  OpenClaim.laidByTextAt_later rfl rfl tie2 noOwnUnsafe
theorem topReversedUpto_row_tie : Rows.topReversedUptoRow.laidByTextAt .later Tryd.pinned [.widerDeep] true :=
  OpenClaim.laidByTextAt_later rfl rfl tie noOwnUnsafe
theorem topMovedUpto_row_tie : Rows.topMovedUptoRow.laidByTextAt .later Tryd.pinned [.data, .data, .data, .data, .widerDeep, .data] true :=
  OpenClaim.laidByTextAt_later rfl rfl tie2 noOwnUnsafe
theorem topCorrectedUpto_row_tie : Rows.topCorrectedUptoRow.laidByTextAt .later Tryd.pinned [.data, .data, .data, .data, .widerDeep, .data] true :=
  OpenClaim.laidByTextAt_later rfl rfl tie2 noOwnUnsafe
theorem topTakenUpto_row_tie : Rows.topTakenUptoRow.laidByTextAt .later Tryd.pinned [.data, .data, .data, .data, .widerDeep, .data] true :=
  OpenClaim.laidByTextAt_later rfl rfl tie2 noOwnUnsafe
theorem topSharesUpto_row_tie : Rows.topSharesUptoRow.laidByTextAt .later Tryd.pinned [.data, .data, .data, .data, .widerDeep, .data] true :=
  OpenClaim.laidByTextAt_later rfl rfl tie2 noOwnUnsafe
end Go.Proofs.YtggopflifieoiaaDoor
