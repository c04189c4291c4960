/-
  NARROWER THAN 'FOR EVERY INPUT', by the rows' own cells (each row's printed sentence says how): TopReversed: laid · TopMoved: laid · TopCorrected: laid · TopTaken: laid · TopShares: laid.
  DERIVED. THE GIVEN ROWS OF THIS SEAT. 5 by the template 'for every input the law returns true; each argument reads behind the call as it read before'; 0 by the template 'total and deterministic' (their statements: YtggopflifieoiaaDoorTotals.lean).
  GIVEN WITH THE SEED: the statements are not yours to turn. If you find one false, say at which input.
  Laid BY PROGRAM, IN A SANDBOX (cutbox-rows.mjs): the forced cells as the released guide's own fill.sh prints them over the translation aac1bd476bc70ef8… (all of the seat's roots in one cut). By AI agents, Wed Nov 11 2026. No macro, syntax, notation, axiom, sorry.
-/
import Derived.Test.YtggopflifieoiaaDoorChecked
import GoSem.Claim
import GoSem.ClaimJoined
import GoSem.ClaimMapViews
import Derived.JoinedTies
import Derived.KernelRfl
namespace Go.Proofs.YtggopflifieoiaaDoor
/- THE CELL 'sum', in the pinned program and in every row, IS THE sha256 OF THE DUMP (.gsa) THAT YtggopflifieoiaaDoorProg.lean LOADS. Nothing in Lean hashes anything: it is a label: what it is worth is what the hold of that sum in a sandbox is worth. -/
noncomputable def Tryd.pinned : Pinned := { name := "ytggopflifieoiaadoor", sum := "aac1bd476bc70ef8deea82f0128a48c7205faadc3c95efa4aae72fe5fdc45c71", checked := Tryd.checked }
namespace Rows
def none {H : Type} : Left H := { results := [], args := [] }

/- WHAT THE LISTED PACKAGE-LEVEL VARIABLES READ AS WHEN THE CALL BEGINS. Each datum BY PROGRAM (the guide's laid-datum.mjs) off the statement by which the dump's own 'gosem.cut.vars' lays the variable. In a bare row this is a premise. The card (YtggopflifieoiaaDoorCards.lean) ties it to the program's text. -/
def laid_cashbook_money_currencies {H : Type} : DataW H := .agg [.agg [.lit (.string [69, 85, 82]), .lit (.int .i64 2), .lit (.int .i64 100)], .agg [.lit (.string [74, 80, 89]), .lit (.int .i64 0), .lit (.int .i64 1)], .agg [.lit (.string [66, 72, 68]), .lit (.int .i64 3), .lit (.int .i64 1000)], .agg [.lit (.string [85, 83, 68]), .lit (.int .i64 2), .lit (.int .i64 100)]]
def laid_math_bits_deBruijn32tab {H : Type} : DataW H := .agg [.lit (.int .u8 0), .lit (.int .u8 1), .lit (.int .u8 28), .lit (.int .u8 2), .lit (.int .u8 29), .lit (.int .u8 14), .lit (.int .u8 24), .lit (.int .u8 3), .lit (.int .u8 30), .lit (.int .u8 22), .lit (.int .u8 20), .lit (.int .u8 15), .lit (.int .u8 25), .lit (.int .u8 17), .lit (.int .u8 4), .lit (.int .u8 8), .lit (.int .u8 31), .lit (.int .u8 27), .lit (.int .u8 13), .lit (.int .u8 23), .lit (.int .u8 21), .lit (.int .u8 19), .lit (.int .u8 16), .lit (.int .u8 7), .lit (.int .u8 26), .lit (.int .u8 12), .lit (.int .u8 18), .lit (.int .u8 6), .lit (.int .u8 11), .lit (.int .u8 5), .lit (.int .u8 10), .lit (.int .u8 9)]
def laid_math_bits_deBruijn64tab {H : Type} : DataW H := .agg [.lit (.int .u8 0), .lit (.int .u8 1), .lit (.int .u8 56), .lit (.int .u8 2), .lit (.int .u8 57), .lit (.int .u8 49), .lit (.int .u8 28), .lit (.int .u8 3), .lit (.int .u8 61), .lit (.int .u8 58), .lit (.int .u8 42), .lit (.int .u8 50), .lit (.int .u8 38), .lit (.int .u8 29), .lit (.int .u8 17), .lit (.int .u8 4), .lit (.int .u8 62), .lit (.int .u8 47), .lit (.int .u8 59), .lit (.int .u8 36), .lit (.int .u8 45), .lit (.int .u8 43), .lit (.int .u8 51), .lit (.int .u8 22), .lit (.int .u8 53), .lit (.int .u8 39), .lit (.int .u8 33), .lit (.int .u8 30), .lit (.int .u8 24), .lit (.int .u8 18), .lit (.int .u8 12), .lit (.int .u8 5), .lit (.int .u8 63), .lit (.int .u8 55), .lit (.int .u8 48), .lit (.int .u8 27), .lit (.int .u8 60), .lit (.int .u8 41), .lit (.int .u8 37), .lit (.int .u8 16), .lit (.int .u8 46), .lit (.int .u8 35), .lit (.int .u8 44), .lit (.int .u8 21), .lit (.int .u8 52), .lit (.int .u8 32), .lit (.int .u8 23), .lit (.int .u8 11), .lit (.int .u8 54), .lit (.int .u8 26), .lit (.int .u8 40), .lit (.int .u8 15), .lit (.int .u8 34), .lit (.int .u8 20), .lit (.int .u8 31), .lit (.int .u8 10), .lit (.int .u8 25), .lit (.int .u8 14), .lit (.int .u8 19), .lit (.int .u8 9), .lit (.int .u8 13), .lit (.int .u8 8), .lit (.int .u8 7), .lit (.int .u8 6)]
def laid_internal_strconv_uint64pow10 {H : Type} : DataW H := .agg [.lit (.int .u64 1), .lit (.int .u64 10), .lit (.int .u64 100), .lit (.int .u64 1000), .lit (.int .u64 10000), .lit (.int .u64 100000), .lit (.int .u64 1000000), .lit (.int .u64 10000000), .lit (.int .u64 100000000), .lit (.int .u64 1000000000), .lit (.int .u64 10000000000), .lit (.int .u64 100000000000), .lit (.int .u64 1000000000000), .lit (.int .u64 10000000000000), .lit (.int .u64 100000000000000), .lit (.int .u64 1000000000000000), .lit (.int .u64 10000000000000000), .lit (.int .u64 100000000000000000), .lit (.int .u64 1000000000000000000), .lit (.int .u64 10000000000000000000)]
def laid_cashbook_date_before {H : Type} : DataW H := .agg [.lit (.int .i64 0), .lit (.int .i64 31), .lit (.int .i64 61), .lit (.int .i64 92), .lit (.int .i64 122), .lit (.int .i64 153), .lit (.int .i64 184), .lit (.int .i64 214), .lit (.int .i64 245), .lit (.int .i64 275), .lit (.int .i64 306), .lit (.int .i64 337)]
def laid_cashbook_order_words {H : Type} : DataW H := .agg [.lit (.string [115, 116, 97, 110, 100, 105, 110, 103]), .lit (.string [115, 119, 101, 101, 112]), .lit (.string [100, 101, 98, 105, 116])]

/-- 'cashbooktop.TopReversed': WHATEVER THE INPUT: true; the input reads as it did. -/
def topReversedSpec : ChangeSpec := { name := "topReversed", fn := fun _ => fun
  | [d1, d2, d3, d4] => { results := [.lit (.bool true)], args := [d1, d2, d3, d4] }
  | _ => none }
def topReversedRow : OpenClaim := { program := "ytggopflifieoiaadoor", sum := "aac1bd476bc70ef8deea82f0128a48c7205faadc3c95efa4aae72fe5fdc45c71", func := "cashbook/cashbooktop.TopReversed", spec := "topReversed", unfollowed := true, recurses := true, named := ["cashbook/money.currencies"], plainKeys := false, apart := false, laid := [("cashbook/money.currencies", laid_cashbook_money_currencies)] }
def TopReversedSaid : Prop := topReversedRow.holds Tryd.pinned (OpenSpec.ofChange topReversedSpec)

/-- ITS FALSE NEIGHBOUR: 'it returns false'. Refute it at one input. -/
def topReversedWrong : ChangeSpec := { name := "topReversed", fn := fun _ => fun
  | [d1, d2, d3, d4] => { results := [.lit (.bool false)], args := [d1, d2, d3, d4] }
  | _ => none }
def TopReversedWrongFalsely : Prop := topReversedRow.holds Tryd.pinned (OpenSpec.ofChange topReversedWrong)

/-- 'cashbooktop.TopMoved': WHATEVER THE INPUT: true; the input reads as it did. -/
def topMovedSpec : ChangeSpec := { name := "topMoved", fn := fun _ => fun
  | [d1, d2, d3] => { results := [.lit (.bool true)], args := [d1, d2, d3] }
  | _ => none }
def topMovedRow : OpenClaim := { program := "ytggopflifieoiaadoor", sum := "aac1bd476bc70ef8deea82f0128a48c7205faadc3c95efa4aae72fe5fdc45c71", func := "cashbook/cashbooktop.TopMoved", spec := "topMoved", unfollowed := true, recurses := true, named := ["cashbook/date.before", "cashbook/order.words", "internal/strconv.uint64pow10", "math/bits.deBruijn32tab", "math/bits.deBruijn64tab", "cashbook/money.currencies"], plainKeys := false, apart := false, laid := [("math/bits.deBruijn32tab", laid_math_bits_deBruijn32tab), ("math/bits.deBruijn64tab", laid_math_bits_deBruijn64tab), ("internal/strconv.uint64pow10", laid_internal_strconv_uint64pow10), ("cashbook/date.before", laid_cashbook_date_before), ("cashbook/money.currencies", laid_cashbook_money_currencies), ("cashbook/order.words", laid_cashbook_order_words)] }
def TopMovedSaid : Prop := topMovedRow.holds Tryd.pinned (OpenSpec.ofChange topMovedSpec)

/-- ITS FALSE NEIGHBOUR: 'it returns false'. Refute it at one input. -/
def topMovedWrong : ChangeSpec := { name := "topMoved", fn := fun _ => fun
  | [d1, d2, d3] => { results := [.lit (.bool false)], args := [d1, d2, d3] }
  | _ => none }
def TopMovedWrongFalsely : Prop := topMovedRow.holds Tryd.pinned (OpenSpec.ofChange topMovedWrong)

/-- 'cashbooktop.TopCorrected': WHATEVER THE INPUT: true; the input reads as it did. -/
def topCorrectedSpec : ChangeSpec := { name := "topCorrected", fn := fun _ => fun
  | [d1, d2, d3] => { results := [.lit (.bool true)], args := [d1, d2, d3] }
  | _ => none }
def topCorrectedRow : OpenClaim := { program := "ytggopflifieoiaadoor", sum := "aac1bd476bc70ef8deea82f0128a48c7205faadc3c95efa4aae72fe5fdc45c71", func := "cashbook/cashbooktop.TopCorrected", spec := "topCorrected", unfollowed := true, recurses := true, named := ["cashbook/date.before", "cashbook/order.words", "internal/strconv.uint64pow10", "math/bits.deBruijn32tab", "math/bits.deBruijn64tab", "cashbook/money.currencies"], plainKeys := false, apart := false, laid := [("math/bits.deBruijn32tab", laid_math_bits_deBruijn32tab), ("math/bits.deBruijn64tab", laid_math_bits_deBruijn64tab), ("internal/strconv.uint64pow10", laid_internal_strconv_uint64pow10), ("cashbook/date.before", laid_cashbook_date_before), ("cashbook/money.currencies", laid_cashbook_money_currencies), ("cashbook/order.words", laid_cashbook_order_words)] }
def TopCorrectedSaid : Prop := topCorrectedRow.holds Tryd.pinned (OpenSpec.ofChange topCorrectedSpec)

/-- ITS FALSE NEIGHBOUR: 'it returns false'. Refute it at one input. -/
def topCorrectedWrong : ChangeSpec := { name := "topCorrected", fn := fun _ => fun
  | [d1, d2, d3] => { results := [.lit (.bool false)], args := [d1, d2, d3] }
  | _ => none }
def TopCorrectedWrongFalsely : Prop := topCorrectedRow.holds Tryd.pinned (OpenSpec.ofChange topCorrectedWrong)

/-- 'cashbooktop.TopTaken': WHATEVER THE INPUT: true; the input reads as it did. -/
def topTakenSpec : ChangeSpec := { name := "topTaken", fn := fun _ => fun
  | [d1, d2, d3] => { results := [.lit (.bool true)], args := [d1, d2, d3] }
  | _ => none }
def topTakenRow : OpenClaim := { program := "ytggopflifieoiaadoor", sum := "aac1bd476bc70ef8deea82f0128a48c7205faadc3c95efa4aae72fe5fdc45c71", func := "cashbook/cashbooktop.TopTaken", spec := "topTaken", inPlace := ["slices.overlaps[cashbook/api.Hold]"], unfollowed := true, recurses := true, named := ["cashbook/date.before", "cashbook/order.words", "internal/strconv.uint64pow10", "math/bits.deBruijn32tab", "math/bits.deBruijn64tab", "cashbook/money.currencies"], plainKeys := false, apart := false, laid := [("math/bits.deBruijn32tab", laid_math_bits_deBruijn32tab), ("math/bits.deBruijn64tab", laid_math_bits_deBruijn64tab), ("internal/strconv.uint64pow10", laid_internal_strconv_uint64pow10), ("cashbook/date.before", laid_cashbook_date_before), ("cashbook/money.currencies", laid_cashbook_money_currencies), ("cashbook/order.words", laid_cashbook_order_words)] }
def TopTakenSaid : Prop := topTakenRow.holds Tryd.pinned (OpenSpec.ofChange topTakenSpec)

/-- ITS FALSE NEIGHBOUR: 'it returns false'. Refute it at one input. -/
def topTakenWrong : ChangeSpec := { name := "topTaken", fn := fun _ => fun
  | [d1, d2, d3] => { results := [.lit (.bool false)], args := [d1, d2, d3] }
  | _ => none }
def TopTakenWrongFalsely : Prop := topTakenRow.holds Tryd.pinned (OpenSpec.ofChange topTakenWrong)

/-- 'cashbooktop.TopShares': WHATEVER THE INPUT: true; the input reads as it did. -/
def topSharesSpec : ChangeSpec := { name := "topShares", fn := fun _ => fun
  | [d1, d2] => { results := [.lit (.bool true)], args := [d1, d2] }
  | _ => none }
def topSharesRow : OpenClaim := { program := "ytggopflifieoiaadoor", sum := "aac1bd476bc70ef8deea82f0128a48c7205faadc3c95efa4aae72fe5fdc45c71", func := "cashbook/cashbooktop.TopShares", spec := "topShares", unfollowed := true, recurses := true, named := ["cashbook/date.before", "cashbook/order.words", "internal/strconv.uint64pow10", "math/bits.deBruijn32tab", "math/bits.deBruijn64tab", "cashbook/money.currencies"], plainKeys := false, apart := false, laid := [("math/bits.deBruijn32tab", laid_math_bits_deBruijn32tab), ("math/bits.deBruijn64tab", laid_math_bits_deBruijn64tab), ("internal/strconv.uint64pow10", laid_internal_strconv_uint64pow10), ("cashbook/date.before", laid_cashbook_date_before), ("cashbook/money.currencies", laid_cashbook_money_currencies), ("cashbook/order.words", laid_cashbook_order_words)] }
def TopSharesSaid : Prop := topSharesRow.holds Tryd.pinned (OpenSpec.ofChange topSharesSpec)

/-- ITS FALSE NEIGHBOUR: 'it returns false'. Refute it at one input. -/
def topSharesWrong : ChangeSpec := { name := "topShares", fn := fun _ => fun
  | [d1, d2] => { results := [.lit (.bool false)], args := [d1, d2] }
  | _ => none }
def TopSharesWrongFalsely : Prop := topSharesRow.holds Tryd.pinned (OpenSpec.ofChange topSharesWrong)

/- THE SECOND FORM. 'bulk': how many values and letters a reading holds, each counted each time it is reached (what is shared counts as often as it is met; a slice's spare places count too). A statement '..UptoSaid' is the law's where the arguments, and the package variables that the reading takes, are together of bulk at most 1048576: NARROWER than '..Said'. Prove '..Said' where nothing that the law and all that it calls make is longer than what came in: it says more and counts as full. Else prove '..UptoSaid'. A law counts once. -/
mutual
def uptoBulk {H : Type} : DataW H → Nat
  | .lit (.string bytes) => bytes.length + 1
  | .lit _ => 1
  | .nil => 1
  | .ptr d => uptoBulk d + 1
  | .slice elems spare => uptoBulkAll elems + uptoBulkAll spare + 1
  | .agg parts => uptoBulkAll parts + 1
  | .iface _ d => uptoBulk d + 1
  | .map entries => uptoBulkEntries entries + 1
  | .held _ => 1
def uptoBulkAll {H : Type} : List (DataW H) → Nat
  | [] => 0
  | d :: r => uptoBulk d + uptoBulkAll r
def uptoBulkEntries {H : Type} : List (Lit × DataW H) → Nat
  | [] => 0
  | x :: r => uptoBulkEntry x + uptoBulkEntries r
def uptoBulkEntry {H : Type} : Lit × DataW H → Nat
  | (.string bytes, d) => bytes.length + uptoBulk d + 1
  | (_, d) => uptoBulk d + 1
 end
def uptoSmall : (H : Type) → List (DataW H) → Bool := fun _ ds => decide (uptoBulkAll ds ≤ 1048576)
def OpenSpec.upto (s : _root_.Go.ChangeSpec) : _root_.Go.OpenSpec := { _root_.Go.OpenSpec.ofChange s with cond := some uptoSmall }

/-- 'cashbooktop.TopReversed', WHERE WHAT IT READS IS OF BULK AT MOST 1048576: true; the input reads as it did. -/
def topReversedUptoRow : OpenClaim := { program := "ytggopflifieoiaadoor", sum := "aac1bd476bc70ef8deea82f0128a48c7205faadc3c95efa4aae72fe5fdc45c71", func := "cashbook/cashbooktop.TopReversed", spec := "topReversed", unfollowed := true, recurses := true, named := ["cashbook/money.currencies"], plainKeys := false, apart := false, laid := [("cashbook/money.currencies", laid_cashbook_money_currencies)], narrowed := true }
def TopReversedUptoSaid : Prop := topReversedUptoRow.holds Tryd.pinned (OpenSpec.upto topReversedSpec)

/-- 'cashbooktop.TopMoved', WHERE WHAT IT READS IS OF BULK AT MOST 1048576: true; the input reads as it did. -/
def topMovedUptoRow : OpenClaim := { program := "ytggopflifieoiaadoor", sum := "aac1bd476bc70ef8deea82f0128a48c7205faadc3c95efa4aae72fe5fdc45c71", func := "cashbook/cashbooktop.TopMoved", spec := "topMoved", unfollowed := true, recurses := true, named := ["cashbook/date.before", "cashbook/order.words", "internal/strconv.uint64pow10", "math/bits.deBruijn32tab", "math/bits.deBruijn64tab", "cashbook/money.currencies"], plainKeys := false, apart := false, laid := [("math/bits.deBruijn32tab", laid_math_bits_deBruijn32tab), ("math/bits.deBruijn64tab", laid_math_bits_deBruijn64tab), ("internal/strconv.uint64pow10", laid_internal_strconv_uint64pow10), ("cashbook/date.before", laid_cashbook_date_before), ("cashbook/money.currencies", laid_cashbook_money_currencies), ("cashbook/order.words", laid_cashbook_order_words)], narrowed := true }
def TopMovedUptoSaid : Prop := topMovedUptoRow.holds Tryd.pinned (OpenSpec.upto topMovedSpec)

/-- 'cashbooktop.TopCorrected', WHERE WHAT IT READS IS OF BULK AT MOST 1048576: true; the input reads as it did. -/
def topCorrectedUptoRow : OpenClaim := { program := "ytggopflifieoiaadoor", sum := "aac1bd476bc70ef8deea82f0128a48c7205faadc3c95efa4aae72fe5fdc45c71", func := "cashbook/cashbooktop.TopCorrected", spec := "topCorrected", unfollowed := true, recurses := true, named := ["cashbook/date.before", "cashbook/order.words", "internal/strconv.uint64pow10", "math/bits.deBruijn32tab", "math/bits.deBruijn64tab", "cashbook/money.currencies"], plainKeys := false, apart := false, laid := [("math/bits.deBruijn32tab", laid_math_bits_deBruijn32tab), ("math/bits.deBruijn64tab", laid_math_bits_deBruijn64tab), ("internal/strconv.uint64pow10", laid_internal_strconv_uint64pow10), ("cashbook/date.before", laid_cashbook_date_before), ("cashbook/money.currencies", laid_cashbook_money_currencies), ("cashbook/order.words", laid_cashbook_order_words)], narrowed := true }
def TopCorrectedUptoSaid : Prop := topCorrectedUptoRow.holds Tryd.pinned (OpenSpec.upto topCorrectedSpec)

/-- 'cashbooktop.TopTaken', WHERE WHAT IT READS IS OF BULK AT MOST 1048576: true; the input reads as it did. -/
def topTakenUptoRow : OpenClaim := { program := "ytggopflifieoiaadoor", sum := "aac1bd476bc70ef8deea82f0128a48c7205faadc3c95efa4aae72fe5fdc45c71", func := "cashbook/cashbooktop.TopTaken", spec := "topTaken", inPlace := ["slices.overlaps[cashbook/api.Hold]"], unfollowed := true, recurses := true, named := ["cashbook/date.before", "cashbook/order.words", "internal/strconv.uint64pow10", "math/bits.deBruijn32tab", "math/bits.deBruijn64tab", "cashbook/money.currencies"], plainKeys := false, apart := false, laid := [("math/bits.deBruijn32tab", laid_math_bits_deBruijn32tab), ("math/bits.deBruijn64tab", laid_math_bits_deBruijn64tab), ("internal/strconv.uint64pow10", laid_internal_strconv_uint64pow10), ("cashbook/date.before", laid_cashbook_date_before), ("cashbook/money.currencies", laid_cashbook_money_currencies), ("cashbook/order.words", laid_cashbook_order_words)], narrowed := true }
def TopTakenUptoSaid : Prop := topTakenUptoRow.holds Tryd.pinned (OpenSpec.upto topTakenSpec)

/-- 'cashbooktop.TopShares', WHERE WHAT IT READS IS OF BULK AT MOST 1048576: true; the input reads as it did. -/
def topSharesUptoRow : OpenClaim := { program := "ytggopflifieoiaadoor", sum := "aac1bd476bc70ef8deea82f0128a48c7205faadc3c95efa4aae72fe5fdc45c71", func := "cashbook/cashbooktop.TopShares", spec := "topShares", unfollowed := true, recurses := true, named := ["cashbook/date.before", "cashbook/order.words", "internal/strconv.uint64pow10", "math/bits.deBruijn32tab", "math/bits.deBruijn64tab", "cashbook/money.currencies"], plainKeys := false, apart := false, laid := [("math/bits.deBruijn32tab", laid_math_bits_deBruijn32tab), ("math/bits.deBruijn64tab", laid_math_bits_deBruijn64tab), ("internal/strconv.uint64pow10", laid_internal_strconv_uint64pow10), ("cashbook/date.before", laid_cashbook_date_before), ("cashbook/money.currencies", laid_cashbook_money_currencies), ("cashbook/order.words", laid_cashbook_order_words)], narrowed := true }
def TopSharesUptoSaid : Prop := topSharesUptoRow.holds Tryd.pinned (OpenSpec.upto topSharesSpec)

end Rows
end Go.Proofs.YtggopflifieoiaaDoor
