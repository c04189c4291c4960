/-
  NARROWER THAN 'FOR EVERY INPUT', by the rows' own cells (each row's printed sentence says how): BookTells: laid · BookSums: laid · BookStays: laid · BookTurned: laid · BookZero: laid · BookBack: laid · EntryTells: laid · EntryReverses: laid · EntryBalances: laid · EntryBack: laid · EntryBytes: laid · TopReversed: laid.
  DERIVED. THE GIVEN ROWS OF THIS SEAT. 12 by the template 'for every input the law returns true; each argument reads behind the call as it read before'; 0 by the template 'total and deterministic' (their statements: YtdhefhnlagnkdaaDoorTotals.lean).
  GIVEN WITH THE SEED: the statements are not yours to turn. If you find one false, say at which input.
  Laid BY PROGRAM, IN A SANDBOX (cutbox-rows.mjs): the forced cells as the released guide's own fill.sh prints them over the translation 780948e51b1ac128… (all of the seat's roots in one cut). By AI agents, Wed Nov 11 2026. No macro, syntax, notation, axiom, sorry.
-/
import Derived.Test.YtdhefhnlagnkdaaDoorChecked
import GoSem.Claim
import GoSem.ClaimJoined
import GoSem.ClaimMapViews
import Derived.JoinedTies
import Derived.KernelRfl
namespace Go.Proofs.YtdhefhnlagnkdaaDoor
/- THE CELL 'sum', in the pinned program and in every row, IS THE sha256 OF THE DUMP (.gsa) THAT YtdhefhnlagnkdaaDoorProg.lean LOADS. Nothing in Lean hashes anything: it is a label: what it is worth is what the hold of that sum in a sandbox is worth. -/
noncomputable def Tryd.pinned : Pinned := { name := "ytdhefhnlagnkdaadoor", sum := "780948e51b1ac1288d35321cc19b6a441653aea83e3f454f43a54cc5f97f5d3f", checked := Tryd.checked }
namespace Rows
def none {H : Type} : Left H := { results := [], args := [] }

/- WHAT THE LISTED PACKAGE-LEVEL VARIABLES READ AS WHEN THE CALL BEGINS. Each datum BY PROGRAM (the guide's laid-datum.mjs) off the statement by which the dump's own 'gosem.cut.vars' lays the variable. In a bare row this is a premise. The card (YtdhefhnlagnkdaaDoorCards.lean) ties it to the program's text. -/
def laid_cashbook_money_currencies {H : Type} : DataW H := .agg [.agg [.lit (.string [69, 85, 82]), .lit (.int .i64 2), .lit (.int .i64 100)], .agg [.lit (.string [74, 80, 89]), .lit (.int .i64 0), .lit (.int .i64 1)], .agg [.lit (.string [66, 72, 68]), .lit (.int .i64 3), .lit (.int .i64 1000)], .agg [.lit (.string [85, 83, 68]), .lit (.int .i64 2), .lit (.int .i64 100)]]

/-- 'cashbooklaw20.BookTells': WHATEVER THE INPUT: true; the input reads as it did. -/
def bookTellsSpec : ChangeSpec := { name := "bookTells", fn := fun _ => fun
  | [d1, d2, d3, d4, d5] => { results := [.lit (.bool true)], args := [d1, d2, d3, d4, d5] }
  | _ => none }
def bookTellsRow : OpenClaim := { program := "ytdhefhnlagnkdaadoor", sum := "780948e51b1ac1288d35321cc19b6a441653aea83e3f454f43a54cc5f97f5d3f", func := "cashbook/cashbooklaw20.BookTells", spec := "bookTells", unfollowed := true, recurses := true, named := ["cashbook/money.currencies"], apart := false, laid := [("cashbook/money.currencies", laid_cashbook_money_currencies)] }
def BookTellsSaid : Prop := bookTellsRow.holds Tryd.pinned (OpenSpec.ofChange bookTellsSpec)

/-- ITS FALSE NEIGHBOUR: 'it returns false'. Refute it at one input. -/
def bookTellsWrong : ChangeSpec := { name := "bookTells", fn := fun _ => fun
  | [d1, d2, d3, d4, d5] => { results := [.lit (.bool false)], args := [d1, d2, d3, d4, d5] }
  | _ => none }
def BookTellsWrongFalsely : Prop := bookTellsRow.holds Tryd.pinned (OpenSpec.ofChange bookTellsWrong)

/-- 'cashbooklaw20.BookSums': WHATEVER THE INPUT: true; the input reads as it did. -/
def bookSumsSpec : ChangeSpec := { name := "bookSums", fn := fun _ => fun
  | [d1, d2, d3, d4] => { results := [.lit (.bool true)], args := [d1, d2, d3, d4] }
  | _ => none }
def bookSumsRow : OpenClaim := { program := "ytdhefhnlagnkdaadoor", sum := "780948e51b1ac1288d35321cc19b6a441653aea83e3f454f43a54cc5f97f5d3f", func := "cashbook/cashbooklaw20.BookSums", spec := "bookSums", unfollowed := true, recurses := true, named := ["cashbook/money.currencies"], apart := false, laid := [("cashbook/money.currencies", laid_cashbook_money_currencies)] }
def BookSumsSaid : Prop := bookSumsRow.holds Tryd.pinned (OpenSpec.ofChange bookSumsSpec)

/-- ITS FALSE NEIGHBOUR: 'it returns false'. Refute it at one input. -/
def bookSumsWrong : ChangeSpec := { name := "bookSums", fn := fun _ => fun
  | [d1, d2, d3, d4] => { results := [.lit (.bool false)], args := [d1, d2, d3, d4] }
  | _ => none }
def BookSumsWrongFalsely : Prop := bookSumsRow.holds Tryd.pinned (OpenSpec.ofChange bookSumsWrong)

/-- 'cashbooklaw20.BookStays': WHATEVER THE INPUT: true; the input reads as it did. -/
def bookStaysSpec : ChangeSpec := { name := "bookStays", fn := fun _ => fun
  | [d1, d2, d3] => { results := [.lit (.bool true)], args := [d1, d2, d3] }
  | _ => none }
def bookStaysRow : OpenClaim := { program := "ytdhefhnlagnkdaadoor", sum := "780948e51b1ac1288d35321cc19b6a441653aea83e3f454f43a54cc5f97f5d3f", func := "cashbook/cashbooklaw20.BookStays", spec := "bookStays", unfollowed := true, recurses := true, named := ["cashbook/money.currencies"], apart := false, laid := [("cashbook/money.currencies", laid_cashbook_money_currencies)] }
def BookStaysSaid : Prop := bookStaysRow.holds Tryd.pinned (OpenSpec.ofChange bookStaysSpec)

/-- ITS FALSE NEIGHBOUR: 'it returns false'. Refute it at one input. -/
def bookStaysWrong : ChangeSpec := { name := "bookStays", fn := fun _ => fun
  | [d1, d2, d3] => { results := [.lit (.bool false)], args := [d1, d2, d3] }
  | _ => none }
def BookStaysWrongFalsely : Prop := bookStaysRow.holds Tryd.pinned (OpenSpec.ofChange bookStaysWrong)

/-- 'cashbooklaw20.BookTurned': WHATEVER THE INPUT: true; the input reads as it did. -/
def bookTurnedSpec : ChangeSpec := { name := "bookTurned", fn := fun _ => fun
  | [d1, d2, d3, d4] => { results := [.lit (.bool true)], args := [d1, d2, d3, d4] }
  | _ => none }
def bookTurnedRow : OpenClaim := { program := "ytdhefhnlagnkdaadoor", sum := "780948e51b1ac1288d35321cc19b6a441653aea83e3f454f43a54cc5f97f5d3f", func := "cashbook/cashbooklaw20.BookTurned", spec := "bookTurned", unfollowed := true, recurses := true, named := ["cashbook/money.currencies"], apart := false, laid := [("cashbook/money.currencies", laid_cashbook_money_currencies)] }
def BookTurnedSaid : Prop := bookTurnedRow.holds Tryd.pinned (OpenSpec.ofChange bookTurnedSpec)

/-- ITS FALSE NEIGHBOUR: 'it returns false'. Refute it at one input. -/
def bookTurnedWrong : ChangeSpec := { name := "bookTurned", fn := fun _ => fun
  | [d1, d2, d3, d4] => { results := [.lit (.bool false)], args := [d1, d2, d3, d4] }
  | _ => none }
def BookTurnedWrongFalsely : Prop := bookTurnedRow.holds Tryd.pinned (OpenSpec.ofChange bookTurnedWrong)

/-- 'cashbooklaw20.BookZero': WHATEVER THE INPUT: true; the input reads as it did. -/
def bookZeroSpec : ChangeSpec := { name := "bookZero", fn := fun _ => fun
  | [d1, d2, d3, d4] => { results := [.lit (.bool true)], args := [d1, d2, d3, d4] }
  | _ => none }
def bookZeroRow : OpenClaim := { program := "ytdhefhnlagnkdaadoor", sum := "780948e51b1ac1288d35321cc19b6a441653aea83e3f454f43a54cc5f97f5d3f", func := "cashbook/cashbooklaw20.BookZero", spec := "bookZero", unfollowed := true, recurses := true, named := ["cashbook/money.currencies"], apart := false, laid := [("cashbook/money.currencies", laid_cashbook_money_currencies)] }
def BookZeroSaid : Prop := bookZeroRow.holds Tryd.pinned (OpenSpec.ofChange bookZeroSpec)

/-- ITS FALSE NEIGHBOUR: 'it returns false'. Refute it at one input. -/
def bookZeroWrong : ChangeSpec := { name := "bookZero", fn := fun _ => fun
  | [d1, d2, d3, d4] => { results := [.lit (.bool false)], args := [d1, d2, d3, d4] }
  | _ => none }
def BookZeroWrongFalsely : Prop := bookZeroRow.holds Tryd.pinned (OpenSpec.ofChange bookZeroWrong)

/-- 'cashbooklaw20.BookBack': WHATEVER THE INPUT: true; the input reads as it did. -/
def bookBackSpec : ChangeSpec := { name := "bookBack", fn := fun _ => fun
  | [d1, d2, d3, d4, d5] => { results := [.lit (.bool true)], args := [d1, d2, d3, d4, d5] }
  | _ => none }
def bookBackRow : OpenClaim := { program := "ytdhefhnlagnkdaadoor", sum := "780948e51b1ac1288d35321cc19b6a441653aea83e3f454f43a54cc5f97f5d3f", func := "cashbook/cashbooklaw20.BookBack", spec := "bookBack", unfollowed := true, recurses := true, named := ["cashbook/money.currencies"], apart := false, laid := [("cashbook/money.currencies", laid_cashbook_money_currencies)] }
def BookBackSaid : Prop := bookBackRow.holds Tryd.pinned (OpenSpec.ofChange bookBackSpec)

/-- ITS FALSE NEIGHBOUR: 'it returns false'. Refute it at one input. -/
def bookBackWrong : ChangeSpec := { name := "bookBack", fn := fun _ => fun
  | [d1, d2, d3, d4, d5] => { results := [.lit (.bool false)], args := [d1, d2, d3, d4, d5] }
  | _ => none }
def BookBackWrongFalsely : Prop := bookBackRow.holds Tryd.pinned (OpenSpec.ofChange bookBackWrong)

/-- 'cashbooklaw19.EntryTells': WHATEVER THE INPUT: true; the input reads as it did. -/
def entryTellsSpec : ChangeSpec := { name := "entryTells", fn := fun _ => fun
  | [d1, d2, d3] => { results := [.lit (.bool true)], args := [d1, d2, d3] }
  | _ => none }
def entryTellsRow : OpenClaim := { program := "ytdhefhnlagnkdaadoor", sum := "780948e51b1ac1288d35321cc19b6a441653aea83e3f454f43a54cc5f97f5d3f", func := "cashbook/cashbooklaw19.EntryTells", spec := "entryTells", unfollowed := true, recurses := true, named := ["cashbook/money.currencies"], apart := false, laid := [("cashbook/money.currencies", laid_cashbook_money_currencies)] }
def EntryTellsSaid : Prop := entryTellsRow.holds Tryd.pinned (OpenSpec.ofChange entryTellsSpec)

/-- ITS FALSE NEIGHBOUR: 'it returns false'. Refute it at one input. -/
def entryTellsWrong : ChangeSpec := { name := "entryTells", fn := fun _ => fun
  | [d1, d2, d3] => { results := [.lit (.bool false)], args := [d1, d2, d3] }
  | _ => none }
def EntryTellsWrongFalsely : Prop := entryTellsRow.holds Tryd.pinned (OpenSpec.ofChange entryTellsWrong)

/-- 'cashbooklaw19.EntryReverses': WHATEVER THE INPUT: true; the input reads as it did. -/
def entryReversesSpec : ChangeSpec := { name := "entryReverses", fn := fun _ => fun
  | [d1, d2, d3] => { results := [.lit (.bool true)], args := [d1, d2, d3] }
  | _ => none }
def entryReversesRow : OpenClaim := { program := "ytdhefhnlagnkdaadoor", sum := "780948e51b1ac1288d35321cc19b6a441653aea83e3f454f43a54cc5f97f5d3f", func := "cashbook/cashbooklaw19.EntryReverses", spec := "entryReverses", unfollowed := true, recurses := true, named := ["cashbook/money.currencies"], apart := false, laid := [("cashbook/money.currencies", laid_cashbook_money_currencies)] }
def EntryReversesSaid : Prop := entryReversesRow.holds Tryd.pinned (OpenSpec.ofChange entryReversesSpec)

/-- ITS FALSE NEIGHBOUR: 'it returns false'. Refute it at one input. -/
def entryReversesWrong : ChangeSpec := { name := "entryReverses", fn := fun _ => fun
  | [d1, d2, d3] => { results := [.lit (.bool false)], args := [d1, d2, d3] }
  | _ => none }
def EntryReversesWrongFalsely : Prop := entryReversesRow.holds Tryd.pinned (OpenSpec.ofChange entryReversesWrong)

/-- 'cashbooklaw19.EntryBalances': WHATEVER THE INPUT: true; the input reads as it did. -/
def entryBalancesSpec : ChangeSpec := { name := "entryBalances", fn := fun _ => fun
  | [d] => { results := [.lit (.bool true)], args := [d] }
  | _ => none }
def entryBalancesRow : OpenClaim := { program := "ytdhefhnlagnkdaadoor", sum := "780948e51b1ac1288d35321cc19b6a441653aea83e3f454f43a54cc5f97f5d3f", func := "cashbook/cashbooklaw19.EntryBalances", spec := "entryBalances", unfollowed := true, recurses := true, named := ["cashbook/money.currencies"], apart := false, laid := [("cashbook/money.currencies", laid_cashbook_money_currencies)] }
def EntryBalancesSaid : Prop := entryBalancesRow.holds Tryd.pinned (OpenSpec.ofChange entryBalancesSpec)

/-- ITS FALSE NEIGHBOUR: 'it returns false'. Refute it at one input. -/
def entryBalancesWrong : ChangeSpec := { name := "entryBalances", fn := fun _ => fun
  | [d] => { results := [.lit (.bool false)], args := [d] }
  | _ => none }
def EntryBalancesWrongFalsely : Prop := entryBalancesRow.holds Tryd.pinned (OpenSpec.ofChange entryBalancesWrong)

/-- 'cashbooklaw19.EntryBack': WHATEVER THE INPUT: true; the input reads as it did. -/
def entryBackSpec : ChangeSpec := { name := "entryBack", fn := fun _ => fun
  | [d1, d2] => { results := [.lit (.bool true)], args := [d1, d2] }
  | _ => none }
def entryBackRow : OpenClaim := { program := "ytdhefhnlagnkdaadoor", sum := "780948e51b1ac1288d35321cc19b6a441653aea83e3f454f43a54cc5f97f5d3f", func := "cashbook/cashbooklaw19.EntryBack", spec := "entryBack", unfollowed := true, recurses := true, named := ["cashbook/money.currencies"], apart := false, laid := [("cashbook/money.currencies", laid_cashbook_money_currencies)] }
def EntryBackSaid : Prop := entryBackRow.holds Tryd.pinned (OpenSpec.ofChange entryBackSpec)

/-- ITS FALSE NEIGHBOUR: 'it returns false'. Refute it at one input. -/
def entryBackWrong : ChangeSpec := { name := "entryBack", fn := fun _ => fun
  | [d1, d2] => { results := [.lit (.bool false)], args := [d1, d2] }
  | _ => none }
def EntryBackWrongFalsely : Prop := entryBackRow.holds Tryd.pinned (OpenSpec.ofChange entryBackWrong)

/-- 'cashbooklaw19.EntryBytes': WHATEVER THE INPUT: true; the input reads as it did. -/
def entryBytesSpec : ChangeSpec := { name := "entryBytes", fn := fun _ => fun
  | [d1, d2] => { results := [.lit (.bool true)], args := [d1, d2] }
  | _ => none }
def entryBytesRow : OpenClaim := { program := "ytdhefhnlagnkdaadoor", sum := "780948e51b1ac1288d35321cc19b6a441653aea83e3f454f43a54cc5f97f5d3f", func := "cashbook/cashbooklaw19.EntryBytes", spec := "entryBytes", unfollowed := true, recurses := true, named := ["cashbook/money.currencies"], apart := false, laid := [("cashbook/money.currencies", laid_cashbook_money_currencies)] }
def EntryBytesSaid : Prop := entryBytesRow.holds Tryd.pinned (OpenSpec.ofChange entryBytesSpec)

/-- ITS FALSE NEIGHBOUR: 'it returns false'. Refute it at one input. -/
def entryBytesWrong : ChangeSpec := { name := "entryBytes", fn := fun _ => fun
  | [d1, d2] => { results := [.lit (.bool false)], args := [d1, d2] }
  | _ => none }
def EntryBytesWrongFalsely : Prop := entryBytesRow.holds Tryd.pinned (OpenSpec.ofChange entryBytesWrong)

/-- 'cashbooktop.TopReversed': WHATEVER THE INPUT: true; the input reads as it did. -/
def topReversedSpec : ChangeSpec := { name := "topReversed", fn := fun _ => fun
  | [d1, d2, d3, d4] => { results := [.lit (.bool true)], args := [d1, d2, d3, d4] }
  | _ => none }
def topReversedRow : OpenClaim := { program := "ytdhefhnlagnkdaadoor", sum := "780948e51b1ac1288d35321cc19b6a441653aea83e3f454f43a54cc5f97f5d3f", func := "cashbook/cashbooktop.TopReversed", spec := "topReversed", unfollowed := true, recurses := true, named := ["cashbook/money.currencies"], apart := false, laid := [("cashbook/money.currencies", laid_cashbook_money_currencies)] }
def TopReversedSaid : Prop := topReversedRow.holds Tryd.pinned (OpenSpec.ofChange topReversedSpec)

/-- ITS FALSE NEIGHBOUR: 'it returns false'. Refute it at one input. -/
def topReversedWrong : ChangeSpec := { name := "topReversed", fn := fun _ => fun
  | [d1, d2, d3, d4] => { results := [.lit (.bool false)], args := [d1, d2, d3, d4] }
  | _ => none }
def TopReversedWrongFalsely : Prop := topReversedRow.holds Tryd.pinned (OpenSpec.ofChange topReversedWrong)

/- THE SECOND FORM. 'bulk': how many values and letters a reading holds, each counted each time it is reached (what is shared counts as often as it is met; a slice's spare places count too). A statement '..UptoSaid' is the law's where the arguments, and the package variables that the reading takes, are together of bulk at most 1048576: NARROWER than '..Said'. Prove '..Said' where nothing that the law and all that it calls make is longer than what came in: it says more and counts as full. Else prove '..UptoSaid'. A law counts once. -/
mutual
def uptoBulk {H : Type} : DataW H → Nat
  | .lit (.string bytes) => bytes.length + 1
  | .lit _ => 1
  | .nil => 1
  | .ptr d => uptoBulk d + 1
  | .slice elems spare => uptoBulkAll elems + uptoBulkAll spare + 1
  | .agg parts => uptoBulkAll parts + 1
  | .iface _ d => uptoBulk d + 1
  | .map entries => uptoBulkEntries entries + 1
  | .held _ => 1
def uptoBulkAll {H : Type} : List (DataW H) → Nat
  | [] => 0
  | d :: r => uptoBulk d + uptoBulkAll r
def uptoBulkEntries {H : Type} : List (Lit × DataW H) → Nat
  | [] => 0
  | x :: r => uptoBulkEntry x + uptoBulkEntries r
def uptoBulkEntry {H : Type} : Lit × DataW H → Nat
  | (.string bytes, d) => bytes.length + uptoBulk d + 1
  | (_, d) => uptoBulk d + 1
 end
def uptoSmall : (H : Type) → List (DataW H) → Bool := fun _ ds => decide (uptoBulkAll ds ≤ 1048576)
def OpenSpec.upto (s : _root_.Go.ChangeSpec) : _root_.Go.OpenSpec := { _root_.Go.OpenSpec.ofChange s with cond := some uptoSmall }

/-- 'cashbooklaw20.BookTells', WHERE WHAT IT READS IS OF BULK AT MOST 1048576: true; the input reads as it did. -/
def bookTellsUptoRow : OpenClaim := { program := "ytdhefhnlagnkdaadoor", sum := "780948e51b1ac1288d35321cc19b6a441653aea83e3f454f43a54cc5f97f5d3f", func := "cashbook/cashbooklaw20.BookTells", spec := "bookTells", unfollowed := true, recurses := true, named := ["cashbook/money.currencies"], apart := false, laid := [("cashbook/money.currencies", laid_cashbook_money_currencies)], narrowed := true }
def BookTellsUptoSaid : Prop := bookTellsUptoRow.holds Tryd.pinned (OpenSpec.upto bookTellsSpec)

/-- 'cashbooklaw20.BookSums', WHERE WHAT IT READS IS OF BULK AT MOST 1048576: true; the input reads as it did. -/
def bookSumsUptoRow : OpenClaim := { program := "ytdhefhnlagnkdaadoor", sum := "780948e51b1ac1288d35321cc19b6a441653aea83e3f454f43a54cc5f97f5d3f", func := "cashbook/cashbooklaw20.BookSums", spec := "bookSums", unfollowed := true, recurses := true, named := ["cashbook/money.currencies"], apart := false, laid := [("cashbook/money.currencies", laid_cashbook_money_currencies)], narrowed := true }
def BookSumsUptoSaid : Prop := bookSumsUptoRow.holds Tryd.pinned (OpenSpec.upto bookSumsSpec)

/-- 'cashbooklaw20.BookStays', WHERE WHAT IT READS IS OF BULK AT MOST 1048576: true; the input reads as it did. -/
def bookStaysUptoRow : OpenClaim := { program := "ytdhefhnlagnkdaadoor", sum := "780948e51b1ac1288d35321cc19b6a441653aea83e3f454f43a54cc5f97f5d3f", func := "cashbook/cashbooklaw20.BookStays", spec := "bookStays", unfollowed := true, recurses := true, named := ["cashbook/money.currencies"], apart := false, laid := [("cashbook/money.currencies", laid_cashbook_money_currencies)], narrowed := true }
def BookStaysUptoSaid : Prop := bookStaysUptoRow.holds Tryd.pinned (OpenSpec.upto bookStaysSpec)

/-- 'cashbooklaw20.BookTurned', WHERE WHAT IT READS IS OF BULK AT MOST 1048576: true; the input reads as it did. -/
def bookTurnedUptoRow : OpenClaim := { program := "ytdhefhnlagnkdaadoor", sum := "780948e51b1ac1288d35321cc19b6a441653aea83e3f454f43a54cc5f97f5d3f", func := "cashbook/cashbooklaw20.BookTurned", spec := "bookTurned", unfollowed := true, recurses := true, named := ["cashbook/money.currencies"], apart := false, laid := [("cashbook/money.currencies", laid_cashbook_money_currencies)], narrowed := true }
def BookTurnedUptoSaid : Prop := bookTurnedUptoRow.holds Tryd.pinned (OpenSpec.upto bookTurnedSpec)

/-- 'cashbooklaw20.BookZero', WHERE WHAT IT READS IS OF BULK AT MOST 1048576: true; the input reads as it did. -/
def bookZeroUptoRow : OpenClaim := { program := "ytdhefhnlagnkdaadoor", sum := "780948e51b1ac1288d35321cc19b6a441653aea83e3f454f43a54cc5f97f5d3f", func := "cashbook/cashbooklaw20.BookZero", spec := "bookZero", unfollowed := true, recurses := true, named := ["cashbook/money.currencies"], apart := false, laid := [("cashbook/money.currencies", laid_cashbook_money_currencies)], narrowed := true }
def BookZeroUptoSaid : Prop := bookZeroUptoRow.holds Tryd.pinned (OpenSpec.upto bookZeroSpec)

/-- 'cashbooklaw20.BookBack', WHERE WHAT IT READS IS OF BULK AT MOST 1048576: true; the input reads as it did. -/
def bookBackUptoRow : OpenClaim := { program := "ytdhefhnlagnkdaadoor", sum := "780948e51b1ac1288d35321cc19b6a441653aea83e3f454f43a54cc5f97f5d3f", func := "cashbook/cashbooklaw20.BookBack", spec := "bookBack", unfollowed := true, recurses := true, named := ["cashbook/money.currencies"], apart := false, laid := [("cashbook/money.currencies", laid_cashbook_money_currencies)], narrowed := true }
def BookBackUptoSaid : Prop := bookBackUptoRow.holds Tryd.pinned (OpenSpec.upto bookBackSpec)

/-- 'cashbooklaw19.EntryTells', WHERE WHAT IT READS IS OF BULK AT MOST 1048576: true; the input reads as it did. -/
def entryTellsUptoRow : OpenClaim := { program := "ytdhefhnlagnkdaadoor", sum := "780948e51b1ac1288d35321cc19b6a441653aea83e3f454f43a54cc5f97f5d3f", func := "cashbook/cashbooklaw19.EntryTells", spec := "entryTells", unfollowed := true, recurses := true, named := ["cashbook/money.currencies"], apart := false, laid := [("cashbook/money.currencies", laid_cashbook_money_currencies)], narrowed := true }
def EntryTellsUptoSaid : Prop := entryTellsUptoRow.holds Tryd.pinned (OpenSpec.upto entryTellsSpec)

/-- 'cashbooklaw19.EntryReverses', WHERE WHAT IT READS IS OF BULK AT MOST 1048576: true; the input reads as it did. -/
def entryReversesUptoRow : OpenClaim := { program := "ytdhefhnlagnkdaadoor", sum := "780948e51b1ac1288d35321cc19b6a441653aea83e3f454f43a54cc5f97f5d3f", func := "cashbook/cashbooklaw19.EntryReverses", spec := "entryReverses", unfollowed := true, recurses := true, named := ["cashbook/money.currencies"], apart := false, laid := [("cashbook/money.currencies", laid_cashbook_money_currencies)], narrowed := true }
def EntryReversesUptoSaid : Prop := entryReversesUptoRow.holds Tryd.pinned (OpenSpec.upto entryReversesSpec)

/-- 'cashbooklaw19.EntryBalances', WHERE WHAT IT READS IS OF BULK AT MOST 1048576: true; the input reads as it did. -/
def entryBalancesUptoRow : OpenClaim := { program := "ytdhefhnlagnkdaadoor", sum := "780948e51b1ac1288d35321cc19b6a441653aea83e3f454f43a54cc5f97f5d3f", func := "cashbook/cashbooklaw19.EntryBalances", spec := "entryBalances", unfollowed := true, recurses := true, named := ["cashbook/money.currencies"], apart := false, laid := [("cashbook/money.currencies", laid_cashbook_money_currencies)], narrowed := true }
def EntryBalancesUptoSaid : Prop := entryBalancesUptoRow.holds Tryd.pinned (OpenSpec.upto entryBalancesSpec)

/-- 'cashbooklaw19.EntryBack', WHERE WHAT IT READS IS OF BULK AT MOST 1048576: true; the input reads as it did. -/
def entryBackUptoRow : OpenClaim := { program := "ytdhefhnlagnkdaadoor", sum := "780948e51b1ac1288d35321cc19b6a441653aea83e3f454f43a54cc5f97f5d3f", func := "cashbook/cashbooklaw19.EntryBack", spec := "entryBack", unfollowed := true, recurses := true, named := ["cashbook/money.currencies"], apart := false, laid := [("cashbook/money.currencies", laid_cashbook_money_currencies)], narrowed := true }
def EntryBackUptoSaid : Prop := entryBackUptoRow.holds Tryd.pinned (OpenSpec.upto entryBackSpec)

/-- 'cashbooklaw19.EntryBytes', WHERE WHAT IT READS IS OF BULK AT MOST 1048576: true; the input reads as it did. -/
def entryBytesUptoRow : OpenClaim := { program := "ytdhefhnlagnkdaadoor", sum := "780948e51b1ac1288d35321cc19b6a441653aea83e3f454f43a54cc5f97f5d3f", func := "cashbook/cashbooklaw19.EntryBytes", spec := "entryBytes", unfollowed := true, recurses := true, named := ["cashbook/money.currencies"], apart := false, laid := [("cashbook/money.currencies", laid_cashbook_money_currencies)], narrowed := true }
def EntryBytesUptoSaid : Prop := entryBytesUptoRow.holds Tryd.pinned (OpenSpec.upto entryBytesSpec)

/-- 'cashbooktop.TopReversed', WHERE WHAT IT READS IS OF BULK AT MOST 1048576: true; the input reads as it did. -/
def topReversedUptoRow : OpenClaim := { program := "ytdhefhnlagnkdaadoor", sum := "780948e51b1ac1288d35321cc19b6a441653aea83e3f454f43a54cc5f97f5d3f", func := "cashbook/cashbooktop.TopReversed", spec := "topReversed", unfollowed := true, recurses := true, named := ["cashbook/money.currencies"], apart := false, laid := [("cashbook/money.currencies", laid_cashbook_money_currencies)], narrowed := true }
def TopReversedUptoSaid : Prop := topReversedUptoRow.holds Tryd.pinned (OpenSpec.upto topReversedSpec)

end Rows
end Go.Proofs.YtdhefhnlagnkdaaDoor
