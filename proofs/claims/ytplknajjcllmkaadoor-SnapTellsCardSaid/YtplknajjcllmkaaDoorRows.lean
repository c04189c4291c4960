/-
  NARROWER THAN 'FOR EVERY INPUT', by the rows' own cells (each row's printed sentence says how): SnapTells: laid · SnapStays: laid · SnapLater: laid · SnapSums: laid · ScriptTells: laid · ScriptReads: laid · ScriptBack: laid · ScriptCut: laid · ScriptFaults: laid.
  DERIVED. THE GIVEN ROWS OF THIS SEAT. 9 by the template 'for every input the law returns true; each argument reads behind the call as it read before'; 0 by the template 'total and deterministic' (their statements: YtplknajjcllmkaaDoorTotals.lean).
  GIVEN WITH THE SEED: the statements are not yours to turn. If you find one false, say at which input.
  Laid BY PROGRAM, IN A SANDBOX (cutbox-rows.mjs): the forced cells as the released guide's own fill.sh prints them over the translation ee65f7674fc298e3… (all of the seat's roots in one cut). By AI agents, Wed Nov 11 2026. No macro, syntax, notation, axiom, sorry.
-/
import Derived.Test.YtplknajjcllmkaaDoorChecked
import GoSem.Claim
import GoSem.ClaimJoined
import GoSem.ClaimMapViews
import Derived.JoinedTies
import Derived.KernelRfl
namespace Go.Proofs.YtplknajjcllmkaaDoor
/- THE CELL 'sum', in the pinned program and in every row, IS THE sha256 OF THE DUMP (.gsa) THAT YtplknajjcllmkaaDoorProg.lean LOADS. Nothing in Lean hashes anything: it is a label: what it is worth is what the hold of that sum in a sandbox is worth. -/
noncomputable def Tryd.pinned : Pinned := { name := "ytplknajjcllmkaadoor", sum := "ee65f7674fc298e37eea120d43833e860b23e38576f94163d4eb6b6f8fe052ff", checked := Tryd.checked }
namespace Rows
def none {H : Type} : Left H := { results := [], args := [] }

/- WHAT THE LISTED PACKAGE-LEVEL VARIABLES READ AS WHEN THE CALL BEGINS. Each datum BY PROGRAM (the guide's laid-datum.mjs) off the statement by which the dump's own 'gosem.cut.vars' lays the variable. In a bare row this is a premise. The card (YtplknajjcllmkaaDoorCards.lean) ties it to the program's text. -/
def laid_cashbook_money_currencies {H : Type} : DataW H := .agg [.agg [.lit (.string [69, 85, 82]), .lit (.int .i64 2), .lit (.int .i64 100)], .agg [.lit (.string [74, 80, 89]), .lit (.int .i64 0), .lit (.int .i64 1)], .agg [.lit (.string [66, 72, 68]), .lit (.int .i64 3), .lit (.int .i64 1000)], .agg [.lit (.string [85, 83, 68]), .lit (.int .i64 2), .lit (.int .i64 100)]]
def laid_cashbook_script_tells {H : Type} : DataW H := .agg [.lit (.int .i64 1), .lit (.int .i64 2), .lit (.int .i64 516), .lit (.int .i64 2048), .lit (.int .i64 112), .lit (.int .i64 8), .lit (.int .i64 900), .lit (.int .i64 1160), .lit (.int .i64 8), .lit (.int .i64 1536), .lit (.int .i64 0)]

/-- 'cashbooklaw35.SnapTells': WHATEVER THE INPUT: true; the input reads as it did. -/
def snapTellsSpec : ChangeSpec := { name := "snapTells", fn := fun _ => fun
  | [d1, d2, d3, d4, d5] => { results := [.lit (.bool true)], args := [d1, d2, d3, d4, d5] }
  | _ => none }
def snapTellsRow : OpenClaim := { program := "ytplknajjcllmkaadoor", sum := "ee65f7674fc298e37eea120d43833e860b23e38576f94163d4eb6b6f8fe052ff", func := "cashbook/cashbooklaw35.SnapTells", spec := "snapTells", unfollowed := true, recurses := true, named := ["cashbook/money.currencies"], apart := false, laid := [("cashbook/money.currencies", laid_cashbook_money_currencies)] }
def SnapTellsSaid : Prop := snapTellsRow.holds Tryd.pinned (OpenSpec.ofChange snapTellsSpec)

/-- ITS FALSE NEIGHBOUR: 'it returns false'. Refute it at one input. -/
def snapTellsWrong : ChangeSpec := { name := "snapTells", fn := fun _ => fun
  | [d1, d2, d3, d4, d5] => { results := [.lit (.bool false)], args := [d1, d2, d3, d4, d5] }
  | _ => none }
def SnapTellsWrongFalsely : Prop := snapTellsRow.holds Tryd.pinned (OpenSpec.ofChange snapTellsWrong)

/-- 'cashbooklaw35.SnapStays': WHATEVER THE INPUT: true; the input reads as it did. -/
def snapStaysSpec : ChangeSpec := { name := "snapStays", fn := fun _ => fun
  | [d1, d2, d3, d4] => { results := [.lit (.bool true)], args := [d1, d2, d3, d4] }
  | _ => none }
def snapStaysRow : OpenClaim := { program := "ytplknajjcllmkaadoor", sum := "ee65f7674fc298e37eea120d43833e860b23e38576f94163d4eb6b6f8fe052ff", func := "cashbook/cashbooklaw35.SnapStays", spec := "snapStays", unfollowed := true, recurses := true, named := ["cashbook/money.currencies"], apart := false, laid := [("cashbook/money.currencies", laid_cashbook_money_currencies)] }
def SnapStaysSaid : Prop := snapStaysRow.holds Tryd.pinned (OpenSpec.ofChange snapStaysSpec)

/-- ITS FALSE NEIGHBOUR: 'it returns false'. Refute it at one input. -/
def snapStaysWrong : ChangeSpec := { name := "snapStays", fn := fun _ => fun
  | [d1, d2, d3, d4] => { results := [.lit (.bool false)], args := [d1, d2, d3, d4] }
  | _ => none }
def SnapStaysWrongFalsely : Prop := snapStaysRow.holds Tryd.pinned (OpenSpec.ofChange snapStaysWrong)

/-- 'cashbooklaw35.SnapLater': WHATEVER THE INPUT: true; the input reads as it did. -/
def snapLaterSpec : ChangeSpec := { name := "snapLater", fn := fun _ => fun
  | [d1, d2, d3, d4] => { results := [.lit (.bool true)], args := [d1, d2, d3, d4] }
  | _ => none }
def snapLaterRow : OpenClaim := { program := "ytplknajjcllmkaadoor", sum := "ee65f7674fc298e37eea120d43833e860b23e38576f94163d4eb6b6f8fe052ff", func := "cashbook/cashbooklaw35.SnapLater", spec := "snapLater", unfollowed := true, recurses := true, named := ["cashbook/money.currencies"], apart := false, laid := [("cashbook/money.currencies", laid_cashbook_money_currencies)] }
def SnapLaterSaid : Prop := snapLaterRow.holds Tryd.pinned (OpenSpec.ofChange snapLaterSpec)

/-- ITS FALSE NEIGHBOUR: 'it returns false'. Refute it at one input. -/
def snapLaterWrong : ChangeSpec := { name := "snapLater", fn := fun _ => fun
  | [d1, d2, d3, d4] => { results := [.lit (.bool false)], args := [d1, d2, d3, d4] }
  | _ => none }
def SnapLaterWrongFalsely : Prop := snapLaterRow.holds Tryd.pinned (OpenSpec.ofChange snapLaterWrong)

/-- 'cashbooklaw35.SnapSums': WHATEVER THE INPUT: true; the input reads as it did. -/
def snapSumsSpec : ChangeSpec := { name := "snapSums", fn := fun _ => fun
  | [d1, d2, d3] => { results := [.lit (.bool true)], args := [d1, d2, d3] }
  | _ => none }
def snapSumsRow : OpenClaim := { program := "ytplknajjcllmkaadoor", sum := "ee65f7674fc298e37eea120d43833e860b23e38576f94163d4eb6b6f8fe052ff", func := "cashbook/cashbooklaw35.SnapSums", spec := "snapSums", unfollowed := true, recurses := true, named := ["cashbook/money.currencies"], apart := false, laid := [("cashbook/money.currencies", laid_cashbook_money_currencies)] }
def SnapSumsSaid : Prop := snapSumsRow.holds Tryd.pinned (OpenSpec.ofChange snapSumsSpec)

/-- ITS FALSE NEIGHBOUR: 'it returns false'. Refute it at one input. -/
def snapSumsWrong : ChangeSpec := { name := "snapSums", fn := fun _ => fun
  | [d1, d2, d3] => { results := [.lit (.bool false)], args := [d1, d2, d3] }
  | _ => none }
def SnapSumsWrongFalsely : Prop := snapSumsRow.holds Tryd.pinned (OpenSpec.ofChange snapSumsWrong)

/-- 'cashbooklaw36.ScriptTells': WHATEVER THE INPUT: true; the input reads as it did. -/
def scriptTellsSpec : ChangeSpec := { name := "scriptTells", fn := fun _ => fun
  | [d1, d2] => { results := [.lit (.bool true)], args := [d1, d2] }
  | _ => none }
def scriptTellsRow : OpenClaim := { program := "ytplknajjcllmkaadoor", sum := "ee65f7674fc298e37eea120d43833e860b23e38576f94163d4eb6b6f8fe052ff", func := "cashbook/cashbooklaw36.ScriptTells", spec := "scriptTells", unfollowed := true, recurses := true, named := ["cashbook/script.tells"], apart := false, laid := [("cashbook/script.tells", laid_cashbook_script_tells)] }
def ScriptTellsSaid : Prop := scriptTellsRow.holds Tryd.pinned (OpenSpec.ofChange scriptTellsSpec)

/-- ITS FALSE NEIGHBOUR: 'it returns false'. Refute it at one input. -/
def scriptTellsWrong : ChangeSpec := { name := "scriptTells", fn := fun _ => fun
  | [d1, d2] => { results := [.lit (.bool false)], args := [d1, d2] }
  | _ => none }
def ScriptTellsWrongFalsely : Prop := scriptTellsRow.holds Tryd.pinned (OpenSpec.ofChange scriptTellsWrong)

/-- 'cashbooklaw36.ScriptReads': WHATEVER THE INPUT: true; the input reads as it did. -/
def scriptReadsSpec : ChangeSpec := { name := "scriptReads", fn := fun _ => fun
  | [d1, d2, d3, d4] => { results := [.lit (.bool true)], args := [d1, d2, d3, d4] }
  | _ => none }
def scriptReadsRow : OpenClaim := { program := "ytplknajjcllmkaadoor", sum := "ee65f7674fc298e37eea120d43833e860b23e38576f94163d4eb6b6f8fe052ff", func := "cashbook/cashbooklaw36.ScriptReads", spec := "scriptReads", unfollowed := true, recurses := true, named := ["cashbook/script.tells"], apart := false, laid := [("cashbook/script.tells", laid_cashbook_script_tells)] }
def ScriptReadsSaid : Prop := scriptReadsRow.holds Tryd.pinned (OpenSpec.ofChange scriptReadsSpec)

/-- ITS FALSE NEIGHBOUR: 'it returns false'. Refute it at one input. -/
def scriptReadsWrong : ChangeSpec := { name := "scriptReads", fn := fun _ => fun
  | [d1, d2, d3, d4] => { results := [.lit (.bool false)], args := [d1, d2, d3, d4] }
  | _ => none }
def ScriptReadsWrongFalsely : Prop := scriptReadsRow.holds Tryd.pinned (OpenSpec.ofChange scriptReadsWrong)

/-- 'cashbooklaw36.ScriptBack': WHATEVER THE INPUT: true; the input reads as it did. -/
def scriptBackSpec : ChangeSpec := { name := "scriptBack", fn := fun _ => fun
  | [d1, d2] => { results := [.lit (.bool true)], args := [d1, d2] }
  | _ => none }
def scriptBackRow : OpenClaim := { program := "ytplknajjcllmkaadoor", sum := "ee65f7674fc298e37eea120d43833e860b23e38576f94163d4eb6b6f8fe052ff", func := "cashbook/cashbooklaw36.ScriptBack", spec := "scriptBack", unfollowed := true, recurses := true, named := ["cashbook/script.tells"], apart := false, laid := [("cashbook/script.tells", laid_cashbook_script_tells)] }
def ScriptBackSaid : Prop := scriptBackRow.holds Tryd.pinned (OpenSpec.ofChange scriptBackSpec)

/-- ITS FALSE NEIGHBOUR: 'it returns false'. Refute it at one input. -/
def scriptBackWrong : ChangeSpec := { name := "scriptBack", fn := fun _ => fun
  | [d1, d2] => { results := [.lit (.bool false)], args := [d1, d2] }
  | _ => none }
def ScriptBackWrongFalsely : Prop := scriptBackRow.holds Tryd.pinned (OpenSpec.ofChange scriptBackWrong)

/-- 'cashbooklaw36.ScriptCut': WHATEVER THE INPUT: true; the input reads as it did. -/
def scriptCutSpec : ChangeSpec := { name := "scriptCut", fn := fun _ => fun
  | [d1, d2, d3] => { results := [.lit (.bool true)], args := [d1, d2, d3] }
  | _ => none }
def scriptCutRow : OpenClaim := { program := "ytplknajjcllmkaadoor", sum := "ee65f7674fc298e37eea120d43833e860b23e38576f94163d4eb6b6f8fe052ff", func := "cashbook/cashbooklaw36.ScriptCut", spec := "scriptCut", unfollowed := true, recurses := true, named := ["cashbook/script.tells"], apart := false, laid := [("cashbook/script.tells", laid_cashbook_script_tells)] }
def ScriptCutSaid : Prop := scriptCutRow.holds Tryd.pinned (OpenSpec.ofChange scriptCutSpec)

/-- ITS FALSE NEIGHBOUR: 'it returns false'. Refute it at one input. -/
def scriptCutWrong : ChangeSpec := { name := "scriptCut", fn := fun _ => fun
  | [d1, d2, d3] => { results := [.lit (.bool false)], args := [d1, d2, d3] }
  | _ => none }
def ScriptCutWrongFalsely : Prop := scriptCutRow.holds Tryd.pinned (OpenSpec.ofChange scriptCutWrong)

/-- 'cashbooklaw36.ScriptFaults': WHATEVER THE INPUT: true; the input reads as it did. -/
def scriptFaultsSpec : ChangeSpec := { name := "scriptFaults", fn := fun _ => fun
  | [d1, d2, d3] => { results := [.lit (.bool true)], args := [d1, d2, d3] }
  | _ => none }
def scriptFaultsRow : OpenClaim := { program := "ytplknajjcllmkaadoor", sum := "ee65f7674fc298e37eea120d43833e860b23e38576f94163d4eb6b6f8fe052ff", func := "cashbook/cashbooklaw36.ScriptFaults", spec := "scriptFaults", unfollowed := true, recurses := true, named := ["cashbook/script.tells"], apart := false, laid := [("cashbook/script.tells", laid_cashbook_script_tells)] }
def ScriptFaultsSaid : Prop := scriptFaultsRow.holds Tryd.pinned (OpenSpec.ofChange scriptFaultsSpec)

/-- ITS FALSE NEIGHBOUR: 'it returns false'. Refute it at one input. -/
def scriptFaultsWrong : ChangeSpec := { name := "scriptFaults", fn := fun _ => fun
  | [d1, d2, d3] => { results := [.lit (.bool false)], args := [d1, d2, d3] }
  | _ => none }
def ScriptFaultsWrongFalsely : Prop := scriptFaultsRow.holds Tryd.pinned (OpenSpec.ofChange scriptFaultsWrong)

/- THE SECOND FORM. 'bulk': how many values and letters a reading holds, each counted each time it is reached (what is shared counts as often as it is met; a slice's spare places count too). A statement '..UptoSaid' is the law's where the arguments, and the package variables that the reading takes, are together of bulk at most 1048576: NARROWER than '..Said'. Prove '..Said' where nothing that the law and all that it calls make is longer than what came in: it says more and counts as full. Else prove '..UptoSaid'. A law counts once. -/
mutual
def uptoBulk {H : Type} : DataW H → Nat
  | .lit (.string bytes) => bytes.length + 1
  | .lit _ => 1
  | .nil => 1
  | .ptr d => uptoBulk d + 1
  | .slice elems spare => uptoBulkAll elems + uptoBulkAll spare + 1
  | .agg parts => uptoBulkAll parts + 1
  | .iface _ d => uptoBulk d + 1
  | .map entries => uptoBulkEntries entries + 1
  | .held _ => 1
def uptoBulkAll {H : Type} : List (DataW H) → Nat
  | [] => 0
  | d :: r => uptoBulk d + uptoBulkAll r
def uptoBulkEntries {H : Type} : List (Lit × DataW H) → Nat
  | [] => 0
  | x :: r => uptoBulkEntry x + uptoBulkEntries r
def uptoBulkEntry {H : Type} : Lit × DataW H → Nat
  | (.string bytes, d) => bytes.length + uptoBulk d + 1
  | (_, d) => uptoBulk d + 1
 end
def uptoSmall : (H : Type) → List (DataW H) → Bool := fun _ ds => decide (uptoBulkAll ds ≤ 1048576)
def OpenSpec.upto (s : _root_.Go.ChangeSpec) : _root_.Go.OpenSpec := { _root_.Go.OpenSpec.ofChange s with cond := some uptoSmall }

/-- 'cashbooklaw35.SnapTells', WHERE WHAT IT READS IS OF BULK AT MOST 1048576: true; the input reads as it did. -/
def snapTellsUptoRow : OpenClaim := { program := "ytplknajjcllmkaadoor", sum := "ee65f7674fc298e37eea120d43833e860b23e38576f94163d4eb6b6f8fe052ff", func := "cashbook/cashbooklaw35.SnapTells", spec := "snapTells", unfollowed := true, recurses := true, named := ["cashbook/money.currencies"], apart := false, laid := [("cashbook/money.currencies", laid_cashbook_money_currencies)], narrowed := true }
def SnapTellsUptoSaid : Prop := snapTellsUptoRow.holds Tryd.pinned (OpenSpec.upto snapTellsSpec)

/-- 'cashbooklaw35.SnapStays', WHERE WHAT IT READS IS OF BULK AT MOST 1048576: true; the input reads as it did. -/
def snapStaysUptoRow : OpenClaim := { program := "ytplknajjcllmkaadoor", sum := "ee65f7674fc298e37eea120d43833e860b23e38576f94163d4eb6b6f8fe052ff", func := "cashbook/cashbooklaw35.SnapStays", spec := "snapStays", unfollowed := true, recurses := true, named := ["cashbook/money.currencies"], apart := false, laid := [("cashbook/money.currencies", laid_cashbook_money_currencies)], narrowed := true }
def SnapStaysUptoSaid : Prop := snapStaysUptoRow.holds Tryd.pinned (OpenSpec.upto snapStaysSpec)

/-- 'cashbooklaw35.SnapLater', WHERE WHAT IT READS IS OF BULK AT MOST 1048576: true; the input reads as it did. -/
def snapLaterUptoRow : OpenClaim := { program := "ytplknajjcllmkaadoor", sum := "ee65f7674fc298e37eea120d43833e860b23e38576f94163d4eb6b6f8fe052ff", func := "cashbook/cashbooklaw35.SnapLater", spec := "snapLater", unfollowed := true, recurses := true, named := ["cashbook/money.currencies"], apart := false, laid := [("cashbook/money.currencies", laid_cashbook_money_currencies)], narrowed := true }
def SnapLaterUptoSaid : Prop := snapLaterUptoRow.holds Tryd.pinned (OpenSpec.upto snapLaterSpec)

/-- 'cashbooklaw35.SnapSums', WHERE WHAT IT READS IS OF BULK AT MOST 1048576: true; the input reads as it did. -/
def snapSumsUptoRow : OpenClaim := { program := "ytplknajjcllmkaadoor", sum := "ee65f7674fc298e37eea120d43833e860b23e38576f94163d4eb6b6f8fe052ff", func := "cashbook/cashbooklaw35.SnapSums", spec := "snapSums", unfollowed := true, recurses := true, named := ["cashbook/money.currencies"], apart := false, laid := [("cashbook/money.currencies", laid_cashbook_money_currencies)], narrowed := true }
def SnapSumsUptoSaid : Prop := snapSumsUptoRow.holds Tryd.pinned (OpenSpec.upto snapSumsSpec)

/-- 'cashbooklaw36.ScriptTells', WHERE WHAT IT READS IS OF BULK AT MOST 1048576: true; the input reads as it did. -/
def scriptTellsUptoRow : OpenClaim := { program := "ytplknajjcllmkaadoor", sum := "ee65f7674fc298e37eea120d43833e860b23e38576f94163d4eb6b6f8fe052ff", func := "cashbook/cashbooklaw36.ScriptTells", spec := "scriptTells", unfollowed := true, recurses := true, named := ["cashbook/script.tells"], apart := false, laid := [("cashbook/script.tells", laid_cashbook_script_tells)], narrowed := true }
def ScriptTellsUptoSaid : Prop := scriptTellsUptoRow.holds Tryd.pinned (OpenSpec.upto scriptTellsSpec)

/-- 'cashbooklaw36.ScriptReads', WHERE WHAT IT READS IS OF BULK AT MOST 1048576: true; the input reads as it did. -/
def scriptReadsUptoRow : OpenClaim := { program := "ytplknajjcllmkaadoor", sum := "ee65f7674fc298e37eea120d43833e860b23e38576f94163d4eb6b6f8fe052ff", func := "cashbook/cashbooklaw36.ScriptReads", spec := "scriptReads", unfollowed := true, recurses := true, named := ["cashbook/script.tells"], apart := false, laid := [("cashbook/script.tells", laid_cashbook_script_tells)], narrowed := true }
def ScriptReadsUptoSaid : Prop := scriptReadsUptoRow.holds Tryd.pinned (OpenSpec.upto scriptReadsSpec)

/-- 'cashbooklaw36.ScriptBack', WHERE WHAT IT READS IS OF BULK AT MOST 1048576: true; the input reads as it did. -/
def scriptBackUptoRow : OpenClaim := { program := "ytplknajjcllmkaadoor", sum := "ee65f7674fc298e37eea120d43833e860b23e38576f94163d4eb6b6f8fe052ff", func := "cashbook/cashbooklaw36.ScriptBack", spec := "scriptBack", unfollowed := true, recurses := true, named := ["cashbook/script.tells"], apart := false, laid := [("cashbook/script.tells", laid_cashbook_script_tells)], narrowed := true }
def ScriptBackUptoSaid : Prop := scriptBackUptoRow.holds Tryd.pinned (OpenSpec.upto scriptBackSpec)

/-- 'cashbooklaw36.ScriptCut', WHERE WHAT IT READS IS OF BULK AT MOST 1048576: true; the input reads as it did. -/
def scriptCutUptoRow : OpenClaim := { program := "ytplknajjcllmkaadoor", sum := "ee65f7674fc298e37eea120d43833e860b23e38576f94163d4eb6b6f8fe052ff", func := "cashbook/cashbooklaw36.ScriptCut", spec := "scriptCut", unfollowed := true, recurses := true, named := ["cashbook/script.tells"], apart := false, laid := [("cashbook/script.tells", laid_cashbook_script_tells)], narrowed := true }
def ScriptCutUptoSaid : Prop := scriptCutUptoRow.holds Tryd.pinned (OpenSpec.upto scriptCutSpec)

/-- 'cashbooklaw36.ScriptFaults', WHERE WHAT IT READS IS OF BULK AT MOST 1048576: true; the input reads as it did. -/
def scriptFaultsUptoRow : OpenClaim := { program := "ytplknajjcllmkaadoor", sum := "ee65f7674fc298e37eea120d43833e860b23e38576f94163d4eb6b6f8fe052ff", func := "cashbook/cashbooklaw36.ScriptFaults", spec := "scriptFaults", unfollowed := true, recurses := true, named := ["cashbook/script.tells"], apart := false, laid := [("cashbook/script.tells", laid_cashbook_script_tells)], narrowed := true }
def ScriptFaultsUptoSaid : Prop := scriptFaultsUptoRow.holds Tryd.pinned (OpenSpec.upto scriptFaultsSpec)

end Rows
end Go.Proofs.YtplknajjcllmkaaDoor
