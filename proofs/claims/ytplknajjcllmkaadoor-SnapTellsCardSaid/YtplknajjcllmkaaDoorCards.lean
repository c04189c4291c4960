/-
  DERIVED. GIVEN WITH THE SEED: THE CARDS: each row of YtplknajjcllmkaaDoorRows.lean that lists a variable, with what it lists TIED to the program's text (the seventh form; the later family's looks); each row that meets fmt, with fmt's text TOLD by the authors' own Lean function (tested against real Go, not proved from fmt's source: count such statements apart). THE CARD IS WHAT COUNTS. Prove the row's statement (the work); the ties are given (YtplknajjcllmkaaDoorTie.lean); close each card by the builder's one call (the guide's Derived/Test/ToyasCard.lean, 'card_holds'). Laid BY PROGRAM, IN A SANDBOX (cutbox-door.mjs). By AI agents, Wed Nov 11 2026. No macro, syntax, notation, axiom, sorry.
-/
import Derived.Test.YtplknajjcllmkaaDoorRows
import GoSem.ClaimSeven
namespace Go.Proofs.YtplknajjcllmkaaDoor
namespace Rows

/-- THE TIED CARD OF 'cashbooklaw35.SnapTells'. -/
def snapTellsCard : Claim7 := { stood := { row := snapTellsRow, standIns := [], harness := (true, "0289873bfa70ad2e75ddc020b0e543e4e9abf9802b1fd880842b9fefd79c89b2"), looks := false }, kinds := [], alts := [], laidByText := true, laidKinds := [.widerDeep], laidTests := true, laidLooks := .later }
def SnapTellsCardSaid : Prop := Claim7.holds Tryd.pinned (.plain (OpenSpec.ofChange snapTellsSpec)) snapTellsCard

/-- THE TIED CARD OF 'cashbooklaw35.SnapStays'. -/
def snapStaysCard : Claim7 := { stood := { row := snapStaysRow, standIns := [], harness := (true, "0289873bfa70ad2e75ddc020b0e543e4e9abf9802b1fd880842b9fefd79c89b2"), looks := false }, kinds := [], alts := [], laidByText := true, laidKinds := [.widerDeep], laidTests := true, laidLooks := .later }
def SnapStaysCardSaid : Prop := Claim7.holds Tryd.pinned (.plain (OpenSpec.ofChange snapStaysSpec)) snapStaysCard

/-- THE TIED CARD OF 'cashbooklaw35.SnapLater'. -/
def snapLaterCard : Claim7 := { stood := { row := snapLaterRow, standIns := [], harness := (true, "0289873bfa70ad2e75ddc020b0e543e4e9abf9802b1fd880842b9fefd79c89b2"), looks := false }, kinds := [], alts := [], laidByText := true, laidKinds := [.widerDeep], laidTests := true, laidLooks := .later }
def SnapLaterCardSaid : Prop := Claim7.holds Tryd.pinned (.plain (OpenSpec.ofChange snapLaterSpec)) snapLaterCard

/-- THE TIED CARD OF 'cashbooklaw35.SnapSums'. -/
def snapSumsCard : Claim7 := { stood := { row := snapSumsRow, standIns := [], harness := (true, "0289873bfa70ad2e75ddc020b0e543e4e9abf9802b1fd880842b9fefd79c89b2"), looks := false }, kinds := [], alts := [], laidByText := true, laidKinds := [.widerDeep], laidTests := true, laidLooks := .later }
def SnapSumsCardSaid : Prop := Claim7.holds Tryd.pinned (.plain (OpenSpec.ofChange snapSumsSpec)) snapSumsCard

/-- THE TIED CARD OF 'cashbooklaw36.ScriptTells'. -/
def scriptTellsCard : Claim7 := { stood := { row := scriptTellsRow, standIns := [], harness := (true, "0289873bfa70ad2e75ddc020b0e543e4e9abf9802b1fd880842b9fefd79c89b2"), looks := false }, kinds := [], alts := [], laidByText := true, laidKinds := [.data], laidTests := true, laidLooks := .later }
def ScriptTellsCardSaid : Prop := Claim7.holds Tryd.pinned (.plain (OpenSpec.ofChange scriptTellsSpec)) scriptTellsCard

/-- THE TIED CARD OF 'cashbooklaw36.ScriptReads'. -/
def scriptReadsCard : Claim7 := { stood := { row := scriptReadsRow, standIns := [], harness := (true, "0289873bfa70ad2e75ddc020b0e543e4e9abf9802b1fd880842b9fefd79c89b2"), looks := false }, kinds := [], alts := [], laidByText := true, laidKinds := [.data], laidTests := true, laidLooks := .later }
def ScriptReadsCardSaid : Prop := Claim7.holds Tryd.pinned (.plain (OpenSpec.ofChange scriptReadsSpec)) scriptReadsCard

/-- THE TIED CARD OF 'cashbooklaw36.ScriptBack'. -/
def scriptBackCard : Claim7 := { stood := { row := scriptBackRow, standIns := [], harness := (true, "0289873bfa70ad2e75ddc020b0e543e4e9abf9802b1fd880842b9fefd79c89b2"), looks := false }, kinds := [], alts := [], laidByText := true, laidKinds := [.data], laidTests := true, laidLooks := .later }
def ScriptBackCardSaid : Prop := Claim7.holds Tryd.pinned (.plain (OpenSpec.ofChange scriptBackSpec)) scriptBackCard

/-- THE TIED CARD OF 'cashbooklaw36.ScriptCut'. -/
def scriptCutCard : Claim7 := { stood := { row := scriptCutRow, standIns := [], harness := (true, "0289873bfa70ad2e75ddc020b0e543e4e9abf9802b1fd880842b9fefd79c89b2"), looks := false }, kinds := [], alts := [], laidByText := true, laidKinds := [.data], laidTests := true, laidLooks := .later }
def ScriptCutCardSaid : Prop := Claim7.holds Tryd.pinned (.plain (OpenSpec.ofChange scriptCutSpec)) scriptCutCard

/-- THE TIED CARD OF 'cashbooklaw36.ScriptFaults'. -/
def scriptFaultsCard : Claim7 := { stood := { row := scriptFaultsRow, standIns := [], harness := (true, "0289873bfa70ad2e75ddc020b0e543e4e9abf9802b1fd880842b9fefd79c89b2"), looks := false }, kinds := [], alts := [], laidByText := true, laidKinds := [.data], laidTests := true, laidLooks := .later }
def ScriptFaultsCardSaid : Prop := Claim7.holds Tryd.pinned (.plain (OpenSpec.ofChange scriptFaultsSpec)) scriptFaultsCard

/-- THE SECOND FORM's CARD OF 'cashbooklaw35.SnapTells'. -/
def snapTellsUptoCard : Claim7 := { stood := { row := snapTellsUptoRow, standIns := [], harness := (true, "0289873bfa70ad2e75ddc020b0e543e4e9abf9802b1fd880842b9fefd79c89b2"), looks := false }, kinds := [], alts := [], laidByText := true, laidKinds := [.widerDeep], laidTests := true, laidLooks := .later }
def SnapTellsUptoCardSaid : Prop := Claim7.holds Tryd.pinned (.plain (OpenSpec.upto snapTellsSpec)) snapTellsUptoCard

/-- THE SECOND FORM's CARD OF 'cashbooklaw35.SnapStays'. -/
def snapStaysUptoCard : Claim7 := { stood := { row := snapStaysUptoRow, standIns := [], harness := (true, "0289873bfa70ad2e75ddc020b0e543e4e9abf9802b1fd880842b9fefd79c89b2"), looks := false }, kinds := [], alts := [], laidByText := true, laidKinds := [.widerDeep], laidTests := true, laidLooks := .later }
def SnapStaysUptoCardSaid : Prop := Claim7.holds Tryd.pinned (.plain (OpenSpec.upto snapStaysSpec)) snapStaysUptoCard

/-- THE SECOND FORM's CARD OF 'cashbooklaw35.SnapLater'. -/
def snapLaterUptoCard : Claim7 := { stood := { row := snapLaterUptoRow, standIns := [], harness := (true, "0289873bfa70ad2e75ddc020b0e543e4e9abf9802b1fd880842b9fefd79c89b2"), looks := false }, kinds := [], alts := [], laidByText := true, laidKinds := [.widerDeep], laidTests := true, laidLooks := .later }
def SnapLaterUptoCardSaid : Prop := Claim7.holds Tryd.pinned (.plain (OpenSpec.upto snapLaterSpec)) snapLaterUptoCard

/-- THE SECOND FORM's CARD OF 'cashbooklaw35.SnapSums'. -/
def snapSumsUptoCard : Claim7 := { stood := { row := snapSumsUptoRow, standIns := [], harness := (true, "0289873bfa70ad2e75ddc020b0e543e4e9abf9802b1fd880842b9fefd79c89b2"), looks := false }, kinds := [], alts := [], laidByText := true, laidKinds := [.widerDeep], laidTests := true, laidLooks := .later }
def SnapSumsUptoCardSaid : Prop := Claim7.holds Tryd.pinned (.plain (OpenSpec.upto snapSumsSpec)) snapSumsUptoCard

/-- THE SECOND FORM's CARD OF 'cashbooklaw36.ScriptTells'. -/
def scriptTellsUptoCard : Claim7 := { stood := { row := scriptTellsUptoRow, standIns := [], harness := (true, "0289873bfa70ad2e75ddc020b0e543e4e9abf9802b1fd880842b9fefd79c89b2"), looks := false }, kinds := [], alts := [], laidByText := true, laidKinds := [.data], laidTests := true, laidLooks := .later }
def ScriptTellsUptoCardSaid : Prop := Claim7.holds Tryd.pinned (.plain (OpenSpec.upto scriptTellsSpec)) scriptTellsUptoCard

/-- THE SECOND FORM's CARD OF 'cashbooklaw36.ScriptReads'. -/
def scriptReadsUptoCard : Claim7 := { stood := { row := scriptReadsUptoRow, standIns := [], harness := (true, "0289873bfa70ad2e75ddc020b0e543e4e9abf9802b1fd880842b9fefd79c89b2"), looks := false }, kinds := [], alts := [], laidByText := true, laidKinds := [.data], laidTests := true, laidLooks := .later }
def ScriptReadsUptoCardSaid : Prop := Claim7.holds Tryd.pinned (.plain (OpenSpec.upto scriptReadsSpec)) scriptReadsUptoCard

/-- THE SECOND FORM's CARD OF 'cashbooklaw36.ScriptBack'. -/
def scriptBackUptoCard : Claim7 := { stood := { row := scriptBackUptoRow, standIns := [], harness := (true, "0289873bfa70ad2e75ddc020b0e543e4e9abf9802b1fd880842b9fefd79c89b2"), looks := false }, kinds := [], alts := [], laidByText := true, laidKinds := [.data], laidTests := true, laidLooks := .later }
def ScriptBackUptoCardSaid : Prop := Claim7.holds Tryd.pinned (.plain (OpenSpec.upto scriptBackSpec)) scriptBackUptoCard

/-- THE SECOND FORM's CARD OF 'cashbooklaw36.ScriptCut'. -/
def scriptCutUptoCard : Claim7 := { stood := { row := scriptCutUptoRow, standIns := [], harness := (true, "0289873bfa70ad2e75ddc020b0e543e4e9abf9802b1fd880842b9fefd79c89b2"), looks := false }, kinds := [], alts := [], laidByText := true, laidKinds := [.data], laidTests := true, laidLooks := .later }
def ScriptCutUptoCardSaid : Prop := Claim7.holds Tryd.pinned (.plain (OpenSpec.upto scriptCutSpec)) scriptCutUptoCard

/-- THE SECOND FORM's CARD OF 'cashbooklaw36.ScriptFaults'. -/
def scriptFaultsUptoCard : Claim7 := { stood := { row := scriptFaultsUptoRow, standIns := [], harness := (true, "0289873bfa70ad2e75ddc020b0e543e4e9abf9802b1fd880842b9fefd79c89b2"), looks := false }, kinds := [], alts := [], laidByText := true, laidKinds := [.data], laidTests := true, laidLooks := .later }
def ScriptFaultsUptoCardSaid : Prop := Claim7.holds Tryd.pinned (.plain (OpenSpec.upto scriptFaultsSpec)) scriptFaultsUptoCard
end Rows
end Go.Proofs.YtplknajjcllmkaaDoor
