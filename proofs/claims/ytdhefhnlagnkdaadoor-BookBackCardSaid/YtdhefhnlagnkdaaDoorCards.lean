/-
  DERIVED. GIVEN WITH THE SEED: THE CARDS: each row of YtdhefhnlagnkdaaDoorRows.lean that lists a variable, with what it lists TIED to the program's text (the seventh form; the later family's looks); each row that meets fmt, with fmt's text TOLD by the authors' own Lean function (tested against real Go, not proved from fmt's source: count such statements apart). THE CARD IS WHAT COUNTS. Prove the row's statement (the work); the ties are given (YtdhefhnlagnkdaaDoorTie.lean); close each card by the builder's one call (the guide's Derived/Test/ToyasCard.lean, 'card_holds'). Laid BY PROGRAM, IN A SANDBOX (cutbox-door.mjs). By AI agents, Wed Nov 11 2026. No macro, syntax, notation, axiom, sorry.
-/
import Derived.Test.YtdhefhnlagnkdaaDoorRows
import GoSem.ClaimSeven
namespace Go.Proofs.YtdhefhnlagnkdaaDoor
namespace Rows

/-- THE TIED CARD OF 'cashbooklaw20.BookTells'. -/
def bookTellsCard : Claim7 := { stood := { row := bookTellsRow, standIns := [], harness := (true, "a95821aee729b439400eedf8a60115a32273ed177b9519172d96c7df54e3534a"), looks := false }, kinds := [], alts := [], laidByText := true, laidKinds := [.widerDeep], laidTests := true, laidLooks := .later }
def BookTellsCardSaid : Prop := Claim7.holds Tryd.pinned (.plain (OpenSpec.ofChange bookTellsSpec)) bookTellsCard

/-- THE TIED CARD OF 'cashbooklaw20.BookSums'. -/
def bookSumsCard : Claim7 := { stood := { row := bookSumsRow, standIns := [], harness := (true, "a95821aee729b439400eedf8a60115a32273ed177b9519172d96c7df54e3534a"), looks := false }, kinds := [], alts := [], laidByText := true, laidKinds := [.widerDeep], laidTests := true, laidLooks := .later }
def BookSumsCardSaid : Prop := Claim7.holds Tryd.pinned (.plain (OpenSpec.ofChange bookSumsSpec)) bookSumsCard

/-- THE TIED CARD OF 'cashbooklaw20.BookStays'. -/
def bookStaysCard : Claim7 := { stood := { row := bookStaysRow, standIns := [], harness := (true, "a95821aee729b439400eedf8a60115a32273ed177b9519172d96c7df54e3534a"), looks := false }, kinds := [], alts := [], laidByText := true, laidKinds := [.widerDeep], laidTests := true, laidLooks := .later }
def BookStaysCardSaid : Prop := Claim7.holds Tryd.pinned (.plain (OpenSpec.ofChange bookStaysSpec)) bookStaysCard

/-- THE TIED CARD OF 'cashbooklaw20.BookTurned'. -/
def bookTurnedCard : Claim7 := { stood := { row := bookTurnedRow, standIns := [], harness := (true, "a95821aee729b439400eedf8a60115a32273ed177b9519172d96c7df54e3534a"), looks := false }, kinds := [], alts := [], laidByText := true, laidKinds := [.widerDeep], laidTests := true, laidLooks := .later }
def BookTurnedCardSaid : Prop := Claim7.holds Tryd.pinned (.plain (OpenSpec.ofChange bookTurnedSpec)) bookTurnedCard

/-- THE TIED CARD OF 'cashbooklaw20.BookZero'. -/
def bookZeroCard : Claim7 := { stood := { row := bookZeroRow, standIns := [], harness := (true, "a95821aee729b439400eedf8a60115a32273ed177b9519172d96c7df54e3534a"), looks := false }, kinds := [], alts := [], laidByText := true, laidKinds := [.widerDeep], laidTests := true, laidLooks := .later }
def BookZeroCardSaid : Prop := Claim7.holds Tryd.pinned (.plain (OpenSpec.ofChange bookZeroSpec)) bookZeroCard

/-- THE TIED CARD OF 'cashbooklaw20.BookBack'. -/
def bookBackCard : Claim7 := { stood := { row := bookBackRow, standIns := [], harness := (true, "a95821aee729b439400eedf8a60115a32273ed177b9519172d96c7df54e3534a"), looks := false }, kinds := [], alts := [], laidByText := true, laidKinds := [.widerDeep], laidTests := true, laidLooks := .later }
def BookBackCardSaid : Prop := Claim7.holds Tryd.pinned (.plain (OpenSpec.ofChange bookBackSpec)) bookBackCard

/-- THE TIED CARD OF 'cashbooklaw19.EntryTells'. -/
def entryTellsCard : Claim7 := { stood := { row := entryTellsRow, standIns := [], harness := (true, "a95821aee729b439400eedf8a60115a32273ed177b9519172d96c7df54e3534a"), looks := false }, kinds := [], alts := [], laidByText := true, laidKinds := [.widerDeep], laidTests := true, laidLooks := .later }
def EntryTellsCardSaid : Prop := Claim7.holds Tryd.pinned (.plain (OpenSpec.ofChange entryTellsSpec)) entryTellsCard

/-- THE TIED CARD OF 'cashbooklaw19.EntryReverses'. -/
def entryReversesCard : Claim7 := { stood := { row := entryReversesRow, standIns := [], harness := (true, "a95821aee729b439400eedf8a60115a32273ed177b9519172d96c7df54e3534a"), looks := false }, kinds := [], alts := [], laidByText := true, laidKinds := [.widerDeep], laidTests := true, laidLooks := .later }
def EntryReversesCardSaid : Prop := Claim7.holds Tryd.pinned (.plain (OpenSpec.ofChange entryReversesSpec)) entryReversesCard

/-- THE TIED CARD OF 'cashbooklaw19.EntryBalances'. -/
def entryBalancesCard : Claim7 := { stood := { row := entryBalancesRow, standIns := [], harness := (true, "a95821aee729b439400eedf8a60115a32273ed177b9519172d96c7df54e3534a"), looks := false }, kinds := [], alts := [], laidByText := true, laidKinds := [.widerDeep], laidTests := true, laidLooks := .later }
def EntryBalancesCardSaid : Prop := Claim7.holds Tryd.pinned (.plain (OpenSpec.ofChange entryBalancesSpec)) entryBalancesCard

/-- THE TIED CARD OF 'cashbooklaw19.EntryBack'. -/
def entryBackCard : Claim7 := { stood := { row := entryBackRow, standIns := [], harness := (true, "a95821aee729b439400eedf8a60115a32273ed177b9519172d96c7df54e3534a"), looks := false }, kinds := [], alts := [], laidByText := true, laidKinds := [.widerDeep], laidTests := true, laidLooks := .later }
def EntryBackCardSaid : Prop := Claim7.holds Tryd.pinned (.plain (OpenSpec.ofChange entryBackSpec)) entryBackCard

/-- THE TIED CARD OF 'cashbooklaw19.EntryBytes'. -/
def entryBytesCard : Claim7 := { stood := { row := entryBytesRow, standIns := [], harness := (true, "a95821aee729b439400eedf8a60115a32273ed177b9519172d96c7df54e3534a"), looks := false }, kinds := [], alts := [], laidByText := true, laidKinds := [.widerDeep], laidTests := true, laidLooks := .later }
def EntryBytesCardSaid : Prop := Claim7.holds Tryd.pinned (.plain (OpenSpec.ofChange entryBytesSpec)) entryBytesCard

/-- THE TIED CARD OF 'cashbooktop.TopReversed'. -/
def topReversedCard : Claim7 := { stood := { row := topReversedRow, standIns := [], harness := (true, "a95821aee729b439400eedf8a60115a32273ed177b9519172d96c7df54e3534a"), looks := false }, kinds := [], alts := [], laidByText := true, laidKinds := [.widerDeep], laidTests := true, laidLooks := .later }
def TopReversedCardSaid : Prop := Claim7.holds Tryd.pinned (.plain (OpenSpec.ofChange topReversedSpec)) topReversedCard

/-- THE SECOND FORM's CARD OF 'cashbooklaw20.BookTells'. -/
def bookTellsUptoCard : Claim7 := { stood := { row := bookTellsUptoRow, standIns := [], harness := (true, "a95821aee729b439400eedf8a60115a32273ed177b9519172d96c7df54e3534a"), looks := false }, kinds := [], alts := [], laidByText := true, laidKinds := [.widerDeep], laidTests := true, laidLooks := .later }
def BookTellsUptoCardSaid : Prop := Claim7.holds Tryd.pinned (.plain (OpenSpec.upto bookTellsSpec)) bookTellsUptoCard

/-- THE SECOND FORM's CARD OF 'cashbooklaw20.BookSums'. -/
def bookSumsUptoCard : Claim7 := { stood := { row := bookSumsUptoRow, standIns := [], harness := (true, "a95821aee729b439400eedf8a60115a32273ed177b9519172d96c7df54e3534a"), looks := false }, kinds := [], alts := [], laidByText := true, laidKinds := [.widerDeep], laidTests := true, laidLooks := .later }
def BookSumsUptoCardSaid : Prop := Claim7.holds Tryd.pinned (.plain (OpenSpec.upto bookSumsSpec)) bookSumsUptoCard

/-- THE SECOND FORM's CARD OF 'cashbooklaw20.BookStays'. -/
def bookStaysUptoCard : Claim7 := { stood := { row := bookStaysUptoRow, standIns := [], harness := (true, "a95821aee729b439400eedf8a60115a32273ed177b9519172d96c7df54e3534a"), looks := false }, kinds := [], alts := [], laidByText := true, laidKinds := [.widerDeep], laidTests := true, laidLooks := .later }
def BookStaysUptoCardSaid : Prop := Claim7.holds Tryd.pinned (.plain (OpenSpec.upto bookStaysSpec)) bookStaysUptoCard

/-- THE SECOND FORM's CARD OF 'cashbooklaw20.BookTurned'. -/
def bookTurnedUptoCard : Claim7 := { stood := { row := bookTurnedUptoRow, standIns := [], harness := (true, "a95821aee729b439400eedf8a60115a32273ed177b9519172d96c7df54e3534a"), looks := false }, kinds := [], alts := [], laidByText := true, laidKinds := [.widerDeep], laidTests := true, laidLooks := .later }
def BookTurnedUptoCardSaid : Prop := Claim7.holds Tryd.pinned (.plain (OpenSpec.upto bookTurnedSpec)) bookTurnedUptoCard

/-- THE SECOND FORM's CARD OF 'cashbooklaw20.BookZero'. -/
def bookZeroUptoCard : Claim7 := { stood := { row := bookZeroUptoRow, standIns := [], harness := (true, "a95821aee729b439400eedf8a60115a32273ed177b9519172d96c7df54e3534a"), looks := false }, kinds := [], alts := [], laidByText := true, laidKinds := [.widerDeep], laidTests := true, laidLooks := .later }
def BookZeroUptoCardSaid : Prop := Claim7.holds Tryd.pinned (.plain (OpenSpec.upto bookZeroSpec)) bookZeroUptoCard

/-- THE SECOND FORM's CARD OF 'cashbooklaw20.BookBack'. -/
def bookBackUptoCard : Claim7 := { stood := { row := bookBackUptoRow, standIns := [], harness := (true, "a95821aee729b439400eedf8a60115a32273ed177b9519172d96c7df54e3534a"), looks := false }, kinds := [], alts := [], laidByText := true, laidKinds := [.widerDeep], laidTests := true, laidLooks := .later }
def BookBackUptoCardSaid : Prop := Claim7.holds Tryd.pinned (.plain (OpenSpec.upto bookBackSpec)) bookBackUptoCard

/-- THE SECOND FORM's CARD OF 'cashbooklaw19.EntryTells'. -/
def entryTellsUptoCard : Claim7 := { stood := { row := entryTellsUptoRow, standIns := [], harness := (true, "a95821aee729b439400eedf8a60115a32273ed177b9519172d96c7df54e3534a"), looks := false }, kinds := [], alts := [], laidByText := true, laidKinds := [.widerDeep], laidTests := true, laidLooks := .later }
def EntryTellsUptoCardSaid : Prop := Claim7.holds Tryd.pinned (.plain (OpenSpec.upto entryTellsSpec)) entryTellsUptoCard

/-- THE SECOND FORM's CARD OF 'cashbooklaw19.EntryReverses'. -/
def entryReversesUptoCard : Claim7 := { stood := { row := entryReversesUptoRow, standIns := [], harness := (true, "a95821aee729b439400eedf8a60115a32273ed177b9519172d96c7df54e3534a"), looks := false }, kinds := [], alts := [], laidByText := true, laidKinds := [.widerDeep], laidTests := true, laidLooks := .later }
def EntryReversesUptoCardSaid : Prop := Claim7.holds Tryd.pinned (.plain (OpenSpec.upto entryReversesSpec)) entryReversesUptoCard

/-- THE SECOND FORM's CARD OF 'cashbooklaw19.EntryBalances'. -/
def entryBalancesUptoCard : Claim7 := { stood := { row := entryBalancesUptoRow, standIns := [], harness := (true, "a95821aee729b439400eedf8a60115a32273ed177b9519172d96c7df54e3534a"), looks := false }, kinds := [], alts := [], laidByText := true, laidKinds := [.widerDeep], laidTests := true, laidLooks := .later }
def EntryBalancesUptoCardSaid : Prop := Claim7.holds Tryd.pinned (.plain (OpenSpec.upto entryBalancesSpec)) entryBalancesUptoCard

/-- THE SECOND FORM's CARD OF 'cashbooklaw19.EntryBack'. -/
def entryBackUptoCard : Claim7 := { stood := { row := entryBackUptoRow, standIns := [], harness := (true, "a95821aee729b439400eedf8a60115a32273ed177b9519172d96c7df54e3534a"), looks := false }, kinds := [], alts := [], laidByText := true, laidKinds := [.widerDeep], laidTests := true, laidLooks := .later }
def EntryBackUptoCardSaid : Prop := Claim7.holds Tryd.pinned (.plain (OpenSpec.upto entryBackSpec)) entryBackUptoCard

/-- THE SECOND FORM's CARD OF 'cashbooklaw19.EntryBytes'. -/
def entryBytesUptoCard : Claim7 := { stood := { row := entryBytesUptoRow, standIns := [], harness := (true, "a95821aee729b439400eedf8a60115a32273ed177b9519172d96c7df54e3534a"), looks := false }, kinds := [], alts := [], laidByText := true, laidKinds := [.widerDeep], laidTests := true, laidLooks := .later }
def EntryBytesUptoCardSaid : Prop := Claim7.holds Tryd.pinned (.plain (OpenSpec.upto entryBytesSpec)) entryBytesUptoCard

/-- THE SECOND FORM's CARD OF 'cashbooktop.TopReversed'. -/
def topReversedUptoCard : Claim7 := { stood := { row := topReversedUptoRow, standIns := [], harness := (true, "a95821aee729b439400eedf8a60115a32273ed177b9519172d96c7df54e3534a"), looks := false }, kinds := [], alts := [], laidByText := true, laidKinds := [.widerDeep], laidTests := true, laidLooks := .later }
def TopReversedUptoCardSaid : Prop := Claim7.holds Tryd.pinned (.plain (OpenSpec.upto topReversedSpec)) topReversedUptoCard
end Rows
end Go.Proofs.YtdhefhnlagnkdaaDoor
