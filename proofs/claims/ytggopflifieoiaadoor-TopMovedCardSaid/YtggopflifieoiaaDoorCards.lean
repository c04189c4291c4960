/-
  DERIVED. GIVEN WITH THE SEED: THE CARDS: each row of YtggopflifieoiaaDoorRows.lean that lists a variable, with what it lists TIED to the program's text (the seventh form; the later family's looks); each row that meets fmt, with fmt's text TOLD by the authors' own Lean function (tested against real Go, not proved from fmt's source: count such statements apart). THE CARD IS WHAT COUNTS. Prove the row's statement (the work); the ties are given (YtggopflifieoiaaDoorTie.lean); close each card by the builder's one call (the guide's Derived/Test/ToyasCard.lean, 'card_holds'). Laid BY PROGRAM, IN A SANDBOX (cutbox-door.mjs). By AI agents, Wed Nov 11 2026. No macro, syntax, notation, axiom, sorry.
-/
import Derived.Test.YtggopflifieoiaaDoorRows
import GoSem.ClaimSeven
namespace Go.Proofs.YtggopflifieoiaaDoor
namespace Rows

/-- THE TIED CARD OF 'cashbooktop.TopReversed'. -/
def topReversedCard : Claim7 := { stood := { row := topReversedRow, standIns := [], harness := (true, "5691a4b7b208d38a06487122835da8e2759d5bcc97ea1b27d5e80cf2c7c5a7d9"), looks := false }, kinds := [], alts := [], laidByText := true, laidKinds := [.widerDeep], laidTests := true, laidLooks := .later }
def TopReversedCardSaid : Prop := Claim7.holds Tryd.pinned (.plain (OpenSpec.ofChange topReversedSpec)) topReversedCard

/-- THE TIED CARD OF 'cashbooktop.TopMoved'. -/
def topMovedCard : Claim7 := { stood := { row := topMovedRow, standIns := [], harness := (true, "5691a4b7b208d38a06487122835da8e2759d5bcc97ea1b27d5e80cf2c7c5a7d9"), looks := false }, kinds := [], alts := [], laidByText := true, laidKinds := [.data, .data, .data, .data, .widerDeep, .data], laidTests := true, laidLooks := .later }
def TopMovedCardSaid : Prop := Claim7.holds Tryd.pinned (.plain (OpenSpec.ofChange topMovedSpec)) topMovedCard

/-- THE TIED CARD OF 'cashbooktop.TopCorrected'. -/
def topCorrectedCard : Claim7 := { stood := { row := topCorrectedRow, standIns := [], harness := (true, "5691a4b7b208d38a06487122835da8e2759d5bcc97ea1b27d5e80cf2c7c5a7d9"), looks := false }, kinds := [], alts := [], laidByText := true, laidKinds := [.data, .data, .data, .data, .widerDeep, .data], laidTests := true, laidLooks := .later }
def TopCorrectedCardSaid : Prop := Claim7.holds Tryd.pinned (.plain (OpenSpec.ofChange topCorrectedSpec)) topCorrectedCard

/-- THE TIED CARD OF 'cashbooktop.TopTaken'. -/
def topTakenCard : Claim7 := { stood := { row := topTakenRow, standIns := [], harness := (true, "5691a4b7b208d38a06487122835da8e2759d5bcc97ea1b27d5e80cf2c7c5a7d9"), looks := false }, kinds := [], alts := [], laidByText := true, laidKinds := [.data, .data, .data, .data, .widerDeep, .data], laidTests := true, laidLooks := .later }
def TopTakenCardSaid : Prop := Claim7.holds Tryd.pinned (.plain (OpenSpec.ofChange topTakenSpec)) topTakenCard

/-- THE TIED CARD OF 'cashbooktop.TopShares'. -/
def topSharesCard : Claim7 := { stood := { row := topSharesRow, standIns := [], harness := (true, "5691a4b7b208d38a06487122835da8e2759d5bcc97ea1b27d5e80cf2c7c5a7d9"), looks := false }, kinds := [], alts := [], laidByText := true, laidKinds := [.data, .data, .data, .data, .widerDeep, .data], laidTests := true, laidLooks := .later }
def TopSharesCardSaid : Prop := Claim7.holds Tryd.pinned (.plain (OpenSpec.ofChange topSharesSpec)) topSharesCard

/-- THE SECOND FORM's CARD OF 'cashbooktop.TopReversed'. -/
def topReversedUptoCard : Claim7 := { stood := { row := topReversedUptoRow, standIns := [], harness := (true, "5691a4b7b208d38a06487122835da8e2759d5bcc97ea1b27d5e80cf2c7c5a7d9"), looks := false }, kinds := [], alts := [], laidByText := true, laidKinds := [.widerDeep], laidTests := true, laidLooks := .later }
def TopReversedUptoCardSaid : Prop := Claim7.holds Tryd.pinned (.plain (OpenSpec.upto topReversedSpec)) topReversedUptoCard

/-- THE SECOND FORM's CARD OF 'cashbooktop.TopMoved'. -/
def topMovedUptoCard : Claim7 := { stood := { row := topMovedUptoRow, standIns := [], harness := (true, "5691a4b7b208d38a06487122835da8e2759d5bcc97ea1b27d5e80cf2c7c5a7d9"), looks := false }, kinds := [], alts := [], laidByText := true, laidKinds := [.data, .data, .data, .data, .widerDeep, .data], laidTests := true, laidLooks := .later }
def TopMovedUptoCardSaid : Prop := Claim7.holds Tryd.pinned (.plain (OpenSpec.upto topMovedSpec)) topMovedUptoCard

/-- THE SECOND FORM's CARD OF 'cashbooktop.TopCorrected'. -/
def topCorrectedUptoCard : Claim7 := { stood := { row := topCorrectedUptoRow, standIns := [], harness := (true, "5691a4b7b208d38a06487122835da8e2759d5bcc97ea1b27d5e80cf2c7c5a7d9"), looks := false }, kinds := [], alts := [], laidByText := true, laidKinds := [.data, .data, .data, .data, .widerDeep, .data], laidTests := true, laidLooks := .later }
def TopCorrectedUptoCardSaid : Prop := Claim7.holds Tryd.pinned (.plain (OpenSpec.upto topCorrectedSpec)) topCorrectedUptoCard

/-- THE SECOND FORM's CARD OF 'cashbooktop.TopTaken'. -/
def topTakenUptoCard : Claim7 := { stood := { row := topTakenUptoRow, standIns := [], harness := (true, "5691a4b7b208d38a06487122835da8e2759d5bcc97ea1b27d5e80cf2c7c5a7d9"), looks := false }, kinds := [], alts := [], laidByText := true, laidKinds := [.data, .data, .data, .data, .widerDeep, .data], laidTests := true, laidLooks := .later }
def TopTakenUptoCardSaid : Prop := Claim7.holds Tryd.pinned (.plain (OpenSpec.upto topTakenSpec)) topTakenUptoCard

/-- THE SECOND FORM's CARD OF 'cashbooktop.TopShares'. -/
def topSharesUptoCard : Claim7 := { stood := { row := topSharesUptoRow, standIns := [], harness := (true, "5691a4b7b208d38a06487122835da8e2759d5bcc97ea1b27d5e80cf2c7c5a7d9"), looks := false }, kinds := [], alts := [], laidByText := true, laidKinds := [.data, .data, .data, .data, .widerDeep, .data], laidTests := true, laidLooks := .later }
def TopSharesUptoCardSaid : Prop := Claim7.holds Tryd.pinned (.plain (OpenSpec.upto topSharesSpec)) topSharesUptoCard
end Rows
end Go.Proofs.YtggopflifieoiaaDoor
