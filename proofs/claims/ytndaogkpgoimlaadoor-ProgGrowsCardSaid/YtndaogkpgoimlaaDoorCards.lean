/-
  DERIVED. GIVEN WITH THE SEED: THE CARDS: each row of YtndaogkpgoimlaaDoorRows.lean that lists a variable, with what it lists TIED to the program's text (the seventh form; the later family's looks); each row that meets fmt, with fmt's text TOLD by the authors' own Lean function (tested against real Go, not proved from fmt's source: count such statements apart). THE CARD IS WHAT COUNTS. Prove the row's statement (the work); the ties are given (YtndaogkpgoimlaaDoorTie.lean); close each card by the builder's one call (the guide's Derived/Test/ToyasCard.lean, 'card_holds'). Laid BY PROGRAM, IN A SANDBOX (cutbox-door.mjs). By AI agents, Wed Nov 11 2026. No macro, syntax, notation, axiom, sorry.
-/
import Derived.Test.YtndaogkpgoimlaaDoorRows
import GoSem.ClaimSeven
namespace Go.Proofs.YtndaogkpgoimlaaDoor
namespace Rows

/-- THE TIED CARD OF 'manteletlaw22.ProgBack'. -/
def progBackCard : Claim7 := { stood := { row := progBackRow, standIns := [], harness := (true, "6c3499f8dcfb7a9d56819d098bff8783b93a2503e2617058b1d6629c0dc3dc6d"), looks := false }, kinds := [], alts := [], laidByText := true, laidKinds := [.data, .data, .data], laidTests := true, laidLooks := .later }
def ProgBackCardSaid : Prop := Claim7.holds Tryd.pinned (.plain (OpenSpec.ofChange progBackSpec)) progBackCard

/-- THE TIED CARD OF 'manteletlaw22.ProgNames'. -/
def progNamesCard : Claim7 := { stood := { row := progNamesRow, standIns := [], harness := (true, "6c3499f8dcfb7a9d56819d098bff8783b93a2503e2617058b1d6629c0dc3dc6d"), looks := false }, kinds := [], alts := [], laidByText := true, laidKinds := [.data, .data, .data], laidTests := true, laidLooks := .later }
def ProgNamesCardSaid : Prop := Claim7.holds Tryd.pinned (.plain (OpenSpec.ofChange progNamesSpec)) progNamesCard

/-- THE TIED CARD OF 'manteletlaw22.ProgTells'. -/
def progTellsCard : Claim7 := { stood := { row := progTellsRow, standIns := [], harness := (true, "6c3499f8dcfb7a9d56819d098bff8783b93a2503e2617058b1d6629c0dc3dc6d"), looks := false }, kinds := [], alts := [], laidByText := true, laidKinds := [.data, .data, .data], laidTests := true, laidLooks := .later }
def ProgTellsCardSaid : Prop := Claim7.holds Tryd.pinned (.plain (OpenSpec.ofChange progTellsSpec)) progTellsCard

/-- THE TIED CARD OF 'manteletlaw22.ProgOrder'. -/
def progOrderCard : Claim7 := { stood := { row := progOrderRow, standIns := [], harness := (true, "6c3499f8dcfb7a9d56819d098bff8783b93a2503e2617058b1d6629c0dc3dc6d"), looks := false }, kinds := [], alts := [], laidByText := true, laidKinds := [.data, .data, .data], laidTests := true, laidLooks := .later }
def ProgOrderCardSaid : Prop := Claim7.holds Tryd.pinned (.plain (OpenSpec.ofChange progOrderSpec)) progOrderCard

/-- THE TIED CARD OF 'manteletlaw22.ProgGrows'. -/
def progGrowsCard : Claim7 := { stood := { row := progGrowsRow, standIns := [], harness := (true, "6c3499f8dcfb7a9d56819d098bff8783b93a2503e2617058b1d6629c0dc3dc6d"), looks := false }, kinds := [], alts := [], laidByText := true, laidKinds := [.data, .data, .data], laidTests := true, laidLooks := .later }
def ProgGrowsCardSaid : Prop := Claim7.holds Tryd.pinned (.plain (OpenSpec.ofChange progGrowsSpec)) progGrowsCard

/-- THE SECOND FORM's CARD OF 'manteletlaw22.ProgBack'. -/
def progBackUptoCard : Claim7 := { stood := { row := progBackUptoRow, standIns := [], harness := (true, "6c3499f8dcfb7a9d56819d098bff8783b93a2503e2617058b1d6629c0dc3dc6d"), looks := false }, kinds := [], alts := [], laidByText := true, laidKinds := [.data, .data, .data], laidTests := true, laidLooks := .later }
def ProgBackUptoCardSaid : Prop := Claim7.holds Tryd.pinned (.plain (OpenSpec.upto progBackSpec)) progBackUptoCard

/-- THE SECOND FORM's CARD OF 'manteletlaw22.ProgNames'. -/
def progNamesUptoCard : Claim7 := { stood := { row := progNamesUptoRow, standIns := [], harness := (true, "6c3499f8dcfb7a9d56819d098bff8783b93a2503e2617058b1d6629c0dc3dc6d"), looks := false }, kinds := [], alts := [], laidByText := true, laidKinds := [.data, .data, .data], laidTests := true, laidLooks := .later }
def ProgNamesUptoCardSaid : Prop := Claim7.holds Tryd.pinned (.plain (OpenSpec.upto progNamesSpec)) progNamesUptoCard

/-- THE SECOND FORM's CARD OF 'manteletlaw22.ProgTells'. -/
def progTellsUptoCard : Claim7 := { stood := { row := progTellsUptoRow, standIns := [], harness := (true, "6c3499f8dcfb7a9d56819d098bff8783b93a2503e2617058b1d6629c0dc3dc6d"), looks := false }, kinds := [], alts := [], laidByText := true, laidKinds := [.data, .data, .data], laidTests := true, laidLooks := .later }
def ProgTellsUptoCardSaid : Prop := Claim7.holds Tryd.pinned (.plain (OpenSpec.upto progTellsSpec)) progTellsUptoCard

/-- THE SECOND FORM's CARD OF 'manteletlaw22.ProgOrder'. -/
def progOrderUptoCard : Claim7 := { stood := { row := progOrderUptoRow, standIns := [], harness := (true, "6c3499f8dcfb7a9d56819d098bff8783b93a2503e2617058b1d6629c0dc3dc6d"), looks := false }, kinds := [], alts := [], laidByText := true, laidKinds := [.data, .data, .data], laidTests := true, laidLooks := .later }
def ProgOrderUptoCardSaid : Prop := Claim7.holds Tryd.pinned (.plain (OpenSpec.upto progOrderSpec)) progOrderUptoCard

/-- THE SECOND FORM's CARD OF 'manteletlaw22.ProgGrows'. -/
def progGrowsUptoCard : Claim7 := { stood := { row := progGrowsUptoRow, standIns := [], harness := (true, "6c3499f8dcfb7a9d56819d098bff8783b93a2503e2617058b1d6629c0dc3dc6d"), looks := false }, kinds := [], alts := [], laidByText := true, laidKinds := [.data, .data, .data], laidTests := true, laidLooks := .later }
def ProgGrowsUptoCardSaid : Prop := Claim7.holds Tryd.pinned (.plain (OpenSpec.upto progGrowsSpec)) progGrowsUptoCard
end Rows
end Go.Proofs.YtndaogkpgoimlaaDoor
