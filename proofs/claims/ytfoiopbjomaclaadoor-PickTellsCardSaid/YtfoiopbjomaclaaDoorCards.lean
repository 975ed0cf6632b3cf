/-
  DERIVED. GIVEN WITH THE SEED: THE CARDS: each row of YtfoiopbjomaclaaDoorRows.lean that lists a variable, with what it lists TIED to the program's text (the seventh form; the later family's looks); each row that meets fmt, with fmt's text TOLD by the authors' own Lean function (tested against real Go, not proved from fmt's source: count such statements apart). THE CARD IS WHAT COUNTS. Prove the row's statement (the work); the ties are given (YtfoiopbjomaclaaDoorTie.lean); close each card by the builder's one call (the guide's Derived/Test/ToyasCard.lean, 'card_holds'). Laid BY PROGRAM, IN A SANDBOX (cutbox-door.mjs). By AI agents, Wed Nov 11 2026. No macro, syntax, notation, axiom, sorry.
-/
import Derived.Test.YtfoiopbjomaclaaDoorRows
import GoSem.ClaimSeven
namespace Go.Proofs.YtfoiopbjomaclaaDoor
namespace Rows

/-- THE TIED CARD OF 'millwrightlaw16.PickTells'. -/
def pickTellsCard : Claim7 := { stood := { row := pickTellsRow, standIns := [], harness := (true, "9078dbc7a596806cccf5a8ef6313d49a1be105f7fd6db5b5751407ec78a5baed"), looks := false }, kinds := [], alts := [], laidByText := true, laidKinds := [.data], laidTests := true, laidLooks := .later }
def PickTellsCardSaid : Prop := Claim7.holds Tryd.pinned (.plain (OpenSpec.ofChange pickTellsSpec)) pickTellsCard

/-- THE TIED CARD OF 'millwrightlaw16.PickBest'. -/
def pickBestCard : Claim7 := { stood := { row := pickBestRow, standIns := [], harness := (true, "9078dbc7a596806cccf5a8ef6313d49a1be105f7fd6db5b5751407ec78a5baed"), looks := false }, kinds := [], alts := [], laidByText := true, laidKinds := [.data], laidTests := true, laidLooks := .later }
def PickBestCardSaid : Prop := Claim7.holds Tryd.pinned (.plain (OpenSpec.ofChange pickBestSpec)) pickBestCard

/-- THE TIED CARD OF 'millwrightlaw16.PickFits'. -/
def pickFitsCard : Claim7 := { stood := { row := pickFitsRow, standIns := [], harness := (true, "9078dbc7a596806cccf5a8ef6313d49a1be105f7fd6db5b5751407ec78a5baed"), looks := false }, kinds := [], alts := [], laidByText := true, laidKinds := [.data], laidTests := true, laidLooks := .later }
def PickFitsCardSaid : Prop := Claim7.holds Tryd.pinned (.plain (OpenSpec.ofChange pickFitsSpec)) pickFitsCard

/-- THE TIED CARD OF 'millwrightlaw16.PickWants'. -/
def pickWantsCard : Claim7 := { stood := { row := pickWantsRow, standIns := [], harness := (true, "9078dbc7a596806cccf5a8ef6313d49a1be105f7fd6db5b5751407ec78a5baed"), looks := false }, kinds := [], alts := [], laidByText := true, laidKinds := [.data], laidTests := true, laidLooks := .later }
def PickWantsCardSaid : Prop := Claim7.holds Tryd.pinned (.plain (OpenSpec.ofChange pickWantsSpec)) pickWantsCard

/-- THE TIED CARD OF 'millwrightlaw16.PickMoved'. -/
def pickMovedCard : Claim7 := { stood := { row := pickMovedRow, standIns := [], harness := (true, "9078dbc7a596806cccf5a8ef6313d49a1be105f7fd6db5b5751407ec78a5baed"), looks := false }, kinds := [], alts := [], laidByText := true, laidKinds := [.data], laidTests := true, laidLooks := .later }
def PickMovedCardSaid : Prop := Claim7.holds Tryd.pinned (.plain (OpenSpec.ofChange pickMovedSpec)) pickMovedCard

/-- THE SECOND FORM's CARD OF 'millwrightlaw16.PickTells'. -/
def pickTellsUptoCard : Claim7 := { stood := { row := pickTellsUptoRow, standIns := [], harness := (true, "9078dbc7a596806cccf5a8ef6313d49a1be105f7fd6db5b5751407ec78a5baed"), looks := false }, kinds := [], alts := [], laidByText := true, laidKinds := [.data], laidTests := true, laidLooks := .later }
def PickTellsUptoCardSaid : Prop := Claim7.holds Tryd.pinned (.plain (OpenSpec.upto pickTellsSpec)) pickTellsUptoCard

/-- THE SECOND FORM's CARD OF 'millwrightlaw16.PickBest'. -/
def pickBestUptoCard : Claim7 := { stood := { row := pickBestUptoRow, standIns := [], harness := (true, "9078dbc7a596806cccf5a8ef6313d49a1be105f7fd6db5b5751407ec78a5baed"), looks := false }, kinds := [], alts := [], laidByText := true, laidKinds := [.data], laidTests := true, laidLooks := .later }
def PickBestUptoCardSaid : Prop := Claim7.holds Tryd.pinned (.plain (OpenSpec.upto pickBestSpec)) pickBestUptoCard

/-- THE SECOND FORM's CARD OF 'millwrightlaw16.PickFits'. -/
def pickFitsUptoCard : Claim7 := { stood := { row := pickFitsUptoRow, standIns := [], harness := (true, "9078dbc7a596806cccf5a8ef6313d49a1be105f7fd6db5b5751407ec78a5baed"), looks := false }, kinds := [], alts := [], laidByText := true, laidKinds := [.data], laidTests := true, laidLooks := .later }
def PickFitsUptoCardSaid : Prop := Claim7.holds Tryd.pinned (.plain (OpenSpec.upto pickFitsSpec)) pickFitsUptoCard

/-- THE SECOND FORM's CARD OF 'millwrightlaw16.PickWants'. -/
def pickWantsUptoCard : Claim7 := { stood := { row := pickWantsUptoRow, standIns := [], harness := (true, "9078dbc7a596806cccf5a8ef6313d49a1be105f7fd6db5b5751407ec78a5baed"), looks := false }, kinds := [], alts := [], laidByText := true, laidKinds := [.data], laidTests := true, laidLooks := .later }
def PickWantsUptoCardSaid : Prop := Claim7.holds Tryd.pinned (.plain (OpenSpec.upto pickWantsSpec)) pickWantsUptoCard

/-- THE SECOND FORM's CARD OF 'millwrightlaw16.PickMoved'. -/
def pickMovedUptoCard : Claim7 := { stood := { row := pickMovedUptoRow, standIns := [], harness := (true, "9078dbc7a596806cccf5a8ef6313d49a1be105f7fd6db5b5751407ec78a5baed"), looks := false }, kinds := [], alts := [], laidByText := true, laidKinds := [.data], laidTests := true, laidLooks := .later }
def PickMovedUptoCardSaid : Prop := Claim7.holds Tryd.pinned (.plain (OpenSpec.upto pickMovedSpec)) pickMovedUptoCard
end Rows
end Go.Proofs.YtfoiopbjomaclaaDoor
