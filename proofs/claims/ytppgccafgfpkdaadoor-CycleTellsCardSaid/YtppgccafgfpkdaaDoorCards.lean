/-
  DERIVED. GIVEN WITH THE SEED: THE CARDS: each row of YtppgccafgfpkdaaDoorRows.lean that lists a variable, with what it lists TIED to the program's text (the seventh form; the later family's looks); each row that meets fmt, with fmt's text TOLD by the authors' own Lean function (tested against real Go, not proved from fmt's source: count such statements apart). THE CARD IS WHAT COUNTS. Prove the row's statement (the work); the ties are given (YtppgccafgfpkdaaDoorTie.lean); close each card by the builder's one call (the guide's Derived/Test/ToyasCard.lean, 'card_holds'). Laid BY PROGRAM, IN A SANDBOX (cutbox-door.mjs). By AI agents, Wed Nov 11 2026. No macro, syntax, notation, axiom, sorry.
-/
import Derived.Test.YtppgccafgfpkdaaDoorRows
import GoSem.ClaimSeven
namespace Go.Proofs.YtppgccafgfpkdaaDoor
namespace Rows

/-- THE TIED CARD OF 'millwrightlaw06.CycleTells'. -/
def cycleTellsCard : Claim7 := { stood := { row := cycleTellsRow, standIns := [], harness := (true, "bb6a34232a547a4698a86866f479230ee0b8130dae33814eae7a5483a6506bf2"), looks := false }, kinds := [], alts := [], laidByText := true, laidKinds := [.data], laidTests := true, laidLooks := .later }
def CycleTellsCardSaid : Prop := Claim7.holds Tryd.pinned (.plain (OpenSpec.ofChange cycleTellsSpec)) cycleTellsCard

/-- THE TIED CARD OF 'millwrightlaw06.CycleOrder'. -/
def cycleOrderCard : Claim7 := { stood := { row := cycleOrderRow, standIns := [], harness := (true, "bb6a34232a547a4698a86866f479230ee0b8130dae33814eae7a5483a6506bf2"), looks := false }, kinds := [], alts := [], laidByText := true, laidKinds := [.data], laidTests := true, laidLooks := .later }
def CycleOrderCardSaid : Prop := Claim7.holds Tryd.pinned (.plain (OpenSpec.ofChange cycleOrderSpec)) cycleOrderCard

/-- THE TIED CARD OF 'millwrightlaw06.CycleDown'. -/
def cycleDownCard : Claim7 := { stood := { row := cycleDownRow, standIns := [], harness := (true, "bb6a34232a547a4698a86866f479230ee0b8130dae33814eae7a5483a6506bf2"), looks := false }, kinds := [], alts := [], laidByText := true, laidKinds := [.data], laidTests := true, laidLooks := .later }
def CycleDownCardSaid : Prop := Claim7.holds Tryd.pinned (.plain (OpenSpec.ofChange cycleDownSpec)) cycleDownCard

/-- THE TIED CARD OF 'millwrightlaw06.CyclePaths'. -/
def cyclePathsCard : Claim7 := { stood := { row := cyclePathsRow, standIns := [], harness := (true, "bb6a34232a547a4698a86866f479230ee0b8130dae33814eae7a5483a6506bf2"), looks := false }, kinds := [], alts := [], laidByText := true, laidKinds := [.data], laidTests := true, laidLooks := .later }
def CyclePathsCardSaid : Prop := Claim7.holds Tryd.pinned (.plain (OpenSpec.ofChange cyclePathsSpec)) cyclePathsCard

/-- THE TIED CARD OF 'millwrightlaw06.CycleClose'. -/
def cycleCloseCard : Claim7 := { stood := { row := cycleCloseRow, standIns := [], harness := (true, "bb6a34232a547a4698a86866f479230ee0b8130dae33814eae7a5483a6506bf2"), looks := false }, kinds := [], alts := [], laidByText := true, laidKinds := [.data], laidTests := true, laidLooks := .later }
def CycleCloseCardSaid : Prop := Claim7.holds Tryd.pinned (.plain (OpenSpec.ofChange cycleCloseSpec)) cycleCloseCard

/-- THE TIED CARD OF 'millwrightlaw06.CycleShort'. -/
def cycleShortCard : Claim7 := { stood := { row := cycleShortRow, standIns := [], harness := (true, "bb6a34232a547a4698a86866f479230ee0b8130dae33814eae7a5483a6506bf2"), looks := false }, kinds := [], alts := [], laidByText := true, laidKinds := [.data], laidTests := true, laidLooks := .later }
def CycleShortCardSaid : Prop := Claim7.holds Tryd.pinned (.plain (OpenSpec.ofChange cycleShortSpec)) cycleShortCard

/-- THE SECOND FORM's CARD OF 'millwrightlaw06.CycleTells'. -/
def cycleTellsUptoCard : Claim7 := { stood := { row := cycleTellsUptoRow, standIns := [], harness := (true, "bb6a34232a547a4698a86866f479230ee0b8130dae33814eae7a5483a6506bf2"), looks := false }, kinds := [], alts := [], laidByText := true, laidKinds := [.data], laidTests := true, laidLooks := .later }
def CycleTellsUptoCardSaid : Prop := Claim7.holds Tryd.pinned (.plain (OpenSpec.upto cycleTellsSpec)) cycleTellsUptoCard

/-- THE SECOND FORM's CARD OF 'millwrightlaw06.CycleOrder'. -/
def cycleOrderUptoCard : Claim7 := { stood := { row := cycleOrderUptoRow, standIns := [], harness := (true, "bb6a34232a547a4698a86866f479230ee0b8130dae33814eae7a5483a6506bf2"), looks := false }, kinds := [], alts := [], laidByText := true, laidKinds := [.data], laidTests := true, laidLooks := .later }
def CycleOrderUptoCardSaid : Prop := Claim7.holds Tryd.pinned (.plain (OpenSpec.upto cycleOrderSpec)) cycleOrderUptoCard

/-- THE SECOND FORM's CARD OF 'millwrightlaw06.CycleDown'. -/
def cycleDownUptoCard : Claim7 := { stood := { row := cycleDownUptoRow, standIns := [], harness := (true, "bb6a34232a547a4698a86866f479230ee0b8130dae33814eae7a5483a6506bf2"), looks := false }, kinds := [], alts := [], laidByText := true, laidKinds := [.data], laidTests := true, laidLooks := .later }
def CycleDownUptoCardSaid : Prop := Claim7.holds Tryd.pinned (.plain (OpenSpec.upto cycleDownSpec)) cycleDownUptoCard

/-- THE SECOND FORM's CARD OF 'millwrightlaw06.CyclePaths'. -/
def cyclePathsUptoCard : Claim7 := { stood := { row := cyclePathsUptoRow, standIns := [], harness := (true, "bb6a34232a547a4698a86866f479230ee0b8130dae33814eae7a5483a6506bf2"), looks := false }, kinds := [], alts := [], laidByText := true, laidKinds := [.data], laidTests := true, laidLooks := .later }
def CyclePathsUptoCardSaid : Prop := Claim7.holds Tryd.pinned (.plain (OpenSpec.upto cyclePathsSpec)) cyclePathsUptoCard

/-- THE SECOND FORM's CARD OF 'millwrightlaw06.CycleClose'. -/
def cycleCloseUptoCard : Claim7 := { stood := { row := cycleCloseUptoRow, standIns := [], harness := (true, "bb6a34232a547a4698a86866f479230ee0b8130dae33814eae7a5483a6506bf2"), looks := false }, kinds := [], alts := [], laidByText := true, laidKinds := [.data], laidTests := true, laidLooks := .later }
def CycleCloseUptoCardSaid : Prop := Claim7.holds Tryd.pinned (.plain (OpenSpec.upto cycleCloseSpec)) cycleCloseUptoCard

/-- THE SECOND FORM's CARD OF 'millwrightlaw06.CycleShort'. -/
def cycleShortUptoCard : Claim7 := { stood := { row := cycleShortUptoRow, standIns := [], harness := (true, "bb6a34232a547a4698a86866f479230ee0b8130dae33814eae7a5483a6506bf2"), looks := false }, kinds := [], alts := [], laidByText := true, laidKinds := [.data], laidTests := true, laidLooks := .later }
def CycleShortUptoCardSaid : Prop := Claim7.holds Tryd.pinned (.plain (OpenSpec.upto cycleShortSpec)) cycleShortUptoCard
end Rows
end Go.Proofs.YtppgccafgfpkdaaDoor
