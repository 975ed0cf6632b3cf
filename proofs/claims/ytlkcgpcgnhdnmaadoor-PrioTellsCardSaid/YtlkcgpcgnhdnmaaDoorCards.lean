/-
  DERIVED. GIVEN WITH THE SEED: THE CARDS: each row of YtlkcgpcgnhdnmaaDoorRows.lean that lists a variable, with what it lists TIED to the program's text (the seventh form; the later family's looks); each row that meets fmt, with fmt's text TOLD by the authors' own Lean function (tested against real Go, not proved from fmt's source: count such statements apart). THE CARD IS WHAT COUNTS. Prove the row's statement (the work); the ties are given (YtlkcgpcgnhdnmaaDoorTie.lean); close each card by the builder's one call (the guide's Derived/Test/ToyasCard.lean, 'card_holds'). Laid BY PROGRAM, IN A SANDBOX (cutbox-door.mjs). By AI agents, Wed Nov 11 2026. No macro, syntax, notation, axiom, sorry.
-/
import Derived.Test.YtlkcgpcgnhdnmaaDoorRows
import GoSem.ClaimSeven
namespace Go.Proofs.YtlkcgpcgnhdnmaaDoor
namespace Rows

/-- THE TIED CARD OF 'millwrightlaw15.PrioTells'. -/
def prioTellsCard : Claim7 := { stood := { row := prioTellsRow, standIns := [], harness := (true, "7f82f02fc4bbcf36cbff35de853a3066ac61600113196f21a5b6c50a08df6124"), looks := false }, kinds := [], alts := [], laidByText := true, laidKinds := [.data], laidTests := true, laidLooks := .later }
def PrioTellsCardSaid : Prop := Claim7.holds Tryd.pinned (.plain (OpenSpec.ofChange prioTellsSpec)) prioTellsCard

/-- THE TIED CARD OF 'millwrightlaw15.PrioOne'. -/
def prioOneCard : Claim7 := { stood := { row := prioOneRow, standIns := [], harness := (true, "7f82f02fc4bbcf36cbff35de853a3066ac61600113196f21a5b6c50a08df6124"), looks := false }, kinds := [], alts := [], laidByText := true, laidKinds := [.data], laidTests := true, laidLooks := .later }
def PrioOneCardSaid : Prop := Claim7.holds Tryd.pinned (.plain (OpenSpec.ofChange prioOneSpec)) prioOneCard

/-- THE TIED CARD OF 'millwrightlaw15.PrioRaised'. -/
def prioRaisedCard : Claim7 := { stood := { row := prioRaisedRow, standIns := [], harness := (true, "7f82f02fc4bbcf36cbff35de853a3066ac61600113196f21a5b6c50a08df6124"), looks := false }, kinds := [], alts := [], laidByText := true, laidKinds := [.data], laidTests := true, laidLooks := .later }
def PrioRaisedCardSaid : Prop := Claim7.holds Tryd.pinned (.plain (OpenSpec.ofChange prioRaisedSpec)) prioRaisedCard

/-- THE TIED CARD OF 'millwrightlaw15.PrioNone'. -/
def prioNoneCard : Claim7 := { stood := { row := prioNoneRow, standIns := [], harness := (true, "7f82f02fc4bbcf36cbff35de853a3066ac61600113196f21a5b6c50a08df6124"), looks := false }, kinds := [], alts := [], laidByText := true, laidKinds := [.data], laidTests := true, laidLooks := .later }
def PrioNoneCardSaid : Prop := Claim7.holds Tryd.pinned (.plain (OpenSpec.ofChange prioNoneSpec)) prioNoneCard

/-- THE TIED CARD OF 'millwrightlaw15.PrioWaits'. -/
def prioWaitsCard : Claim7 := { stood := { row := prioWaitsRow, standIns := [], harness := (true, "7f82f02fc4bbcf36cbff35de853a3066ac61600113196f21a5b6c50a08df6124"), looks := false }, kinds := [], alts := [], laidByText := true, laidKinds := [.data], laidTests := true, laidLooks := .later }
def PrioWaitsCardSaid : Prop := Claim7.holds Tryd.pinned (.plain (OpenSpec.ofChange prioWaitsSpec)) prioWaitsCard

/-- THE SECOND FORM's CARD OF 'millwrightlaw15.PrioTells'. -/
def prioTellsUptoCard : Claim7 := { stood := { row := prioTellsUptoRow, standIns := [], harness := (true, "7f82f02fc4bbcf36cbff35de853a3066ac61600113196f21a5b6c50a08df6124"), looks := false }, kinds := [], alts := [], laidByText := true, laidKinds := [.data], laidTests := true, laidLooks := .later }
def PrioTellsUptoCardSaid : Prop := Claim7.holds Tryd.pinned (.plain (OpenSpec.upto prioTellsSpec)) prioTellsUptoCard

/-- THE SECOND FORM's CARD OF 'millwrightlaw15.PrioOne'. -/
def prioOneUptoCard : Claim7 := { stood := { row := prioOneUptoRow, standIns := [], harness := (true, "7f82f02fc4bbcf36cbff35de853a3066ac61600113196f21a5b6c50a08df6124"), looks := false }, kinds := [], alts := [], laidByText := true, laidKinds := [.data], laidTests := true, laidLooks := .later }
def PrioOneUptoCardSaid : Prop := Claim7.holds Tryd.pinned (.plain (OpenSpec.upto prioOneSpec)) prioOneUptoCard

/-- THE SECOND FORM's CARD OF 'millwrightlaw15.PrioRaised'. -/
def prioRaisedUptoCard : Claim7 := { stood := { row := prioRaisedUptoRow, standIns := [], harness := (true, "7f82f02fc4bbcf36cbff35de853a3066ac61600113196f21a5b6c50a08df6124"), looks := false }, kinds := [], alts := [], laidByText := true, laidKinds := [.data], laidTests := true, laidLooks := .later }
def PrioRaisedUptoCardSaid : Prop := Claim7.holds Tryd.pinned (.plain (OpenSpec.upto prioRaisedSpec)) prioRaisedUptoCard

/-- THE SECOND FORM's CARD OF 'millwrightlaw15.PrioNone'. -/
def prioNoneUptoCard : Claim7 := { stood := { row := prioNoneUptoRow, standIns := [], harness := (true, "7f82f02fc4bbcf36cbff35de853a3066ac61600113196f21a5b6c50a08df6124"), looks := false }, kinds := [], alts := [], laidByText := true, laidKinds := [.data], laidTests := true, laidLooks := .later }
def PrioNoneUptoCardSaid : Prop := Claim7.holds Tryd.pinned (.plain (OpenSpec.upto prioNoneSpec)) prioNoneUptoCard

/-- THE SECOND FORM's CARD OF 'millwrightlaw15.PrioWaits'. -/
def prioWaitsUptoCard : Claim7 := { stood := { row := prioWaitsUptoRow, standIns := [], harness := (true, "7f82f02fc4bbcf36cbff35de853a3066ac61600113196f21a5b6c50a08df6124"), looks := false }, kinds := [], alts := [], laidByText := true, laidKinds := [.data], laidTests := true, laidLooks := .later }
def PrioWaitsUptoCardSaid : Prop := Claim7.holds Tryd.pinned (.plain (OpenSpec.upto prioWaitsSpec)) prioWaitsUptoCard
end Rows
end Go.Proofs.YtlkcgpcgnhdnmaaDoor
