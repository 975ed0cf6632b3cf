/-
  DERIVED. GIVEN WITH THE SEED: THE CARDS: each row of YtanfdikglplkaaaGreatDoorRows.lean that lists a variable, with what it lists TIED to the program's text (the seventh form; the later family's looks); each row that meets fmt, with fmt's text TOLD by the authors' own Lean function (tested against real Go, not proved from fmt's source: count such statements apart). THE CARD IS WHAT COUNTS. Prove the row's statement (the work); the ties are given (YtanfdikglplkaaaGreatDoorTie.lean); close each card by the builder's one call (the guide's Derived/Test/ToyasCard.lean, 'card_holds'). Laid BY PROGRAM, IN A SANDBOX (cutbox-door.mjs). By AI agents, Wed Nov 11 2026. No macro, syntax, notation, axiom, sorry.
-/
import Derived.Test.YtanfdikglplkaaaGreatDoorRows
import GoSem.ClaimSeven
namespace Go.Proofs.YtanfdikglplkaaaGreatDoor
namespace Rows

/-- THE TIED CARD OF 'millwrighttop.TopFirst'. -/
def topFirstCard : Claim7 := { stood := { row := topFirstRow, standIns := [], harness := (true, "b60930ef6fe2791acb3cdfdbba2e9d9882e67a239df34ea9e7fc00a45483697d"), looks := true }, kinds := [], alts := [], laidByText := true, laidKinds := [.data, .mapped], laidTests := true, laidLooks := .later }
def TopFirstCardSaid : Prop := Claim7.holds Tryz.pinned (.plain (OpenSpec.ofChange topFirstSpec)) topFirstCard

/-- THE TIED CARD OF 'millwrighttop.TopDone'. -/
def topDoneCard : Claim7 := { stood := { row := topDoneRow, standIns := [], harness := (true, "b60930ef6fe2791acb3cdfdbba2e9d9882e67a239df34ea9e7fc00a45483697d"), looks := true }, kinds := [], alts := [], laidByText := true, laidKinds := [.data, .mapped], laidTests := true, laidLooks := .later }
def TopDoneCardSaid : Prop := Claim7.holds Tryz.pinned (.plain (OpenSpec.ofChange topDoneSpec)) topDoneCard

/-- THE SECOND FORM's CARD OF 'millwrighttop.TopFirst'. -/
def topFirstUptoCard : Claim7 := { stood := { row := topFirstUptoRow, standIns := [], harness := (true, "b60930ef6fe2791acb3cdfdbba2e9d9882e67a239df34ea9e7fc00a45483697d"), looks := true }, kinds := [], alts := [], laidByText := true, laidKinds := [.data, .mapped], laidTests := true, laidLooks := .later }
def TopFirstUptoCardSaid : Prop := Claim7.holds Tryz.pinned (.plain (OpenSpec.upto topFirstSpec)) topFirstUptoCard

/-- THE SECOND FORM's CARD OF 'millwrighttop.TopDone'. -/
def topDoneUptoCard : Claim7 := { stood := { row := topDoneUptoRow, standIns := [], harness := (true, "b60930ef6fe2791acb3cdfdbba2e9d9882e67a239df34ea9e7fc00a45483697d"), looks := true }, kinds := [], alts := [], laidByText := true, laidKinds := [.data, .mapped], laidTests := true, laidLooks := .later }
def TopDoneUptoCardSaid : Prop := Claim7.holds Tryz.pinned (.plain (OpenSpec.upto topDoneSpec)) topDoneUptoCard
end Rows
end Go.Proofs.YtanfdikglplkaaaGreatDoor
