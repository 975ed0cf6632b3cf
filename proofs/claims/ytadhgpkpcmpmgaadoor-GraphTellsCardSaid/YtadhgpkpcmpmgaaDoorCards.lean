/-
  DERIVED. GIVEN WITH THE SEED: THE CARDS: each row of YtadhgpkpcmpmgaaDoorRows.lean that lists a variable, with what it lists TIED to the program's text (the seventh form; the later family's looks); each row that meets fmt, with fmt's text TOLD by the authors' own Lean function (tested against real Go, not proved from fmt's source: count such statements apart). THE CARD IS WHAT COUNTS. Prove the row's statement (the work); the ties are given (YtadhgpkpcmpmgaaDoorTie.lean); close each card by the builder's one call (the guide's Derived/Test/ToyasCard.lean, 'card_holds'). Laid BY PROGRAM, IN A SANDBOX (cutbox-door.mjs). By AI agents, Wed Nov 11 2026. No macro, syntax, notation, axiom, sorry.
-/
import Derived.Test.YtadhgpkpcmpmgaaDoorRows
import GoSem.ClaimSeven
namespace Go.Proofs.YtadhgpkpcmpmgaaDoor
namespace Rows

/-- THE TIED CARD OF 'millwrightlaw05.GraphApart'. -/
def graphApartCard : Claim7 := { stood := { row := graphApartRow, standIns := [], harness := (true, "4f9622b9fb397a1aa00d5d0f2ce4984f8dad1919f3b53989aa9ca866258001d4"), looks := false }, kinds := [], alts := [], laidByText := true, laidKinds := [.data], laidTests := true, laidLooks := .later }
def GraphApartCardSaid : Prop := Claim7.holds Tryd.pinned (.plain (OpenSpec.ofChange graphApartSpec)) graphApartCard

/-- THE TIED CARD OF 'millwrightlaw05.GraphOnward'. -/
def graphOnwardCard : Claim7 := { stood := { row := graphOnwardRow, standIns := [], harness := (true, "4f9622b9fb397a1aa00d5d0f2ce4984f8dad1919f3b53989aa9ca866258001d4"), looks := false }, kinds := [], alts := [], laidByText := true, laidKinds := [.data], laidTests := true, laidLooks := .later }
def GraphOnwardCardSaid : Prop := Claim7.holds Tryd.pinned (.plain (OpenSpec.ofChange graphOnwardSpec)) graphOnwardCard

/-- THE TIED CARD OF 'millwrightlaw05.GraphReaches'. -/
def graphReachesCard : Claim7 := { stood := { row := graphReachesRow, standIns := [], harness := (true, "4f9622b9fb397a1aa00d5d0f2ce4984f8dad1919f3b53989aa9ca866258001d4"), looks := false }, kinds := [], alts := [], laidByText := true, laidKinds := [.data], laidTests := true, laidLooks := .later }
def GraphReachesCardSaid : Prop := Claim7.holds Tryd.pinned (.plain (OpenSpec.ofChange graphReachesSpec)) graphReachesCard

/-- THE TIED CARD OF 'millwrightlaw05.GraphOwn'. -/
def graphOwnCard : Claim7 := { stood := { row := graphOwnRow, standIns := [], harness := (true, "4f9622b9fb397a1aa00d5d0f2ce4984f8dad1919f3b53989aa9ca866258001d4"), looks := false }, kinds := [], alts := [], laidByText := true, laidKinds := [.data], laidTests := true, laidLooks := .later }
def GraphOwnCardSaid : Prop := Claim7.holds Tryd.pinned (.plain (OpenSpec.ofChange graphOwnSpec)) graphOwnCard

/-- THE TIED CARD OF 'millwrightlaw05.GraphOrder'. -/
def graphOrderCard : Claim7 := { stood := { row := graphOrderRow, standIns := [], harness := (true, "4f9622b9fb397a1aa00d5d0f2ce4984f8dad1919f3b53989aa9ca866258001d4"), looks := false }, kinds := [], alts := [], laidByText := true, laidKinds := [.data], laidTests := true, laidLooks := .later }
def GraphOrderCardSaid : Prop := Claim7.holds Tryd.pinned (.plain (OpenSpec.ofChange graphOrderSpec)) graphOrderCard

/-- THE TIED CARD OF 'millwrightlaw05.GraphTells'. -/
def graphTellsCard : Claim7 := { stood := { row := graphTellsRow, standIns := [], harness := (true, "4f9622b9fb397a1aa00d5d0f2ce4984f8dad1919f3b53989aa9ca866258001d4"), looks := false }, kinds := [], alts := [], laidByText := true, laidKinds := [.data], laidTests := true, laidLooks := .later }
def GraphTellsCardSaid : Prop := Claim7.holds Tryd.pinned (.plain (OpenSpec.ofChange graphTellsSpec)) graphTellsCard

/-- THE TIED CARD OF 'millwrightlaw05.GraphBoth'. -/
def graphBothCard : Claim7 := { stood := { row := graphBothRow, standIns := [], harness := (true, "4f9622b9fb397a1aa00d5d0f2ce4984f8dad1919f3b53989aa9ca866258001d4"), looks := false }, kinds := [], alts := [], laidByText := true, laidKinds := [.data], laidTests := true, laidLooks := .later }
def GraphBothCardSaid : Prop := Claim7.holds Tryd.pinned (.plain (OpenSpec.ofChange graphBothSpec)) graphBothCard

/-- THE SECOND FORM's CARD OF 'millwrightlaw05.GraphApart'. -/
def graphApartUptoCard : Claim7 := { stood := { row := graphApartUptoRow, standIns := [], harness := (true, "4f9622b9fb397a1aa00d5d0f2ce4984f8dad1919f3b53989aa9ca866258001d4"), looks := false }, kinds := [], alts := [], laidByText := true, laidKinds := [.data], laidTests := true, laidLooks := .later }
def GraphApartUptoCardSaid : Prop := Claim7.holds Tryd.pinned (.plain (OpenSpec.upto graphApartSpec)) graphApartUptoCard

/-- THE SECOND FORM's CARD OF 'millwrightlaw05.GraphOnward'. -/
def graphOnwardUptoCard : Claim7 := { stood := { row := graphOnwardUptoRow, standIns := [], harness := (true, "4f9622b9fb397a1aa00d5d0f2ce4984f8dad1919f3b53989aa9ca866258001d4"), looks := false }, kinds := [], alts := [], laidByText := true, laidKinds := [.data], laidTests := true, laidLooks := .later }
def GraphOnwardUptoCardSaid : Prop := Claim7.holds Tryd.pinned (.plain (OpenSpec.upto graphOnwardSpec)) graphOnwardUptoCard

/-- THE SECOND FORM's CARD OF 'millwrightlaw05.GraphReaches'. -/
def graphReachesUptoCard : Claim7 := { stood := { row := graphReachesUptoRow, standIns := [], harness := (true, "4f9622b9fb397a1aa00d5d0f2ce4984f8dad1919f3b53989aa9ca866258001d4"), looks := false }, kinds := [], alts := [], laidByText := true, laidKinds := [.data], laidTests := true, laidLooks := .later }
def GraphReachesUptoCardSaid : Prop := Claim7.holds Tryd.pinned (.plain (OpenSpec.upto graphReachesSpec)) graphReachesUptoCard

/-- THE SECOND FORM's CARD OF 'millwrightlaw05.GraphOwn'. -/
def graphOwnUptoCard : Claim7 := { stood := { row := graphOwnUptoRow, standIns := [], harness := (true, "4f9622b9fb397a1aa00d5d0f2ce4984f8dad1919f3b53989aa9ca866258001d4"), looks := false }, kinds := [], alts := [], laidByText := true, laidKinds := [.data], laidTests := true, laidLooks := .later }
def GraphOwnUptoCardSaid : Prop := Claim7.holds Tryd.pinned (.plain (OpenSpec.upto graphOwnSpec)) graphOwnUptoCard

/-- THE SECOND FORM's CARD OF 'millwrightlaw05.GraphOrder'. -/
def graphOrderUptoCard : Claim7 := { stood := { row := graphOrderUptoRow, standIns := [], harness := (true, "4f9622b9fb397a1aa00d5d0f2ce4984f8dad1919f3b53989aa9ca866258001d4"), looks := false }, kinds := [], alts := [], laidByText := true, laidKinds := [.data], laidTests := true, laidLooks := .later }
def GraphOrderUptoCardSaid : Prop := Claim7.holds Tryd.pinned (.plain (OpenSpec.upto graphOrderSpec)) graphOrderUptoCard

/-- THE SECOND FORM's CARD OF 'millwrightlaw05.GraphTells'. -/
def graphTellsUptoCard : Claim7 := { stood := { row := graphTellsUptoRow, standIns := [], harness := (true, "4f9622b9fb397a1aa00d5d0f2ce4984f8dad1919f3b53989aa9ca866258001d4"), looks := false }, kinds := [], alts := [], laidByText := true, laidKinds := [.data], laidTests := true, laidLooks := .later }
def GraphTellsUptoCardSaid : Prop := Claim7.holds Tryd.pinned (.plain (OpenSpec.upto graphTellsSpec)) graphTellsUptoCard

/-- THE SECOND FORM's CARD OF 'millwrightlaw05.GraphBoth'. -/
def graphBothUptoCard : Claim7 := { stood := { row := graphBothUptoRow, standIns := [], harness := (true, "4f9622b9fb397a1aa00d5d0f2ce4984f8dad1919f3b53989aa9ca866258001d4"), looks := false }, kinds := [], alts := [], laidByText := true, laidKinds := [.data], laidTests := true, laidLooks := .later }
def GraphBothUptoCardSaid : Prop := Claim7.holds Tryd.pinned (.plain (OpenSpec.upto graphBothSpec)) graphBothUptoCard
end Rows
end Go.Proofs.YtadhgpkpcmpmgaaDoor
