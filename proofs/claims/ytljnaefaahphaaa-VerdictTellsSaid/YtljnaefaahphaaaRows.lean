/-
  No cell of these rows narrows 'for every input' (looked for: loops, veiled, ifaces, maps, wideKeys, modest, calm, conditions, laid).
  DERIVED. THE GIVEN ROWS OF THIS SEAT. 6 by the template 'for every input the law returns true; each argument reads behind the call as it read before'; 0 by the template 'total and deterministic' (their statements: YtljnaefaahphaaaTotals.lean).
  GIVEN WITH THE SEED: the statements are not yours to turn. If you find one false, say at which input.
  Laid BY PROGRAM, IN A SANDBOX (cutbox-rows.mjs): the forced cells as the released guide's own fill.sh prints them over the translation bda6bdca884d282a… (all of the seat's roots in one cut). By AI agents, Wed Nov 11 2026. No macro, syntax, notation, axiom, sorry.
-/
import Derived.Test.YtljnaefaahphaaaChecked
import GoSem.Claim
import GoSem.ClaimJoined
import GoSem.ClaimMapViews
import Derived.JoinedTies
import Derived.KernelRfl
namespace Go.Proofs.Ytljnaefaahphaaa
/- THE CELL 'sum', in the pinned program and in every row, IS THE sha256 OF THE DUMP (.gsa) THAT YtljnaefaahphaaaProg.lean LOADS. Nothing in Lean hashes anything: it is a label: what it is worth is what the hold of that sum in a sandbox is worth. -/
noncomputable def Try.pinned : Pinned := { name := "ytljnaefaahphaaa", sum := "bda6bdca884d282aab6c667f126bb23608a4c73bfd54df660da678982826137a", checked := Try.checked }
namespace Rows
def none {H : Type} : Left H := { results := [], args := [] }

/-- 'millwrightlaw17.VerdictTells': WHATEVER THE INPUT: true; the input reads as it did. -/
def verdictTellsSpec : ChangeSpec := { name := "verdictTells", fn := fun _ => fun
  | [d] => { results := [.lit (.bool true)], args := [d] }
  | _ => none }
def verdictTellsRow : OpenClaim := { program := "ytljnaefaahphaaa", sum := "bda6bdca884d282aab6c667f126bb23608a4c73bfd54df660da678982826137a", func := "millwright/millwrightlaw17.VerdictTells", spec := "verdictTells", unfollowed := true, recurses := true, apart := false }
def VerdictTellsSaid : Prop := verdictTellsRow.holds Try.pinned (OpenSpec.ofChange verdictTellsSpec)

/-- ITS FALSE NEIGHBOUR: 'it returns false'. Refute it at one input. -/
def verdictTellsWrong : ChangeSpec := { name := "verdictTells", fn := fun _ => fun
  | [d] => { results := [.lit (.bool false)], args := [d] }
  | _ => none }
def VerdictTellsWrongFalsely : Prop := verdictTellsRow.holds Try.pinned (OpenSpec.ofChange verdictTellsWrong)

/-- 'millwrightlaw17.VerdictFixed': WHATEVER THE INPUT: true; the input reads as it did. -/
def verdictFixedSpec : ChangeSpec := { name := "verdictFixed", fn := fun _ => fun
  | [d1, d2, d3] => { results := [.lit (.bool true)], args := [d1, d2, d3] }
  | _ => none }
def verdictFixedRow : OpenClaim := { program := "ytljnaefaahphaaa", sum := "bda6bdca884d282aab6c667f126bb23608a4c73bfd54df660da678982826137a", func := "millwright/millwrightlaw17.VerdictFixed", spec := "verdictFixed", unfollowed := true, recurses := true, apart := false }
def VerdictFixedSaid : Prop := verdictFixedRow.holds Try.pinned (OpenSpec.ofChange verdictFixedSpec)

/-- ITS FALSE NEIGHBOUR: 'it returns false'. Refute it at one input. -/
def verdictFixedWrong : ChangeSpec := { name := "verdictFixed", fn := fun _ => fun
  | [d1, d2, d3] => { results := [.lit (.bool false)], args := [d1, d2, d3] }
  | _ => none }
def VerdictFixedWrongFalsely : Prop := verdictFixedRow.holds Try.pinned (OpenSpec.ofChange verdictFixedWrong)

/-- 'millwrightlaw17.VerdictAlone': WHATEVER THE INPUT: true; the input reads as it did. -/
def verdictAloneSpec : ChangeSpec := { name := "verdictAlone", fn := fun _ => fun
  | [d1, d2, d3, d4] => { results := [.lit (.bool true)], args := [d1, d2, d3, d4] }
  | _ => none }
def verdictAloneRow : OpenClaim := { program := "ytljnaefaahphaaa", sum := "bda6bdca884d282aab6c667f126bb23608a4c73bfd54df660da678982826137a", func := "millwright/millwrightlaw17.VerdictAlone", spec := "verdictAlone", unfollowed := true, recurses := true, apart := false }
def VerdictAloneSaid : Prop := verdictAloneRow.holds Try.pinned (OpenSpec.ofChange verdictAloneSpec)

/-- ITS FALSE NEIGHBOUR: 'it returns false'. Refute it at one input. -/
def verdictAloneWrong : ChangeSpec := { name := "verdictAlone", fn := fun _ => fun
  | [d1, d2, d3, d4] => { results := [.lit (.bool false)], args := [d1, d2, d3, d4] }
  | _ => none }
def VerdictAloneWrongFalsely : Prop := verdictAloneRow.holds Try.pinned (OpenSpec.ofChange verdictAloneWrong)

/-- 'millwrightlaw17.VerdictRow': WHATEVER THE INPUT: true; the input reads as it did. -/
def verdictRowSpec : ChangeSpec := { name := "verdictRow", fn := fun _ => fun
  | [d] => { results := [.lit (.bool true)], args := [d] }
  | _ => none }
def verdictRowRow : OpenClaim := { program := "ytljnaefaahphaaa", sum := "bda6bdca884d282aab6c667f126bb23608a4c73bfd54df660da678982826137a", func := "millwright/millwrightlaw17.VerdictRow", spec := "verdictRow", unfollowed := true, recurses := true, apart := false }
def VerdictRowSaid : Prop := verdictRowRow.holds Try.pinned (OpenSpec.ofChange verdictRowSpec)

/-- ITS FALSE NEIGHBOUR: 'it returns false'. Refute it at one input. -/
def verdictRowWrong : ChangeSpec := { name := "verdictRow", fn := fun _ => fun
  | [d] => { results := [.lit (.bool false)], args := [d] }
  | _ => none }
def VerdictRowWrongFalsely : Prop := verdictRowRow.holds Try.pinned (OpenSpec.ofChange verdictRowWrong)

/-- 'millwrightlaw17.VerdictTwice': WHATEVER THE INPUT: true; the input reads as it did. -/
def verdictTwiceSpec : ChangeSpec := { name := "verdictTwice", fn := fun _ => fun
  | [d1, d2, d3, d4] => { results := [.lit (.bool true)], args := [d1, d2, d3, d4] }
  | _ => none }
def verdictTwiceRow : OpenClaim := { program := "ytljnaefaahphaaa", sum := "bda6bdca884d282aab6c667f126bb23608a4c73bfd54df660da678982826137a", func := "millwright/millwrightlaw17.VerdictTwice", spec := "verdictTwice", unfollowed := true, recurses := true, apart := false }
def VerdictTwiceSaid : Prop := verdictTwiceRow.holds Try.pinned (OpenSpec.ofChange verdictTwiceSpec)

/-- ITS FALSE NEIGHBOUR: 'it returns false'. Refute it at one input. -/
def verdictTwiceWrong : ChangeSpec := { name := "verdictTwice", fn := fun _ => fun
  | [d1, d2, d3, d4] => { results := [.lit (.bool false)], args := [d1, d2, d3, d4] }
  | _ => none }
def VerdictTwiceWrongFalsely : Prop := verdictTwiceRow.holds Try.pinned (OpenSpec.ofChange verdictTwiceWrong)

/-- 'millwrightlaw17.VerdictAll': WHATEVER THE INPUT: true; the input reads as it did. -/
def verdictAllSpec : ChangeSpec := { name := "verdictAll", fn := fun _ => fun
  | [d1, d2, d3, d4] => { results := [.lit (.bool true)], args := [d1, d2, d3, d4] }
  | _ => none }
def verdictAllRow : OpenClaim := { program := "ytljnaefaahphaaa", sum := "bda6bdca884d282aab6c667f126bb23608a4c73bfd54df660da678982826137a", func := "millwright/millwrightlaw17.VerdictAll", spec := "verdictAll", unfollowed := true, recurses := true, apart := false }
def VerdictAllSaid : Prop := verdictAllRow.holds Try.pinned (OpenSpec.ofChange verdictAllSpec)

/-- ITS FALSE NEIGHBOUR: 'it returns false'. Refute it at one input. -/
def verdictAllWrong : ChangeSpec := { name := "verdictAll", fn := fun _ => fun
  | [d1, d2, d3, d4] => { results := [.lit (.bool false)], args := [d1, d2, d3, d4] }
  | _ => none }
def VerdictAllWrongFalsely : Prop := verdictAllRow.holds Try.pinned (OpenSpec.ofChange verdictAllWrong)

/- THE SECOND FORM. 'bulk': how many values and letters a reading holds, each counted each time it is reached (what is shared counts as often as it is met; a slice's spare places count too). A statement '..UptoSaid' is the law's where the arguments, and the package variables that the reading takes, are together of bulk at most 1048576: NARROWER than '..Said'. Prove '..Said' where nothing that the law and all that it calls make is longer than what came in: it says more and counts as full. Else prove '..UptoSaid'. A law counts once. -/
mutual
def uptoBulk {H : Type} : DataW H → Nat
  | .lit (.string bytes) => bytes.length + 1
  | .lit _ => 1
  | .nil => 1
  | .ptr d => uptoBulk d + 1
  | .slice elems spare => uptoBulkAll elems + uptoBulkAll spare + 1
  | .agg parts => uptoBulkAll parts + 1
  | .iface _ d => uptoBulk d + 1
  | .map entries => uptoBulkEntries entries + 1
  | .held _ => 1
def uptoBulkAll {H : Type} : List (DataW H) → Nat
  | [] => 0
  | d :: r => uptoBulk d + uptoBulkAll r
def uptoBulkEntries {H : Type} : List (Lit × DataW H) → Nat
  | [] => 0
  | x :: r => uptoBulkEntry x + uptoBulkEntries r
def uptoBulkEntry {H : Type} : Lit × DataW H → Nat
  | (.string bytes, d) => bytes.length + uptoBulk d + 1
  | (_, d) => uptoBulk d + 1
 end
def uptoSmall : (H : Type) → List (DataW H) → Bool := fun _ ds => decide (uptoBulkAll ds ≤ 1048576)
def OpenSpec.upto (s : _root_.Go.ChangeSpec) : _root_.Go.OpenSpec := { _root_.Go.OpenSpec.ofChange s with cond := some uptoSmall }

/-- 'millwrightlaw17.VerdictTells', WHERE WHAT IT READS IS OF BULK AT MOST 1048576: true; the input reads as it did. -/
def verdictTellsUptoRow : OpenClaim := { program := "ytljnaefaahphaaa", sum := "bda6bdca884d282aab6c667f126bb23608a4c73bfd54df660da678982826137a", func := "millwright/millwrightlaw17.VerdictTells", spec := "verdictTells", unfollowed := true, recurses := true, apart := false, narrowed := true }
def VerdictTellsUptoSaid : Prop := verdictTellsUptoRow.holds Try.pinned (OpenSpec.upto verdictTellsSpec)

/-- 'millwrightlaw17.VerdictFixed', WHERE WHAT IT READS IS OF BULK AT MOST 1048576: true; the input reads as it did. -/
def verdictFixedUptoRow : OpenClaim := { program := "ytljnaefaahphaaa", sum := "bda6bdca884d282aab6c667f126bb23608a4c73bfd54df660da678982826137a", func := "millwright/millwrightlaw17.VerdictFixed", spec := "verdictFixed", unfollowed := true, recurses := true, apart := false, narrowed := true }
def VerdictFixedUptoSaid : Prop := verdictFixedUptoRow.holds Try.pinned (OpenSpec.upto verdictFixedSpec)

/-- 'millwrightlaw17.VerdictAlone', WHERE WHAT IT READS IS OF BULK AT MOST 1048576: true; the input reads as it did. -/
def verdictAloneUptoRow : OpenClaim := { program := "ytljnaefaahphaaa", sum := "bda6bdca884d282aab6c667f126bb23608a4c73bfd54df660da678982826137a", func := "millwright/millwrightlaw17.VerdictAlone", spec := "verdictAlone", unfollowed := true, recurses := true, apart := false, narrowed := true }
def VerdictAloneUptoSaid : Prop := verdictAloneUptoRow.holds Try.pinned (OpenSpec.upto verdictAloneSpec)

/-- 'millwrightlaw17.VerdictRow', WHERE WHAT IT READS IS OF BULK AT MOST 1048576: true; the input reads as it did. -/
def verdictRowUptoRow : OpenClaim := { program := "ytljnaefaahphaaa", sum := "bda6bdca884d282aab6c667f126bb23608a4c73bfd54df660da678982826137a", func := "millwright/millwrightlaw17.VerdictRow", spec := "verdictRow", unfollowed := true, recurses := true, apart := false, narrowed := true }
def VerdictRowUptoSaid : Prop := verdictRowUptoRow.holds Try.pinned (OpenSpec.upto verdictRowSpec)

/-- 'millwrightlaw17.VerdictTwice', WHERE WHAT IT READS IS OF BULK AT MOST 1048576: true; the input reads as it did. -/
def verdictTwiceUptoRow : OpenClaim := { program := "ytljnaefaahphaaa", sum := "bda6bdca884d282aab6c667f126bb23608a4c73bfd54df660da678982826137a", func := "millwright/millwrightlaw17.VerdictTwice", spec := "verdictTwice", unfollowed := true, recurses := true, apart := false, narrowed := true }
def VerdictTwiceUptoSaid : Prop := verdictTwiceUptoRow.holds Try.pinned (OpenSpec.upto verdictTwiceSpec)

/-- 'millwrightlaw17.VerdictAll', WHERE WHAT IT READS IS OF BULK AT MOST 1048576: true; the input reads as it did. -/
def verdictAllUptoRow : OpenClaim := { program := "ytljnaefaahphaaa", sum := "bda6bdca884d282aab6c667f126bb23608a4c73bfd54df660da678982826137a", func := "millwright/millwrightlaw17.VerdictAll", spec := "verdictAll", unfollowed := true, recurses := true, apart := false, narrowed := true }
def VerdictAllUptoSaid : Prop := verdictAllUptoRow.holds Try.pinned (OpenSpec.upto verdictAllSpec)

end Rows
end Go.Proofs.Ytljnaefaahphaaa
