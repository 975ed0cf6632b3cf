/-
  No cell of these rows narrows 'for every input' (looked for: loops, veiled, ifaces, maps, wideKeys, modest, calm, conditions, laid).
  DERIVED. THE GIVEN ROWS OF THIS SEAT. 7 by the template 'for every input the law returns true; each argument reads behind the call as it read before'; 0 by the template 'total and deterministic' (their statements: YthhmdcbhgnoemaaTotals.lean).
  GIVEN WITH THE SEED: the statements are not yours to turn. If you find one false, say at which input.
  Laid BY PROGRAM, IN A SANDBOX (cutbox-rows.mjs): the forced cells as the released guide's own fill.sh prints them over the translation 157ec3ace19ad60d… (all of the seat's roots in one cut). By AI agents, Wed Nov 11 2026. No macro, syntax, notation, axiom, sorry.
-/
import Derived.Test.YthhmdcbhgnoemaaChecked
import GoSem.Claim
import GoSem.ClaimJoined
import GoSem.ClaimMapViews
import Derived.JoinedTies
import Derived.KernelRfl
namespace Go.Proofs.Ythhmdcbhgnoemaa
/- THE CELL 'sum', in the pinned program and in every row, IS THE sha256 OF THE DUMP (.gsa) THAT YthhmdcbhgnoemaaProg.lean LOADS. Nothing in Lean hashes anything: it is a label: what it is worth is what the hold of that sum in a sandbox is worth. -/
noncomputable def Try.pinned : Pinned := { name := "ythhmdcbhgnoemaa", sum := "157ec3ace19ad60da350fecec1644b2d773d568004908d2bba7039dae934b678", checked := Try.checked }
namespace Rows
def none {H : Type} : Left H := { results := [], args := [] }

/-- 'millwrightlaw11.AdmitPlays': WHATEVER THE INPUT: true; the input reads as it did. -/
def admitPlaysSpec : ChangeSpec := { name := "admitPlays", fn := fun _ => fun
  | [d1, d2, d3] => { results := [.lit (.bool true)], args := [d1, d2, d3] }
  | _ => none }
def admitPlaysRow : OpenClaim := { program := "ythhmdcbhgnoemaa", sum := "157ec3ace19ad60da350fecec1644b2d773d568004908d2bba7039dae934b678", func := "millwright/millwrightlaw11.AdmitPlays", spec := "admitPlays", apart := false }
def AdmitPlaysSaid : Prop := admitPlaysRow.holds Try.pinned (OpenSpec.ofChange admitPlaysSpec)

/-- ITS FALSE NEIGHBOUR: 'it returns false'. Refute it at one input. -/
def admitPlaysWrong : ChangeSpec := { name := "admitPlays", fn := fun _ => fun
  | [d1, d2, d3] => { results := [.lit (.bool false)], args := [d1, d2, d3] }
  | _ => none }
def AdmitPlaysWrongFalsely : Prop := admitPlaysRow.holds Try.pinned (OpenSpec.ofChange admitPlaysWrong)

/-- 'millwrightlaw11.AdmitTurns': WHATEVER THE INPUT: true; the input reads as it did. -/
def admitTurnsSpec : ChangeSpec := { name := "admitTurns", fn := fun _ => fun
  | [d1, d2, d3] => { results := [.lit (.bool true)], args := [d1, d2, d3] }
  | _ => none }
def admitTurnsRow : OpenClaim := { program := "ythhmdcbhgnoemaa", sum := "157ec3ace19ad60da350fecec1644b2d773d568004908d2bba7039dae934b678", func := "millwright/millwrightlaw11.AdmitTurns", spec := "admitTurns", apart := false }
def AdmitTurnsSaid : Prop := admitTurnsRow.holds Try.pinned (OpenSpec.ofChange admitTurnsSpec)

/-- ITS FALSE NEIGHBOUR: 'it returns false'. Refute it at one input. -/
def admitTurnsWrong : ChangeSpec := { name := "admitTurns", fn := fun _ => fun
  | [d1, d2, d3] => { results := [.lit (.bool false)], args := [d1, d2, d3] }
  | _ => none }
def AdmitTurnsWrongFalsely : Prop := admitTurnsRow.holds Try.pinned (OpenSpec.ofChange admitTurnsWrong)

/-- 'millwrightlaw11.AdmitBounds': WHATEVER THE INPUT: true; the input reads as it did. -/
def admitBoundsSpec : ChangeSpec := { name := "admitBounds", fn := fun _ => fun
  | [d1, d2, d3] => { results := [.lit (.bool true)], args := [d1, d2, d3] }
  | _ => none }
def admitBoundsRow : OpenClaim := { program := "ythhmdcbhgnoemaa", sum := "157ec3ace19ad60da350fecec1644b2d773d568004908d2bba7039dae934b678", func := "millwright/millwrightlaw11.AdmitBounds", spec := "admitBounds", apart := false }
def AdmitBoundsSaid : Prop := admitBoundsRow.holds Try.pinned (OpenSpec.ofChange admitBoundsSpec)

/-- ITS FALSE NEIGHBOUR: 'it returns false'. Refute it at one input. -/
def admitBoundsWrong : ChangeSpec := { name := "admitBounds", fn := fun _ => fun
  | [d1, d2, d3] => { results := [.lit (.bool false)], args := [d1, d2, d3] }
  | _ => none }
def AdmitBoundsWrongFalsely : Prop := admitBoundsRow.holds Try.pinned (OpenSpec.ofChange admitBoundsWrong)

/-- 'millwrightlaw11.AdmitNames': WHATEVER THE INPUT: true; the input reads as it did. -/
def admitNamesSpec : ChangeSpec := { name := "admitNames", fn := fun _ => fun
  | [d1, d2, d3, d4] => { results := [.lit (.bool true)], args := [d1, d2, d3, d4] }
  | _ => none }
def admitNamesRow : OpenClaim := { program := "ythhmdcbhgnoemaa", sum := "157ec3ace19ad60da350fecec1644b2d773d568004908d2bba7039dae934b678", func := "millwright/millwrightlaw11.AdmitNames", spec := "admitNames", apart := false }
def AdmitNamesSaid : Prop := admitNamesRow.holds Try.pinned (OpenSpec.ofChange admitNamesSpec)

/-- ITS FALSE NEIGHBOUR: 'it returns false'. Refute it at one input. -/
def admitNamesWrong : ChangeSpec := { name := "admitNames", fn := fun _ => fun
  | [d1, d2, d3, d4] => { results := [.lit (.bool false)], args := [d1, d2, d3, d4] }
  | _ => none }
def AdmitNamesWrongFalsely : Prop := admitNamesRow.holds Try.pinned (OpenSpec.ofChange admitNamesWrong)

/-- 'millwrightlaw11.AdmitLeaves': WHATEVER THE INPUT: true; the input reads as it did. -/
def admitLeavesSpec : ChangeSpec := { name := "admitLeaves", fn := fun _ => fun
  | [d1, d2] => { results := [.lit (.bool true)], args := [d1, d2] }
  | _ => none }
def admitLeavesRow : OpenClaim := { program := "ythhmdcbhgnoemaa", sum := "157ec3ace19ad60da350fecec1644b2d773d568004908d2bba7039dae934b678", func := "millwright/millwrightlaw11.AdmitLeaves", spec := "admitLeaves", apart := false }
def AdmitLeavesSaid : Prop := admitLeavesRow.holds Try.pinned (OpenSpec.ofChange admitLeavesSpec)

/-- ITS FALSE NEIGHBOUR: 'it returns false'. Refute it at one input. -/
def admitLeavesWrong : ChangeSpec := { name := "admitLeaves", fn := fun _ => fun
  | [d1, d2] => { results := [.lit (.bool false)], args := [d1, d2] }
  | _ => none }
def AdmitLeavesWrongFalsely : Prop := admitLeavesRow.holds Try.pinned (OpenSpec.ofChange admitLeavesWrong)

/-- 'millwrightlaw11.AdmitRoom': WHATEVER THE INPUT: true; the input reads as it did. -/
def admitRoomSpec : ChangeSpec := { name := "admitRoom", fn := fun _ => fun
  | [d1, d2] => { results := [.lit (.bool true)], args := [d1, d2] }
  | _ => none }
def admitRoomRow : OpenClaim := { program := "ythhmdcbhgnoemaa", sum := "157ec3ace19ad60da350fecec1644b2d773d568004908d2bba7039dae934b678", func := "millwright/millwrightlaw11.AdmitRoom", spec := "admitRoom", apart := false }
def AdmitRoomSaid : Prop := admitRoomRow.holds Try.pinned (OpenSpec.ofChange admitRoomSpec)

/-- ITS FALSE NEIGHBOUR: 'it returns false'. Refute it at one input. -/
def admitRoomWrong : ChangeSpec := { name := "admitRoom", fn := fun _ => fun
  | [d1, d2] => { results := [.lit (.bool false)], args := [d1, d2] }
  | _ => none }
def AdmitRoomWrongFalsely : Prop := admitRoomRow.holds Try.pinned (OpenSpec.ofChange admitRoomWrong)

/-- 'millwrightlaw11.AdmitAgain': WHATEVER THE INPUT: true; the input reads as it did. -/
def admitAgainSpec : ChangeSpec := { name := "admitAgain", fn := fun _ => fun
  | [d1, d2, d3] => { results := [.lit (.bool true)], args := [d1, d2, d3] }
  | _ => none }
def admitAgainRow : OpenClaim := { program := "ythhmdcbhgnoemaa", sum := "157ec3ace19ad60da350fecec1644b2d773d568004908d2bba7039dae934b678", func := "millwright/millwrightlaw11.AdmitAgain", spec := "admitAgain", apart := false }
def AdmitAgainSaid : Prop := admitAgainRow.holds Try.pinned (OpenSpec.ofChange admitAgainSpec)

/-- ITS FALSE NEIGHBOUR: 'it returns false'. Refute it at one input. -/
def admitAgainWrong : ChangeSpec := { name := "admitAgain", fn := fun _ => fun
  | [d1, d2, d3] => { results := [.lit (.bool false)], args := [d1, d2, d3] }
  | _ => none }
def AdmitAgainWrongFalsely : Prop := admitAgainRow.holds Try.pinned (OpenSpec.ofChange admitAgainWrong)

/- THE SECOND FORM. 'bulk': how many values and letters a reading holds, each counted each time it is reached (what is shared counts as often as it is met; a slice's spare places count too). A statement '..UptoSaid' is the law's where the arguments, and the package variables that the reading takes, are together of bulk at most 1048576: NARROWER than '..Said'. Prove '..Said' where nothing that the law and all that it calls make is longer than what came in: it says more and counts as full. Else prove '..UptoSaid'. A law counts once. -/
mutual
def uptoBulk {H : Type} : DataW H → Nat
  | .lit (.string bytes) => bytes.length + 1
  | .lit _ => 1
  | .nil => 1
  | .ptr d => uptoBulk d + 1
  | .slice elems spare => uptoBulkAll elems + uptoBulkAll spare + 1
  | .agg parts => uptoBulkAll parts + 1
  | .iface _ d => uptoBulk d + 1
  | .map entries => uptoBulkEntries entries + 1
  | .held _ => 1
def uptoBulkAll {H : Type} : List (DataW H) → Nat
  | [] => 0
  | d :: r => uptoBulk d + uptoBulkAll r
def uptoBulkEntries {H : Type} : List (Lit × DataW H) → Nat
  | [] => 0
  | x :: r => uptoBulkEntry x + uptoBulkEntries r
def uptoBulkEntry {H : Type} : Lit × DataW H → Nat
  | (.string bytes, d) => bytes.length + uptoBulk d + 1
  | (_, d) => uptoBulk d + 1
 end
def uptoSmall : (H : Type) → List (DataW H) → Bool := fun _ ds => decide (uptoBulkAll ds ≤ 1048576)
def OpenSpec.upto (s : _root_.Go.ChangeSpec) : _root_.Go.OpenSpec := { _root_.Go.OpenSpec.ofChange s with cond := some uptoSmall }

/-- 'millwrightlaw11.AdmitPlays', WHERE WHAT IT READS IS OF BULK AT MOST 1048576: true; the input reads as it did. -/
def admitPlaysUptoRow : OpenClaim := { program := "ythhmdcbhgnoemaa", sum := "157ec3ace19ad60da350fecec1644b2d773d568004908d2bba7039dae934b678", func := "millwright/millwrightlaw11.AdmitPlays", spec := "admitPlays", apart := false, narrowed := true }
def AdmitPlaysUptoSaid : Prop := admitPlaysUptoRow.holds Try.pinned (OpenSpec.upto admitPlaysSpec)

/-- 'millwrightlaw11.AdmitTurns', WHERE WHAT IT READS IS OF BULK AT MOST 1048576: true; the input reads as it did. -/
def admitTurnsUptoRow : OpenClaim := { program := "ythhmdcbhgnoemaa", sum := "157ec3ace19ad60da350fecec1644b2d773d568004908d2bba7039dae934b678", func := "millwright/millwrightlaw11.AdmitTurns", spec := "admitTurns", apart := false, narrowed := true }
def AdmitTurnsUptoSaid : Prop := admitTurnsUptoRow.holds Try.pinned (OpenSpec.upto admitTurnsSpec)

/-- 'millwrightlaw11.AdmitBounds', WHERE WHAT IT READS IS OF BULK AT MOST 1048576: true; the input reads as it did. -/
def admitBoundsUptoRow : OpenClaim := { program := "ythhmdcbhgnoemaa", sum := "157ec3ace19ad60da350fecec1644b2d773d568004908d2bba7039dae934b678", func := "millwright/millwrightlaw11.AdmitBounds", spec := "admitBounds", apart := false, narrowed := true }
def AdmitBoundsUptoSaid : Prop := admitBoundsUptoRow.holds Try.pinned (OpenSpec.upto admitBoundsSpec)

/-- 'millwrightlaw11.AdmitNames', WHERE WHAT IT READS IS OF BULK AT MOST 1048576: true; the input reads as it did. -/
def admitNamesUptoRow : OpenClaim := { program := "ythhmdcbhgnoemaa", sum := "157ec3ace19ad60da350fecec1644b2d773d568004908d2bba7039dae934b678", func := "millwright/millwrightlaw11.AdmitNames", spec := "admitNames", apart := false, narrowed := true }
def AdmitNamesUptoSaid : Prop := admitNamesUptoRow.holds Try.pinned (OpenSpec.upto admitNamesSpec)

/-- 'millwrightlaw11.AdmitLeaves', WHERE WHAT IT READS IS OF BULK AT MOST 1048576: true; the input reads as it did. -/
def admitLeavesUptoRow : OpenClaim := { program := "ythhmdcbhgnoemaa", sum := "157ec3ace19ad60da350fecec1644b2d773d568004908d2bba7039dae934b678", func := "millwright/millwrightlaw11.AdmitLeaves", spec := "admitLeaves", apart := false, narrowed := true }
def AdmitLeavesUptoSaid : Prop := admitLeavesUptoRow.holds Try.pinned (OpenSpec.upto admitLeavesSpec)

/-- 'millwrightlaw11.AdmitRoom', WHERE WHAT IT READS IS OF BULK AT MOST 1048576: true; the input reads as it did. -/
def admitRoomUptoRow : OpenClaim := { program := "ythhmdcbhgnoemaa", sum := "157ec3ace19ad60da350fecec1644b2d773d568004908d2bba7039dae934b678", func := "millwright/millwrightlaw11.AdmitRoom", spec := "admitRoom", apart := false, narrowed := true }
def AdmitRoomUptoSaid : Prop := admitRoomUptoRow.holds Try.pinned (OpenSpec.upto admitRoomSpec)

/-- 'millwrightlaw11.AdmitAgain', WHERE WHAT IT READS IS OF BULK AT MOST 1048576: true; the input reads as it did. -/
def admitAgainUptoRow : OpenClaim := { program := "ythhmdcbhgnoemaa", sum := "157ec3ace19ad60da350fecec1644b2d773d568004908d2bba7039dae934b678", func := "millwright/millwrightlaw11.AdmitAgain", spec := "admitAgain", apart := false, narrowed := true }
def AdmitAgainUptoSaid : Prop := admitAgainUptoRow.holds Try.pinned (OpenSpec.upto admitAgainSpec)

end Rows
end Go.Proofs.Ythhmdcbhgnoemaa
