/-
  No cell of these rows narrows 'for every input' (looked for: loops, veiled, ifaces, maps, wideKeys, modest, calm, conditions, laid).
  DERIVED. THE GIVEN ROWS OF THIS SEAT. 7 by the template 'for every input the law returns true; each argument reads behind the call as it read before'; 0 by the template 'total and deterministic' (their statements: YtkhceihokoheaaaTotals.lean).
  GIVEN WITH THE SEED: the statements are not yours to turn. If you find one false, say at which input.
  Laid BY PROGRAM, IN A SANDBOX (cutbox-rows.mjs): the forced cells as the released guide's own fill.sh prints them over the translation e0f39e3947716961… (all of the seat's roots in one cut). By AI agents, Wed Nov 11 2026. No macro, syntax, notation, axiom, sorry.
-/
import Derived.Test.YtkhceihokoheaaaChecked
import GoSem.Claim
import GoSem.ClaimJoined
import GoSem.ClaimMapViews
import Derived.JoinedTies
import Derived.KernelRfl
namespace Go.Proofs.Ytkhceihokoheaaa
/- THE CELL 'sum', in the pinned program and in every row, IS THE sha256 OF THE DUMP (.gsa) THAT YtkhceihokoheaaaProg.lean LOADS. Nothing in Lean hashes anything: it is a label: what it is worth is what the hold of that sum in a sandbox is worth. -/
noncomputable def Try.pinned : Pinned := { name := "ytkhceihokoheaaa", sum := "e0f39e3947716961fe6711b5f749ad3d1a78260d7e76b0614e37f815966c4b77", checked := Try.checked }
namespace Rows
def none {H : Type} : Left H := { results := [], args := [] }

/-- 'millwrightlaw14.TurnsFair': WHATEVER THE INPUT: true; the input reads as it did. -/
def turnsFairSpec : ChangeSpec := { name := "turnsFair", fn := fun _ => fun
  | [d1, d2, d3] => { results := [.lit (.bool true)], args := [d1, d2, d3] }
  | _ => none }
def turnsFairRow : OpenClaim := { program := "ytkhceihokoheaaa", sum := "e0f39e3947716961fe6711b5f749ad3d1a78260d7e76b0614e37f815966c4b77", func := "millwright/millwrightlaw14.TurnsFair", spec := "turnsFair", unfollowed := true, recurses := true, apart := false }
def TurnsFairSaid : Prop := turnsFairRow.holds Try.pinned (OpenSpec.ofChange turnsFairSpec)

/-- ITS FALSE NEIGHBOUR: 'it returns false'. Refute it at one input. -/
def turnsFairWrong : ChangeSpec := { name := "turnsFair", fn := fun _ => fun
  | [d1, d2, d3] => { results := [.lit (.bool false)], args := [d1, d2, d3] }
  | _ => none }
def TurnsFairWrongFalsely : Prop := turnsFairRow.holds Try.pinned (OpenSpec.ofChange turnsFairWrong)

/-- 'millwrightlaw14.TurnsAll': WHATEVER THE INPUT: true; the input reads as it did. -/
def turnsAllSpec : ChangeSpec := { name := "turnsAll", fn := fun _ => fun
  | [d1, d2, d3] => { results := [.lit (.bool true)], args := [d1, d2, d3] }
  | _ => none }
def turnsAllRow : OpenClaim := { program := "ytkhceihokoheaaa", sum := "e0f39e3947716961fe6711b5f749ad3d1a78260d7e76b0614e37f815966c4b77", func := "millwright/millwrightlaw14.TurnsAll", spec := "turnsAll", unfollowed := true, recurses := true, apart := false }
def TurnsAllSaid : Prop := turnsAllRow.holds Try.pinned (OpenSpec.ofChange turnsAllSpec)

/-- ITS FALSE NEIGHBOUR: 'it returns false'. Refute it at one input. -/
def turnsAllWrong : ChangeSpec := { name := "turnsAll", fn := fun _ => fun
  | [d1, d2, d3] => { results := [.lit (.bool false)], args := [d1, d2, d3] }
  | _ => none }
def TurnsAllWrongFalsely : Prop := turnsAllRow.holds Try.pinned (OpenSpec.ofChange turnsAllWrong)

/-- 'millwrightlaw14.TurnsRound': WHATEVER THE INPUT: true; the input reads as it did. -/
def turnsRoundSpec : ChangeSpec := { name := "turnsRound", fn := fun _ => fun
  | [d1, d2, d3] => { results := [.lit (.bool true)], args := [d1, d2, d3] }
  | _ => none }
def turnsRoundRow : OpenClaim := { program := "ytkhceihokoheaaa", sum := "e0f39e3947716961fe6711b5f749ad3d1a78260d7e76b0614e37f815966c4b77", func := "millwright/millwrightlaw14.TurnsRound", spec := "turnsRound", unfollowed := true, recurses := true, apart := false }
def TurnsRoundSaid : Prop := turnsRoundRow.holds Try.pinned (OpenSpec.ofChange turnsRoundSpec)

/-- ITS FALSE NEIGHBOUR: 'it returns false'. Refute it at one input. -/
def turnsRoundWrong : ChangeSpec := { name := "turnsRound", fn := fun _ => fun
  | [d1, d2, d3] => { results := [.lit (.bool false)], args := [d1, d2, d3] }
  | _ => none }
def TurnsRoundWrongFalsely : Prop := turnsRoundRow.holds Try.pinned (OpenSpec.ofChange turnsRoundWrong)

/-- 'millwrightlaw14.TurnsCredit': WHATEVER THE INPUT: true; the input reads as it did. -/
def turnsCreditSpec : ChangeSpec := { name := "turnsCredit", fn := fun _ => fun
  | [d1, d2] => { results := [.lit (.bool true)], args := [d1, d2] }
  | _ => none }
def turnsCreditRow : OpenClaim := { program := "ytkhceihokoheaaa", sum := "e0f39e3947716961fe6711b5f749ad3d1a78260d7e76b0614e37f815966c4b77", func := "millwright/millwrightlaw14.TurnsCredit", spec := "turnsCredit", unfollowed := true, recurses := true, apart := false }
def TurnsCreditSaid : Prop := turnsCreditRow.holds Try.pinned (OpenSpec.ofChange turnsCreditSpec)

/-- ITS FALSE NEIGHBOUR: 'it returns false'. Refute it at one input. -/
def turnsCreditWrong : ChangeSpec := { name := "turnsCredit", fn := fun _ => fun
  | [d1, d2] => { results := [.lit (.bool false)], args := [d1, d2] }
  | _ => none }
def TurnsCreditWrongFalsely : Prop := turnsCreditRow.holds Try.pinned (OpenSpec.ofChange turnsCreditWrong)

/-- 'millwrightlaw14.TurnsAlone': WHATEVER THE INPUT: true; the input reads as it did. -/
def turnsAloneSpec : ChangeSpec := { name := "turnsAlone", fn := fun _ => fun
  | [d1, d2, d3, d4] => { results := [.lit (.bool true)], args := [d1, d2, d3, d4] }
  | _ => none }
def turnsAloneRow : OpenClaim := { program := "ytkhceihokoheaaa", sum := "e0f39e3947716961fe6711b5f749ad3d1a78260d7e76b0614e37f815966c4b77", func := "millwright/millwrightlaw14.TurnsAlone", spec := "turnsAlone", unfollowed := true, recurses := true, apart := false }
def TurnsAloneSaid : Prop := turnsAloneRow.holds Try.pinned (OpenSpec.ofChange turnsAloneSpec)

/-- ITS FALSE NEIGHBOUR: 'it returns false'. Refute it at one input. -/
def turnsAloneWrong : ChangeSpec := { name := "turnsAlone", fn := fun _ => fun
  | [d1, d2, d3, d4] => { results := [.lit (.bool false)], args := [d1, d2, d3, d4] }
  | _ => none }
def TurnsAloneWrongFalsely : Prop := turnsAloneRow.holds Try.pinned (OpenSpec.ofChange turnsAloneWrong)

/-- 'millwrightlaw14.TurnsIdle': WHATEVER THE INPUT: true; the input reads as it did. -/
def turnsIdleSpec : ChangeSpec := { name := "turnsIdle", fn := fun _ => fun
  | [d1, d2, d3] => { results := [.lit (.bool true)], args := [d1, d2, d3] }
  | _ => none }
def turnsIdleRow : OpenClaim := { program := "ytkhceihokoheaaa", sum := "e0f39e3947716961fe6711b5f749ad3d1a78260d7e76b0614e37f815966c4b77", func := "millwright/millwrightlaw14.TurnsIdle", spec := "turnsIdle", unfollowed := true, recurses := true, apart := false }
def TurnsIdleSaid : Prop := turnsIdleRow.holds Try.pinned (OpenSpec.ofChange turnsIdleSpec)

/-- ITS FALSE NEIGHBOUR: 'it returns false'. Refute it at one input. -/
def turnsIdleWrong : ChangeSpec := { name := "turnsIdle", fn := fun _ => fun
  | [d1, d2, d3] => { results := [.lit (.bool false)], args := [d1, d2, d3] }
  | _ => none }
def TurnsIdleWrongFalsely : Prop := turnsIdleRow.holds Try.pinned (OpenSpec.ofChange turnsIdleWrong)

/-- 'millwrightlaw14.TurnsTells': WHATEVER THE INPUT: true; the input reads as it did. -/
def turnsTellsSpec : ChangeSpec := { name := "turnsTells", fn := fun _ => fun
  | [d1, d2] => { results := [.lit (.bool true)], args := [d1, d2] }
  | _ => none }
def turnsTellsRow : OpenClaim := { program := "ytkhceihokoheaaa", sum := "e0f39e3947716961fe6711b5f749ad3d1a78260d7e76b0614e37f815966c4b77", func := "millwright/millwrightlaw14.TurnsTells", spec := "turnsTells", unfollowed := true, recurses := true, apart := false }
def TurnsTellsSaid : Prop := turnsTellsRow.holds Try.pinned (OpenSpec.ofChange turnsTellsSpec)

/-- ITS FALSE NEIGHBOUR: 'it returns false'. Refute it at one input. -/
def turnsTellsWrong : ChangeSpec := { name := "turnsTells", fn := fun _ => fun
  | [d1, d2] => { results := [.lit (.bool false)], args := [d1, d2] }
  | _ => none }
def TurnsTellsWrongFalsely : Prop := turnsTellsRow.holds Try.pinned (OpenSpec.ofChange turnsTellsWrong)

/- THE SECOND FORM. 'bulk': how many values and letters a reading holds, each counted each time it is reached (what is shared counts as often as it is met; a slice's spare places count too). A statement '..UptoSaid' is the law's where the arguments, and the package variables that the reading takes, are together of bulk at most 1048576: NARROWER than '..Said'. Prove '..Said' where nothing that the law and all that it calls make is longer than what came in: it says more and counts as full. Else prove '..UptoSaid'. A law counts once. -/
mutual
def uptoBulk {H : Type} : DataW H → Nat
  | .lit (.string bytes) => bytes.length + 1
  | .lit _ => 1
  | .nil => 1
  | .ptr d => uptoBulk d + 1
  | .slice elems spare => uptoBulkAll elems + uptoBulkAll spare + 1
  | .agg parts => uptoBulkAll parts + 1
  | .iface _ d => uptoBulk d + 1
  | .map entries => uptoBulkEntries entries + 1
  | .held _ => 1
def uptoBulkAll {H : Type} : List (DataW H) → Nat
  | [] => 0
  | d :: r => uptoBulk d + uptoBulkAll r
def uptoBulkEntries {H : Type} : List (Lit × DataW H) → Nat
  | [] => 0
  | x :: r => uptoBulkEntry x + uptoBulkEntries r
def uptoBulkEntry {H : Type} : Lit × DataW H → Nat
  | (.string bytes, d) => bytes.length + uptoBulk d + 1
  | (_, d) => uptoBulk d + 1
 end
def uptoSmall : (H : Type) → List (DataW H) → Bool := fun _ ds => decide (uptoBulkAll ds ≤ 1048576)
def OpenSpec.upto (s : _root_.Go.ChangeSpec) : _root_.Go.OpenSpec := { _root_.Go.OpenSpec.ofChange s with cond := some uptoSmall }

/-- 'millwrightlaw14.TurnsFair', WHERE WHAT IT READS IS OF BULK AT MOST 1048576: true; the input reads as it did. -/
def turnsFairUptoRow : OpenClaim := { program := "ytkhceihokoheaaa", sum := "e0f39e3947716961fe6711b5f749ad3d1a78260d7e76b0614e37f815966c4b77", func := "millwright/millwrightlaw14.TurnsFair", spec := "turnsFair", unfollowed := true, recurses := true, apart := false, narrowed := true }
def TurnsFairUptoSaid : Prop := turnsFairUptoRow.holds Try.pinned (OpenSpec.upto turnsFairSpec)

/-- 'millwrightlaw14.TurnsAll', WHERE WHAT IT READS IS OF BULK AT MOST 1048576: true; the input reads as it did. -/
def turnsAllUptoRow : OpenClaim := { program := "ytkhceihokoheaaa", sum := "e0f39e3947716961fe6711b5f749ad3d1a78260d7e76b0614e37f815966c4b77", func := "millwright/millwrightlaw14.TurnsAll", spec := "turnsAll", unfollowed := true, recurses := true, apart := false, narrowed := true }
def TurnsAllUptoSaid : Prop := turnsAllUptoRow.holds Try.pinned (OpenSpec.upto turnsAllSpec)

/-- 'millwrightlaw14.TurnsRound', WHERE WHAT IT READS IS OF BULK AT MOST 1048576: true; the input reads as it did. -/
def turnsRoundUptoRow : OpenClaim := { program := "ytkhceihokoheaaa", sum := "e0f39e3947716961fe6711b5f749ad3d1a78260d7e76b0614e37f815966c4b77", func := "millwright/millwrightlaw14.TurnsRound", spec := "turnsRound", unfollowed := true, recurses := true, apart := false, narrowed := true }
def TurnsRoundUptoSaid : Prop := turnsRoundUptoRow.holds Try.pinned (OpenSpec.upto turnsRoundSpec)

/-- 'millwrightlaw14.TurnsCredit', WHERE WHAT IT READS IS OF BULK AT MOST 1048576: true; the input reads as it did. -/
def turnsCreditUptoRow : OpenClaim := { program := "ytkhceihokoheaaa", sum := "e0f39e3947716961fe6711b5f749ad3d1a78260d7e76b0614e37f815966c4b77", func := "millwright/millwrightlaw14.TurnsCredit", spec := "turnsCredit", unfollowed := true, recurses := true, apart := false, narrowed := true }
def TurnsCreditUptoSaid : Prop := turnsCreditUptoRow.holds Try.pinned (OpenSpec.upto turnsCreditSpec)

/-- 'millwrightlaw14.TurnsAlone', WHERE WHAT IT READS IS OF BULK AT MOST 1048576: true; the input reads as it did. -/
def turnsAloneUptoRow : OpenClaim := { program := "ytkhceihokoheaaa", sum := "e0f39e3947716961fe6711b5f749ad3d1a78260d7e76b0614e37f815966c4b77", func := "millwright/millwrightlaw14.TurnsAlone", spec := "turnsAlone", unfollowed := true, recurses := true, apart := false, narrowed := true }
def TurnsAloneUptoSaid : Prop := turnsAloneUptoRow.holds Try.pinned (OpenSpec.upto turnsAloneSpec)

/-- 'millwrightlaw14.TurnsIdle', WHERE WHAT IT READS IS OF BULK AT MOST 1048576: true; the input reads as it did. -/
def turnsIdleUptoRow : OpenClaim := { program := "ytkhceihokoheaaa", sum := "e0f39e3947716961fe6711b5f749ad3d1a78260d7e76b0614e37f815966c4b77", func := "millwright/millwrightlaw14.TurnsIdle", spec := "turnsIdle", unfollowed := true, recurses := true, apart := false, narrowed := true }
def TurnsIdleUptoSaid : Prop := turnsIdleUptoRow.holds Try.pinned (OpenSpec.upto turnsIdleSpec)

/-- 'millwrightlaw14.TurnsTells', WHERE WHAT IT READS IS OF BULK AT MOST 1048576: true; the input reads as it did. -/
def turnsTellsUptoRow : OpenClaim := { program := "ytkhceihokoheaaa", sum := "e0f39e3947716961fe6711b5f749ad3d1a78260d7e76b0614e37f815966c4b77", func := "millwright/millwrightlaw14.TurnsTells", spec := "turnsTells", unfollowed := true, recurses := true, apart := false, narrowed := true }
def TurnsTellsUptoSaid : Prop := turnsTellsUptoRow.holds Try.pinned (OpenSpec.upto turnsTellsSpec)

end Rows
end Go.Proofs.Ytkhceihokoheaaa
