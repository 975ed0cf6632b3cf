/-
  No cell of these rows narrows 'for every input' (looked for: loops, veiled, ifaces, maps, wideKeys, modest, calm, conditions, laid).
  DERIVED. THE GIVEN ROWS OF THIS SEAT. 7 by the template 'for every input the law returns true; each argument reads behind the call as it read before'; 0 by the template 'total and deterministic' (their statements: YtombnfgkgcjihaaTotals.lean).
  GIVEN WITH THE SEED: the statements are not yours to turn. If you find one false, say at which input.
  Laid BY PROGRAM, IN A SANDBOX (cutbox-rows.mjs): the forced cells as the released guide's own fill.sh prints them over the translation 80bb13ace145e513… (all of the seat's roots in one cut). By AI agents, Wed Nov 11 2026. No macro, syntax, notation, axiom, sorry.
-/
import Derived.Test.YtombnfgkgcjihaaChecked
import GoSem.Claim
import GoSem.ClaimJoined
import GoSem.ClaimMapViews
import Derived.JoinedTies
import Derived.KernelRfl
namespace Go.Proofs.Ytombnfgkgcjihaa
/- THE CELL 'sum', in the pinned program and in every row, IS THE sha256 OF THE DUMP (.gsa) THAT YtombnfgkgcjihaaProg.lean LOADS. Nothing in Lean hashes anything: it is a label: what it is worth is what the hold of that sum in a sandbox is worth. -/
noncomputable def Try.pinned : Pinned := { name := "ytombnfgkgcjihaa", sum := "80bb13ace145e513ce1924015b6ff07f414005cdd78d32c0a1727c6837d69f89", checked := Try.checked }
namespace Rows
def none {H : Type} : Left H := { results := [], args := [] }

/-- 'millwrightlaw08.TimerOnce': WHATEVER THE INPUT: true; the input reads as it did. -/
def timerOnceSpec : ChangeSpec := { name := "timerOnce", fn := fun _ => fun
  | [d1, d2, d3] => { results := [.lit (.bool true)], args := [d1, d2, d3] }
  | _ => none }
def timerOnceRow : OpenClaim := { program := "ytombnfgkgcjihaa", sum := "80bb13ace145e513ce1924015b6ff07f414005cdd78d32c0a1727c6837d69f89", func := "millwright/millwrightlaw08.TimerOnce", spec := "timerOnce", unfollowed := true, recurses := true, apart := false }
def TimerOnceSaid : Prop := timerOnceRow.holds Try.pinned (OpenSpec.ofChange timerOnceSpec)

/-- ITS FALSE NEIGHBOUR: 'it returns false'. Refute it at one input. -/
def timerOnceWrong : ChangeSpec := { name := "timerOnce", fn := fun _ => fun
  | [d1, d2, d3] => { results := [.lit (.bool false)], args := [d1, d2, d3] }
  | _ => none }
def TimerOnceWrongFalsely : Prop := timerOnceRow.holds Try.pinned (OpenSpec.ofChange timerOnceWrong)

/-- 'millwrightlaw08.TimerNext': WHATEVER THE INPUT: true; the input reads as it did. -/
def timerNextSpec : ChangeSpec := { name := "timerNext", fn := fun _ => fun
  | [d1, d2] => { results := [.lit (.bool true)], args := [d1, d2] }
  | _ => none }
def timerNextRow : OpenClaim := { program := "ytombnfgkgcjihaa", sum := "80bb13ace145e513ce1924015b6ff07f414005cdd78d32c0a1727c6837d69f89", func := "millwright/millwrightlaw08.TimerNext", spec := "timerNext", unfollowed := true, recurses := true, apart := false }
def TimerNextSaid : Prop := timerNextRow.holds Try.pinned (OpenSpec.ofChange timerNextSpec)

/-- ITS FALSE NEIGHBOUR: 'it returns false'. Refute it at one input. -/
def timerNextWrong : ChangeSpec := { name := "timerNext", fn := fun _ => fun
  | [d1, d2] => { results := [.lit (.bool false)], args := [d1, d2] }
  | _ => none }
def TimerNextWrongFalsely : Prop := timerNextRow.holds Try.pinned (OpenSpec.ofChange timerNextWrong)

/-- 'millwrightlaw08.TimerPortions': WHATEVER THE INPUT: true; the input reads as it did. -/
def timerPortionsSpec : ChangeSpec := { name := "timerPortions", fn := fun _ => fun
  | [d1, d2, d3] => { results := [.lit (.bool true)], args := [d1, d2, d3] }
  | _ => none }
def timerPortionsRow : OpenClaim := { program := "ytombnfgkgcjihaa", sum := "80bb13ace145e513ce1924015b6ff07f414005cdd78d32c0a1727c6837d69f89", func := "millwright/millwrightlaw08.TimerPortions", spec := "timerPortions", unfollowed := true, recurses := true, apart := false }
def TimerPortionsSaid : Prop := timerPortionsRow.holds Try.pinned (OpenSpec.ofChange timerPortionsSpec)

/-- ITS FALSE NEIGHBOUR: 'it returns false'. Refute it at one input. -/
def timerPortionsWrong : ChangeSpec := { name := "timerPortions", fn := fun _ => fun
  | [d1, d2, d3] => { results := [.lit (.bool false)], args := [d1, d2, d3] }
  | _ => none }
def TimerPortionsWrongFalsely : Prop := timerPortionsRow.holds Try.pinned (OpenSpec.ofChange timerPortionsWrong)

/-- 'millwrightlaw08.TimerStops': WHATEVER THE INPUT: true; the input reads as it did. -/
def timerStopsSpec : ChangeSpec := { name := "timerStops", fn := fun _ => fun
  | [d1, d2] => { results := [.lit (.bool true)], args := [d1, d2] }
  | _ => none }
def timerStopsRow : OpenClaim := { program := "ytombnfgkgcjihaa", sum := "80bb13ace145e513ce1924015b6ff07f414005cdd78d32c0a1727c6837d69f89", func := "millwright/millwrightlaw08.TimerStops", spec := "timerStops", unfollowed := true, recurses := true, apart := false }
def TimerStopsSaid : Prop := timerStopsRow.holds Try.pinned (OpenSpec.ofChange timerStopsSpec)

/-- ITS FALSE NEIGHBOUR: 'it returns false'. Refute it at one input. -/
def timerStopsWrong : ChangeSpec := { name := "timerStops", fn := fun _ => fun
  | [d1, d2] => { results := [.lit (.bool false)], args := [d1, d2] }
  | _ => none }
def TimerStopsWrongFalsely : Prop := timerStopsRow.holds Try.pinned (OpenSpec.ofChange timerStopsWrong)

/-- 'millwrightlaw08.TimerAgain': WHATEVER THE INPUT: true; the input reads as it did. -/
def timerAgainSpec : ChangeSpec := { name := "timerAgain", fn := fun _ => fun
  | [d1, d2] => { results := [.lit (.bool true)], args := [d1, d2] }
  | _ => none }
def timerAgainRow : OpenClaim := { program := "ytombnfgkgcjihaa", sum := "80bb13ace145e513ce1924015b6ff07f414005cdd78d32c0a1727c6837d69f89", func := "millwright/millwrightlaw08.TimerAgain", spec := "timerAgain", unfollowed := true, recurses := true, apart := false }
def TimerAgainSaid : Prop := timerAgainRow.holds Try.pinned (OpenSpec.ofChange timerAgainSpec)

/-- ITS FALSE NEIGHBOUR: 'it returns false'. Refute it at one input. -/
def timerAgainWrong : ChangeSpec := { name := "timerAgain", fn := fun _ => fun
  | [d1, d2] => { results := [.lit (.bool false)], args := [d1, d2] }
  | _ => none }
def TimerAgainWrongFalsely : Prop := timerAgainRow.holds Try.pinned (OpenSpec.ofChange timerAgainWrong)

/-- 'millwrightlaw08.TimerPlays': WHATEVER THE INPUT: true; the input reads as it did. -/
def timerPlaysSpec : ChangeSpec := { name := "timerPlays", fn := fun _ => fun
  | [d1, d2] => { results := [.lit (.bool true)], args := [d1, d2] }
  | _ => none }
def timerPlaysRow : OpenClaim := { program := "ytombnfgkgcjihaa", sum := "80bb13ace145e513ce1924015b6ff07f414005cdd78d32c0a1727c6837d69f89", func := "millwright/millwrightlaw08.TimerPlays", spec := "timerPlays", unfollowed := true, recurses := true, apart := false }
def TimerPlaysSaid : Prop := timerPlaysRow.holds Try.pinned (OpenSpec.ofChange timerPlaysSpec)

/-- ITS FALSE NEIGHBOUR: 'it returns false'. Refute it at one input. -/
def timerPlaysWrong : ChangeSpec := { name := "timerPlays", fn := fun _ => fun
  | [d1, d2] => { results := [.lit (.bool false)], args := [d1, d2] }
  | _ => none }
def TimerPlaysWrongFalsely : Prop := timerPlaysRow.holds Try.pinned (OpenSpec.ofChange timerPlaysWrong)

/-- 'millwrightlaw08.TimerAnew': WHATEVER THE INPUT: true; the input reads as it did. -/
def timerAnewSpec : ChangeSpec := { name := "timerAnew", fn := fun _ => fun
  | [d1, d2] => { results := [.lit (.bool true)], args := [d1, d2] }
  | _ => none }
def timerAnewRow : OpenClaim := { program := "ytombnfgkgcjihaa", sum := "80bb13ace145e513ce1924015b6ff07f414005cdd78d32c0a1727c6837d69f89", func := "millwright/millwrightlaw08.TimerAnew", spec := "timerAnew", unfollowed := true, recurses := true, apart := false }
def TimerAnewSaid : Prop := timerAnewRow.holds Try.pinned (OpenSpec.ofChange timerAnewSpec)

/-- ITS FALSE NEIGHBOUR: 'it returns false'. Refute it at one input. -/
def timerAnewWrong : ChangeSpec := { name := "timerAnew", fn := fun _ => fun
  | [d1, d2] => { results := [.lit (.bool false)], args := [d1, d2] }
  | _ => none }
def TimerAnewWrongFalsely : Prop := timerAnewRow.holds Try.pinned (OpenSpec.ofChange timerAnewWrong)

/- THE SECOND FORM. 'bulk': how many values and letters a reading holds, each counted each time it is reached (what is shared counts as often as it is met; a slice's spare places count too). A statement '..UptoSaid' is the law's where the arguments, and the package variables that the reading takes, are together of bulk at most 1048576: NARROWER than '..Said'. Prove '..Said' where nothing that the law and all that it calls make is longer than what came in: it says more and counts as full. Else prove '..UptoSaid'. A law counts once. -/
mutual
def uptoBulk {H : Type} : DataW H → Nat
  | .lit (.string bytes) => bytes.length + 1
  | .lit _ => 1
  | .nil => 1
  | .ptr d => uptoBulk d + 1
  | .slice elems spare => uptoBulkAll elems + uptoBulkAll spare + 1
  | .agg parts => uptoBulkAll parts + 1
  | .iface _ d => uptoBulk d + 1
  | .map entries => uptoBulkEntries entries + 1
  | .held _ => 1
def uptoBulkAll {H : Type} : List (DataW H) → Nat
  | [] => 0
  | d :: r => uptoBulk d + uptoBulkAll r
def uptoBulkEntries {H : Type} : List (Lit × DataW H) → Nat
  | [] => 0
  | x :: r => uptoBulkEntry x + uptoBulkEntries r
def uptoBulkEntry {H : Type} : Lit × DataW H → Nat
  | (.string bytes, d) => bytes.length + uptoBulk d + 1
  | (_, d) => uptoBulk d + 1
 end
def uptoSmall : (H : Type) → List (DataW H) → Bool := fun _ ds => decide (uptoBulkAll ds ≤ 1048576)
def OpenSpec.upto (s : _root_.Go.ChangeSpec) : _root_.Go.OpenSpec := { _root_.Go.OpenSpec.ofChange s with cond := some uptoSmall }

/-- 'millwrightlaw08.TimerOnce', WHERE WHAT IT READS IS OF BULK AT MOST 1048576: true; the input reads as it did. -/
def timerOnceUptoRow : OpenClaim := { program := "ytombnfgkgcjihaa", sum := "80bb13ace145e513ce1924015b6ff07f414005cdd78d32c0a1727c6837d69f89", func := "millwright/millwrightlaw08.TimerOnce", spec := "timerOnce", unfollowed := true, recurses := true, apart := false, narrowed := true }
def TimerOnceUptoSaid : Prop := timerOnceUptoRow.holds Try.pinned (OpenSpec.upto timerOnceSpec)

/-- 'millwrightlaw08.TimerNext', WHERE WHAT IT READS IS OF BULK AT MOST 1048576: true; the input reads as it did. -/
def timerNextUptoRow : OpenClaim := { program := "ytombnfgkgcjihaa", sum := "80bb13ace145e513ce1924015b6ff07f414005cdd78d32c0a1727c6837d69f89", func := "millwright/millwrightlaw08.TimerNext", spec := "timerNext", unfollowed := true, recurses := true, apart := false, narrowed := true }
def TimerNextUptoSaid : Prop := timerNextUptoRow.holds Try.pinned (OpenSpec.upto timerNextSpec)

/-- 'millwrightlaw08.TimerPortions', WHERE WHAT IT READS IS OF BULK AT MOST 1048576: true; the input reads as it did. -/
def timerPortionsUptoRow : OpenClaim := { program := "ytombnfgkgcjihaa", sum := "80bb13ace145e513ce1924015b6ff07f414005cdd78d32c0a1727c6837d69f89", func := "millwright/millwrightlaw08.TimerPortions", spec := "timerPortions", unfollowed := true, recurses := true, apart := false, narrowed := true }
def TimerPortionsUptoSaid : Prop := timerPortionsUptoRow.holds Try.pinned (OpenSpec.upto timerPortionsSpec)

/-- 'millwrightlaw08.TimerStops', WHERE WHAT IT READS IS OF BULK AT MOST 1048576: true; the input reads as it did. -/
def timerStopsUptoRow : OpenClaim := { program := "ytombnfgkgcjihaa", sum := "80bb13ace145e513ce1924015b6ff07f414005cdd78d32c0a1727c6837d69f89", func := "millwright/millwrightlaw08.TimerStops", spec := "timerStops", unfollowed := true, recurses := true, apart := false, narrowed := true }
def TimerStopsUptoSaid : Prop := timerStopsUptoRow.holds Try.pinned (OpenSpec.upto timerStopsSpec)

/-- 'millwrightlaw08.TimerAgain', WHERE WHAT IT READS IS OF BULK AT MOST 1048576: true; the input reads as it did. -/
def timerAgainUptoRow : OpenClaim := { program := "ytombnfgkgcjihaa", sum := "80bb13ace145e513ce1924015b6ff07f414005cdd78d32c0a1727c6837d69f89", func := "millwright/millwrightlaw08.TimerAgain", spec := "timerAgain", unfollowed := true, recurses := true, apart := false, narrowed := true }
def TimerAgainUptoSaid : Prop := timerAgainUptoRow.holds Try.pinned (OpenSpec.upto timerAgainSpec)

/-- 'millwrightlaw08.TimerPlays', WHERE WHAT IT READS IS OF BULK AT MOST 1048576: true; the input reads as it did. -/
def timerPlaysUptoRow : OpenClaim := { program := "ytombnfgkgcjihaa", sum := "80bb13ace145e513ce1924015b6ff07f414005cdd78d32c0a1727c6837d69f89", func := "millwright/millwrightlaw08.TimerPlays", spec := "timerPlays", unfollowed := true, recurses := true, apart := false, narrowed := true }
def TimerPlaysUptoSaid : Prop := timerPlaysUptoRow.holds Try.pinned (OpenSpec.upto timerPlaysSpec)

/-- 'millwrightlaw08.TimerAnew', WHERE WHAT IT READS IS OF BULK AT MOST 1048576: true; the input reads as it did. -/
def timerAnewUptoRow : OpenClaim := { program := "ytombnfgkgcjihaa", sum := "80bb13ace145e513ce1924015b6ff07f414005cdd78d32c0a1727c6837d69f89", func := "millwright/millwrightlaw08.TimerAnew", spec := "timerAnew", unfollowed := true, recurses := true, apart := false, narrowed := true }
def TimerAnewUptoSaid : Prop := timerAnewUptoRow.holds Try.pinned (OpenSpec.upto timerAnewSpec)

end Rows
end Go.Proofs.Ytombnfgkgcjihaa
