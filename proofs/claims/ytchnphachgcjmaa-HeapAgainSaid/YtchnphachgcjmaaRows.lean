/-
  No cell of these rows narrows 'for every input' (looked for: loops, veiled, ifaces, maps, wideKeys, modest, calm, conditions, laid).
  DERIVED. THE GIVEN ROWS OF THIS SEAT. 8 by the template 'for every input the law returns true; each argument reads behind the call as it read before'; 0 by the template 'total and deterministic' (their statements: YtchnphachgcjmaaTotals.lean).
  GIVEN WITH THE SEED: the statements are not yours to turn. If you find one false, say at which input.
  Laid BY PROGRAM, IN A SANDBOX (cutbox-rows.mjs): the forced cells as the released guide's own fill.sh prints them over the translation 7ac4eb70fda8ad95… (all of the seat's roots in one cut). By AI agents, Wed Nov 11 2026. No macro, syntax, notation, axiom, sorry.
-/
import Derived.Test.YtchnphachgcjmaaChecked
import GoSem.Claim
import GoSem.ClaimJoined
import GoSem.ClaimMapViews
import Derived.JoinedTies
import Derived.KernelRfl
namespace Go.Proofs.Ytchnphachgcjmaa
/- THE CELL 'sum', in the pinned program and in every row, IS THE sha256 OF THE DUMP (.gsa) THAT YtchnphachgcjmaaProg.lean LOADS. Nothing in Lean hashes anything: it is a label: what it is worth is what the hold of that sum in a sandbox is worth. -/
noncomputable def Try.pinned : Pinned := { name := "ytchnphachgcjmaa", sum := "7ac4eb70fda8ad953d1bb117dccbc7143c36a07b063e63ef4a1071afe7c6a556", checked := Try.checked }
namespace Rows
def none {H : Type} : Left H := { results := [], args := [] }

/-- 'millwrightlaw07.HeapSorts': WHATEVER THE INPUT: true; the input reads as it did. -/
def heapSortsSpec : ChangeSpec := { name := "heapSorts", fn := fun _ => fun
  | [d1, d2] => { results := [.lit (.bool true)], args := [d1, d2] }
  | _ => none }
def heapSortsRow : OpenClaim := { program := "ytchnphachgcjmaa", sum := "7ac4eb70fda8ad953d1bb117dccbc7143c36a07b063e63ef4a1071afe7c6a556", func := "millwright/millwrightlaw07.HeapSorts", spec := "heapSorts", unfollowed := true, recurses := true, apart := false }
def HeapSortsSaid : Prop := heapSortsRow.holds Try.pinned (OpenSpec.ofChange heapSortsSpec)

/-- ITS FALSE NEIGHBOUR: 'it returns false'. Refute it at one input. -/
def heapSortsWrong : ChangeSpec := { name := "heapSorts", fn := fun _ => fun
  | [d1, d2] => { results := [.lit (.bool false)], args := [d1, d2] }
  | _ => none }
def HeapSortsWrongFalsely : Prop := heapSortsRow.holds Try.pinned (OpenSpec.ofChange heapSortsWrong)

/-- 'millwrightlaw07.HeapLowers': WHATEVER THE INPUT: true; the input reads as it did. -/
def heapLowersSpec : ChangeSpec := { name := "heapLowers", fn := fun _ => fun
  | [d1, d2, d3] => { results := [.lit (.bool true)], args := [d1, d2, d3] }
  | _ => none }
def heapLowersRow : OpenClaim := { program := "ytchnphachgcjmaa", sum := "7ac4eb70fda8ad953d1bb117dccbc7143c36a07b063e63ef4a1071afe7c6a556", func := "millwright/millwrightlaw07.HeapLowers", spec := "heapLowers", unfollowed := true, recurses := true, apart := false }
def HeapLowersSaid : Prop := heapLowersRow.holds Try.pinned (OpenSpec.ofChange heapLowersSpec)

/-- ITS FALSE NEIGHBOUR: 'it returns false'. Refute it at one input. -/
def heapLowersWrong : ChangeSpec := { name := "heapLowers", fn := fun _ => fun
  | [d1, d2, d3] => { results := [.lit (.bool false)], args := [d1, d2, d3] }
  | _ => none }
def HeapLowersWrongFalsely : Prop := heapLowersRow.holds Try.pinned (OpenSpec.ofChange heapLowersWrong)

/-- 'millwrightlaw07.HeapTakes': WHATEVER THE INPUT: true; the input reads as it did. -/
def heapTakesSpec : ChangeSpec := { name := "heapTakes", fn := fun _ => fun
  | [d1, d2] => { results := [.lit (.bool true)], args := [d1, d2] }
  | _ => none }
def heapTakesRow : OpenClaim := { program := "ytchnphachgcjmaa", sum := "7ac4eb70fda8ad953d1bb117dccbc7143c36a07b063e63ef4a1071afe7c6a556", func := "millwright/millwrightlaw07.HeapTakes", spec := "heapTakes", unfollowed := true, recurses := true, apart := false }
def HeapTakesSaid : Prop := heapTakesRow.holds Try.pinned (OpenSpec.ofChange heapTakesSpec)

/-- ITS FALSE NEIGHBOUR: 'it returns false'. Refute it at one input. -/
def heapTakesWrong : ChangeSpec := { name := "heapTakes", fn := fun _ => fun
  | [d1, d2] => { results := [.lit (.bool false)], args := [d1, d2] }
  | _ => none }
def HeapTakesWrongFalsely : Prop := heapTakesRow.holds Try.pinned (OpenSpec.ofChange heapTakesWrong)

/-- 'millwrightlaw07.HeapAgain': WHATEVER THE INPUT: true; the input reads as it did. -/
def heapAgainSpec : ChangeSpec := { name := "heapAgain", fn := fun _ => fun
  | [d1, d2, d3] => { results := [.lit (.bool true)], args := [d1, d2, d3] }
  | _ => none }
def heapAgainRow : OpenClaim := { program := "ytchnphachgcjmaa", sum := "7ac4eb70fda8ad953d1bb117dccbc7143c36a07b063e63ef4a1071afe7c6a556", func := "millwright/millwrightlaw07.HeapAgain", spec := "heapAgain", unfollowed := true, recurses := true, apart := false }
def HeapAgainSaid : Prop := heapAgainRow.holds Try.pinned (OpenSpec.ofChange heapAgainSpec)

/-- ITS FALSE NEIGHBOUR: 'it returns false'. Refute it at one input. -/
def heapAgainWrong : ChangeSpec := { name := "heapAgain", fn := fun _ => fun
  | [d1, d2, d3] => { results := [.lit (.bool false)], args := [d1, d2, d3] }
  | _ => none }
def HeapAgainWrongFalsely : Prop := heapAgainRow.holds Try.pinned (OpenSpec.ofChange heapAgainWrong)

/-- 'millwrightlaw07.HeapLeast': WHATEVER THE INPUT: true; the input reads as it did. -/
def heapLeastSpec : ChangeSpec := { name := "heapLeast", fn := fun _ => fun
  | [d1, d2] => { results := [.lit (.bool true)], args := [d1, d2] }
  | _ => none }
def heapLeastRow : OpenClaim := { program := "ytchnphachgcjmaa", sum := "7ac4eb70fda8ad953d1bb117dccbc7143c36a07b063e63ef4a1071afe7c6a556", func := "millwright/millwrightlaw07.HeapLeast", spec := "heapLeast", unfollowed := true, recurses := true, apart := false }
def HeapLeastSaid : Prop := heapLeastRow.holds Try.pinned (OpenSpec.ofChange heapLeastSpec)

/-- ITS FALSE NEIGHBOUR: 'it returns false'. Refute it at one input. -/
def heapLeastWrong : ChangeSpec := { name := "heapLeast", fn := fun _ => fun
  | [d1, d2] => { results := [.lit (.bool false)], args := [d1, d2] }
  | _ => none }
def HeapLeastWrongFalsely : Prop := heapLeastRow.holds Try.pinned (OpenSpec.ofChange heapLeastWrong)

/-- 'millwrightlaw07.HeapPlays': WHATEVER THE INPUT: true; the input reads as it did. -/
def heapPlaysSpec : ChangeSpec := { name := "heapPlays", fn := fun _ => fun
  | [d1, d2] => { results := [.lit (.bool true)], args := [d1, d2] }
  | _ => none }
def heapPlaysRow : OpenClaim := { program := "ytchnphachgcjmaa", sum := "7ac4eb70fda8ad953d1bb117dccbc7143c36a07b063e63ef4a1071afe7c6a556", func := "millwright/millwrightlaw07.HeapPlays", spec := "heapPlays", unfollowed := true, recurses := true, apart := false }
def HeapPlaysSaid : Prop := heapPlaysRow.holds Try.pinned (OpenSpec.ofChange heapPlaysSpec)

/-- ITS FALSE NEIGHBOUR: 'it returns false'. Refute it at one input. -/
def heapPlaysWrong : ChangeSpec := { name := "heapPlays", fn := fun _ => fun
  | [d1, d2] => { results := [.lit (.bool false)], args := [d1, d2] }
  | _ => none }
def HeapPlaysWrongFalsely : Prop := heapPlaysRow.holds Try.pinned (OpenSpec.ofChange heapPlaysWrong)

/-- 'millwrightlaw07.HeapFirst': WHATEVER THE INPUT: true; the input reads as it did. -/
def heapFirstSpec : ChangeSpec := { name := "heapFirst", fn := fun _ => fun
  | [d1, d2] => { results := [.lit (.bool true)], args := [d1, d2] }
  | _ => none }
def heapFirstRow : OpenClaim := { program := "ytchnphachgcjmaa", sum := "7ac4eb70fda8ad953d1bb117dccbc7143c36a07b063e63ef4a1071afe7c6a556", func := "millwright/millwrightlaw07.HeapFirst", spec := "heapFirst", unfollowed := true, recurses := true, apart := false }
def HeapFirstSaid : Prop := heapFirstRow.holds Try.pinned (OpenSpec.ofChange heapFirstSpec)

/-- ITS FALSE NEIGHBOUR: 'it returns false'. Refute it at one input. -/
def heapFirstWrong : ChangeSpec := { name := "heapFirst", fn := fun _ => fun
  | [d1, d2] => { results := [.lit (.bool false)], args := [d1, d2] }
  | _ => none }
def HeapFirstWrongFalsely : Prop := heapFirstRow.holds Try.pinned (OpenSpec.ofChange heapFirstWrong)

/-- 'millwrightlaw07.HeapEmpty': WHATEVER THE INPUT: true; the input reads as it did. -/
def heapEmptySpec : ChangeSpec := { name := "heapEmpty", fn := fun _ => fun
  | [d1, d2, d3] => { results := [.lit (.bool true)], args := [d1, d2, d3] }
  | _ => none }
def heapEmptyRow : OpenClaim := { program := "ytchnphachgcjmaa", sum := "7ac4eb70fda8ad953d1bb117dccbc7143c36a07b063e63ef4a1071afe7c6a556", func := "millwright/millwrightlaw07.HeapEmpty", spec := "heapEmpty", unfollowed := true, recurses := true, apart := false }
def HeapEmptySaid : Prop := heapEmptyRow.holds Try.pinned (OpenSpec.ofChange heapEmptySpec)

/-- ITS FALSE NEIGHBOUR: 'it returns false'. Refute it at one input. -/
def heapEmptyWrong : ChangeSpec := { name := "heapEmpty", fn := fun _ => fun
  | [d1, d2, d3] => { results := [.lit (.bool false)], args := [d1, d2, d3] }
  | _ => none }
def HeapEmptyWrongFalsely : Prop := heapEmptyRow.holds Try.pinned (OpenSpec.ofChange heapEmptyWrong)

/- THE SECOND FORM. 'bulk': how many values and letters a reading holds, each counted each time it is reached (what is shared counts as often as it is met; a slice's spare places count too). A statement '..UptoSaid' is the law's where the arguments, and the package variables that the reading takes, are together of bulk at most 1048576: NARROWER than '..Said'. Prove '..Said' where nothing that the law and all that it calls make is longer than what came in: it says more and counts as full. Else prove '..UptoSaid'. A law counts once. -/
mutual
def uptoBulk {H : Type} : DataW H → Nat
  | .lit (.string bytes) => bytes.length + 1
  | .lit _ => 1
  | .nil => 1
  | .ptr d => uptoBulk d + 1
  | .slice elems spare => uptoBulkAll elems + uptoBulkAll spare + 1
  | .agg parts => uptoBulkAll parts + 1
  | .iface _ d => uptoBulk d + 1
  | .map entries => uptoBulkEntries entries + 1
  | .held _ => 1
def uptoBulkAll {H : Type} : List (DataW H) → Nat
  | [] => 0
  | d :: r => uptoBulk d + uptoBulkAll r
def uptoBulkEntries {H : Type} : List (Lit × DataW H) → Nat
  | [] => 0
  | x :: r => uptoBulkEntry x + uptoBulkEntries r
def uptoBulkEntry {H : Type} : Lit × DataW H → Nat
  | (.string bytes, d) => bytes.length + uptoBulk d + 1
  | (_, d) => uptoBulk d + 1
 end
def uptoSmall : (H : Type) → List (DataW H) → Bool := fun _ ds => decide (uptoBulkAll ds ≤ 1048576)
def OpenSpec.upto (s : _root_.Go.ChangeSpec) : _root_.Go.OpenSpec := { _root_.Go.OpenSpec.ofChange s with cond := some uptoSmall }

/-- 'millwrightlaw07.HeapSorts', WHERE WHAT IT READS IS OF BULK AT MOST 1048576: true; the input reads as it did. -/
def heapSortsUptoRow : OpenClaim := { program := "ytchnphachgcjmaa", sum := "7ac4eb70fda8ad953d1bb117dccbc7143c36a07b063e63ef4a1071afe7c6a556", func := "millwright/millwrightlaw07.HeapSorts", spec := "heapSorts", unfollowed := true, recurses := true, apart := false, narrowed := true }
def HeapSortsUptoSaid : Prop := heapSortsUptoRow.holds Try.pinned (OpenSpec.upto heapSortsSpec)

/-- 'millwrightlaw07.HeapLowers', WHERE WHAT IT READS IS OF BULK AT MOST 1048576: true; the input reads as it did. -/
def heapLowersUptoRow : OpenClaim := { program := "ytchnphachgcjmaa", sum := "7ac4eb70fda8ad953d1bb117dccbc7143c36a07b063e63ef4a1071afe7c6a556", func := "millwright/millwrightlaw07.HeapLowers", spec := "heapLowers", unfollowed := true, recurses := true, apart := false, narrowed := true }
def HeapLowersUptoSaid : Prop := heapLowersUptoRow.holds Try.pinned (OpenSpec.upto heapLowersSpec)

/-- 'millwrightlaw07.HeapTakes', WHERE WHAT IT READS IS OF BULK AT MOST 1048576: true; the input reads as it did. -/
def heapTakesUptoRow : OpenClaim := { program := "ytchnphachgcjmaa", sum := "7ac4eb70fda8ad953d1bb117dccbc7143c36a07b063e63ef4a1071afe7c6a556", func := "millwright/millwrightlaw07.HeapTakes", spec := "heapTakes", unfollowed := true, recurses := true, apart := false, narrowed := true }
def HeapTakesUptoSaid : Prop := heapTakesUptoRow.holds Try.pinned (OpenSpec.upto heapTakesSpec)

/-- 'millwrightlaw07.HeapAgain', WHERE WHAT IT READS IS OF BULK AT MOST 1048576: true; the input reads as it did. -/
def heapAgainUptoRow : OpenClaim := { program := "ytchnphachgcjmaa", sum := "7ac4eb70fda8ad953d1bb117dccbc7143c36a07b063e63ef4a1071afe7c6a556", func := "millwright/millwrightlaw07.HeapAgain", spec := "heapAgain", unfollowed := true, recurses := true, apart := false, narrowed := true }
def HeapAgainUptoSaid : Prop := heapAgainUptoRow.holds Try.pinned (OpenSpec.upto heapAgainSpec)

/-- 'millwrightlaw07.HeapLeast', WHERE WHAT IT READS IS OF BULK AT MOST 1048576: true; the input reads as it did. -/
def heapLeastUptoRow : OpenClaim := { program := "ytchnphachgcjmaa", sum := "7ac4eb70fda8ad953d1bb117dccbc7143c36a07b063e63ef4a1071afe7c6a556", func := "millwright/millwrightlaw07.HeapLeast", spec := "heapLeast", unfollowed := true, recurses := true, apart := false, narrowed := true }
def HeapLeastUptoSaid : Prop := heapLeastUptoRow.holds Try.pinned (OpenSpec.upto heapLeastSpec)

/-- 'millwrightlaw07.HeapPlays', WHERE WHAT IT READS IS OF BULK AT MOST 1048576: true; the input reads as it did. -/
def heapPlaysUptoRow : OpenClaim := { program := "ytchnphachgcjmaa", sum := "7ac4eb70fda8ad953d1bb117dccbc7143c36a07b063e63ef4a1071afe7c6a556", func := "millwright/millwrightlaw07.HeapPlays", spec := "heapPlays", unfollowed := true, recurses := true, apart := false, narrowed := true }
def HeapPlaysUptoSaid : Prop := heapPlaysUptoRow.holds Try.pinned (OpenSpec.upto heapPlaysSpec)

/-- 'millwrightlaw07.HeapFirst', WHERE WHAT IT READS IS OF BULK AT MOST 1048576: true; the input reads as it did. -/
def heapFirstUptoRow : OpenClaim := { program := "ytchnphachgcjmaa", sum := "7ac4eb70fda8ad953d1bb117dccbc7143c36a07b063e63ef4a1071afe7c6a556", func := "millwright/millwrightlaw07.HeapFirst", spec := "heapFirst", unfollowed := true, recurses := true, apart := false, narrowed := true }
def HeapFirstUptoSaid : Prop := heapFirstUptoRow.holds Try.pinned (OpenSpec.upto heapFirstSpec)

/-- 'millwrightlaw07.HeapEmpty', WHERE WHAT IT READS IS OF BULK AT MOST 1048576: true; the input reads as it did. -/
def heapEmptyUptoRow : OpenClaim := { program := "ytchnphachgcjmaa", sum := "7ac4eb70fda8ad953d1bb117dccbc7143c36a07b063e63ef4a1071afe7c6a556", func := "millwright/millwrightlaw07.HeapEmpty", spec := "heapEmpty", unfollowed := true, recurses := true, apart := false, narrowed := true }
def HeapEmptyUptoSaid : Prop := heapEmptyUptoRow.holds Try.pinned (OpenSpec.upto heapEmptySpec)

end Rows
end Go.Proofs.Ytchnphachgcjmaa
