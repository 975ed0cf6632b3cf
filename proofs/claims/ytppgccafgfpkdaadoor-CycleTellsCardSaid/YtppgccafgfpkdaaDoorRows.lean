/-
  NARROWER THAN 'FOR EVERY INPUT', by the rows' own cells (each row's printed sentence says how): CycleTells: laid · CycleOrder: laid · CycleDown: laid · CyclePaths: laid · CycleClose: laid · CycleShort: laid.
  DERIVED. THE GIVEN ROWS OF THIS SEAT. 6 by the template 'for every input the law returns true; each argument reads behind the call as it read before'; 0 by the template 'total and deterministic' (their statements: YtppgccafgfpkdaaDoorTotals.lean).
  GIVEN WITH THE SEED: the statements are not yours to turn. If you find one false, say at which input.
  Laid BY PROGRAM, IN A SANDBOX (cutbox-rows.mjs): the forced cells as the released guide's own fill.sh prints them over the translation dc970b61a0344f1d… (all of the seat's roots in one cut). By AI agents, Wed Nov 11 2026. No macro, syntax, notation, axiom, sorry.
-/
import Derived.Test.YtppgccafgfpkdaaDoorChecked
import GoSem.Claim
import GoSem.ClaimJoined
import GoSem.ClaimMapViews
import Derived.JoinedTies
import Derived.KernelRfl
namespace Go.Proofs.YtppgccafgfpkdaaDoor
/- THE CELL 'sum', in the pinned program and in every row, IS THE sha256 OF THE DUMP (.gsa) THAT YtppgccafgfpkdaaDoorProg.lean LOADS. Nothing in Lean hashes anything: it is a label: what it is worth is what the hold of that sum in a sandbox is worth. -/
noncomputable def Tryd.pinned : Pinned := { name := "ytppgccafgfpkdaadoor", sum := "dc970b61a0344f1d7cadcfe091446a09901ddb42c07591bddc179817d9c34ac4", checked := Tryd.checked }
namespace Rows
def none {H : Type} : Left H := { results := [], args := [] }

/- WHAT THE LISTED PACKAGE-LEVEL VARIABLES READ AS WHEN THE CALL BEGINS. Each datum BY PROGRAM (the guide's laid-datum.mjs) off the statement by which the dump's own 'gosem.cut.vars' lays the variable. In a bare row this is a premise. The card (YtppgccafgfpkdaaDoorCards.lean) ties it to the program's text. -/
def laid_math_bits_deBruijn64tab {H : Type} : DataW H := .agg [.lit (.int .u8 0), .lit (.int .u8 1), .lit (.int .u8 56), .lit (.int .u8 2), .lit (.int .u8 57), .lit (.int .u8 49), .lit (.int .u8 28), .lit (.int .u8 3), .lit (.int .u8 61), .lit (.int .u8 58), .lit (.int .u8 42), .lit (.int .u8 50), .lit (.int .u8 38), .lit (.int .u8 29), .lit (.int .u8 17), .lit (.int .u8 4), .lit (.int .u8 62), .lit (.int .u8 47), .lit (.int .u8 59), .lit (.int .u8 36), .lit (.int .u8 45), .lit (.int .u8 43), .lit (.int .u8 51), .lit (.int .u8 22), .lit (.int .u8 53), .lit (.int .u8 39), .lit (.int .u8 33), .lit (.int .u8 30), .lit (.int .u8 24), .lit (.int .u8 18), .lit (.int .u8 12), .lit (.int .u8 5), .lit (.int .u8 63), .lit (.int .u8 55), .lit (.int .u8 48), .lit (.int .u8 27), .lit (.int .u8 60), .lit (.int .u8 41), .lit (.int .u8 37), .lit (.int .u8 16), .lit (.int .u8 46), .lit (.int .u8 35), .lit (.int .u8 44), .lit (.int .u8 21), .lit (.int .u8 52), .lit (.int .u8 32), .lit (.int .u8 23), .lit (.int .u8 11), .lit (.int .u8 54), .lit (.int .u8 26), .lit (.int .u8 40), .lit (.int .u8 15), .lit (.int .u8 34), .lit (.int .u8 20), .lit (.int .u8 31), .lit (.int .u8 10), .lit (.int .u8 25), .lit (.int .u8 14), .lit (.int .u8 19), .lit (.int .u8 9), .lit (.int .u8 13), .lit (.int .u8 8), .lit (.int .u8 7), .lit (.int .u8 6)]

/-- 'millwrightlaw06.CycleTells': WHATEVER THE INPUT: true; the input reads as it did. -/
def cycleTellsSpec : ChangeSpec := { name := "cycleTells", fn := fun _ => fun
  | [d1, d2, d3, d4] => { results := [.lit (.bool true)], args := [d1, d2, d3, d4] }
  | _ => none }
def cycleTellsRow : OpenClaim := { program := "ytppgccafgfpkdaadoor", sum := "dc970b61a0344f1d7cadcfe091446a09901ddb42c07591bddc179817d9c34ac4", func := "millwright/millwrightlaw06.CycleTells", spec := "cycleTells", unfollowed := true, recurses := true, named := ["math/bits.deBruijn64tab"], apart := false, laid := [("math/bits.deBruijn64tab", laid_math_bits_deBruijn64tab)] }
def CycleTellsSaid : Prop := cycleTellsRow.holds Tryd.pinned (OpenSpec.ofChange cycleTellsSpec)

/-- ITS FALSE NEIGHBOUR: 'it returns false'. Refute it at one input. -/
def cycleTellsWrong : ChangeSpec := { name := "cycleTells", fn := fun _ => fun
  | [d1, d2, d3, d4] => { results := [.lit (.bool false)], args := [d1, d2, d3, d4] }
  | _ => none }
def CycleTellsWrongFalsely : Prop := cycleTellsRow.holds Tryd.pinned (OpenSpec.ofChange cycleTellsWrong)

/-- 'millwrightlaw06.CycleOrder': WHATEVER THE INPUT: true; the input reads as it did. -/
def cycleOrderSpec : ChangeSpec := { name := "cycleOrder", fn := fun _ => fun
  | [d1, d2] => { results := [.lit (.bool true)], args := [d1, d2] }
  | _ => none }
def cycleOrderRow : OpenClaim := { program := "ytppgccafgfpkdaadoor", sum := "dc970b61a0344f1d7cadcfe091446a09901ddb42c07591bddc179817d9c34ac4", func := "millwright/millwrightlaw06.CycleOrder", spec := "cycleOrder", unfollowed := true, recurses := true, named := ["math/bits.deBruijn64tab"], apart := false, laid := [("math/bits.deBruijn64tab", laid_math_bits_deBruijn64tab)] }
def CycleOrderSaid : Prop := cycleOrderRow.holds Tryd.pinned (OpenSpec.ofChange cycleOrderSpec)

/-- ITS FALSE NEIGHBOUR: 'it returns false'. Refute it at one input. -/
def cycleOrderWrong : ChangeSpec := { name := "cycleOrder", fn := fun _ => fun
  | [d1, d2] => { results := [.lit (.bool false)], args := [d1, d2] }
  | _ => none }
def CycleOrderWrongFalsely : Prop := cycleOrderRow.holds Tryd.pinned (OpenSpec.ofChange cycleOrderWrong)

/-- 'millwrightlaw06.CycleDown': WHATEVER THE INPUT: true; the input reads as it did. -/
def cycleDownSpec : ChangeSpec := { name := "cycleDown", fn := fun _ => fun
  | [d1, d2] => { results := [.lit (.bool true)], args := [d1, d2] }
  | _ => none }
def cycleDownRow : OpenClaim := { program := "ytppgccafgfpkdaadoor", sum := "dc970b61a0344f1d7cadcfe091446a09901ddb42c07591bddc179817d9c34ac4", func := "millwright/millwrightlaw06.CycleDown", spec := "cycleDown", unfollowed := true, recurses := true, named := ["math/bits.deBruijn64tab"], apart := false, laid := [("math/bits.deBruijn64tab", laid_math_bits_deBruijn64tab)] }
def CycleDownSaid : Prop := cycleDownRow.holds Tryd.pinned (OpenSpec.ofChange cycleDownSpec)

/-- ITS FALSE NEIGHBOUR: 'it returns false'. Refute it at one input. -/
def cycleDownWrong : ChangeSpec := { name := "cycleDown", fn := fun _ => fun
  | [d1, d2] => { results := [.lit (.bool false)], args := [d1, d2] }
  | _ => none }
def CycleDownWrongFalsely : Prop := cycleDownRow.holds Tryd.pinned (OpenSpec.ofChange cycleDownWrong)

/-- 'millwrightlaw06.CyclePaths': WHATEVER THE INPUT: true; the input reads as it did. -/
def cyclePathsSpec : ChangeSpec := { name := "cyclePaths", fn := fun _ => fun
  | [d1, d2, d3, d4] => { results := [.lit (.bool true)], args := [d1, d2, d3, d4] }
  | _ => none }
def cyclePathsRow : OpenClaim := { program := "ytppgccafgfpkdaadoor", sum := "dc970b61a0344f1d7cadcfe091446a09901ddb42c07591bddc179817d9c34ac4", func := "millwright/millwrightlaw06.CyclePaths", spec := "cyclePaths", unfollowed := true, recurses := true, named := ["math/bits.deBruijn64tab"], apart := false, laid := [("math/bits.deBruijn64tab", laid_math_bits_deBruijn64tab)] }
def CyclePathsSaid : Prop := cyclePathsRow.holds Tryd.pinned (OpenSpec.ofChange cyclePathsSpec)

/-- ITS FALSE NEIGHBOUR: 'it returns false'. Refute it at one input. -/
def cyclePathsWrong : ChangeSpec := { name := "cyclePaths", fn := fun _ => fun
  | [d1, d2, d3, d4] => { results := [.lit (.bool false)], args := [d1, d2, d3, d4] }
  | _ => none }
def CyclePathsWrongFalsely : Prop := cyclePathsRow.holds Tryd.pinned (OpenSpec.ofChange cyclePathsWrong)

/-- 'millwrightlaw06.CycleClose': WHATEVER THE INPUT: true; the input reads as it did. -/
def cycleCloseSpec : ChangeSpec := { name := "cycleClose", fn := fun _ => fun
  | [d1, d2, d3, d4] => { results := [.lit (.bool true)], args := [d1, d2, d3, d4] }
  | _ => none }
def cycleCloseRow : OpenClaim := { program := "ytppgccafgfpkdaadoor", sum := "dc970b61a0344f1d7cadcfe091446a09901ddb42c07591bddc179817d9c34ac4", func := "millwright/millwrightlaw06.CycleClose", spec := "cycleClose", unfollowed := true, recurses := true, named := ["math/bits.deBruijn64tab"], apart := false, laid := [("math/bits.deBruijn64tab", laid_math_bits_deBruijn64tab)] }
def CycleCloseSaid : Prop := cycleCloseRow.holds Tryd.pinned (OpenSpec.ofChange cycleCloseSpec)

/-- ITS FALSE NEIGHBOUR: 'it returns false'. Refute it at one input. -/
def cycleCloseWrong : ChangeSpec := { name := "cycleClose", fn := fun _ => fun
  | [d1, d2, d3, d4] => { results := [.lit (.bool false)], args := [d1, d2, d3, d4] }
  | _ => none }
def CycleCloseWrongFalsely : Prop := cycleCloseRow.holds Tryd.pinned (OpenSpec.ofChange cycleCloseWrong)

/-- 'millwrightlaw06.CycleShort': WHATEVER THE INPUT: true; the input reads as it did. -/
def cycleShortSpec : ChangeSpec := { name := "cycleShort", fn := fun _ => fun
  | [d1, d2, d3, d4] => { results := [.lit (.bool true)], args := [d1, d2, d3, d4] }
  | _ => none }
def cycleShortRow : OpenClaim := { program := "ytppgccafgfpkdaadoor", sum := "dc970b61a0344f1d7cadcfe091446a09901ddb42c07591bddc179817d9c34ac4", func := "millwright/millwrightlaw06.CycleShort", spec := "cycleShort", unfollowed := true, recurses := true, named := ["math/bits.deBruijn64tab"], apart := false, laid := [("math/bits.deBruijn64tab", laid_math_bits_deBruijn64tab)] }
def CycleShortSaid : Prop := cycleShortRow.holds Tryd.pinned (OpenSpec.ofChange cycleShortSpec)

/-- ITS FALSE NEIGHBOUR: 'it returns false'. Refute it at one input. -/
def cycleShortWrong : ChangeSpec := { name := "cycleShort", fn := fun _ => fun
  | [d1, d2, d3, d4] => { results := [.lit (.bool false)], args := [d1, d2, d3, d4] }
  | _ => none }
def CycleShortWrongFalsely : Prop := cycleShortRow.holds Tryd.pinned (OpenSpec.ofChange cycleShortWrong)

/- THE SECOND FORM. 'bulk': how many values and letters a reading holds, each counted each time it is reached (what is shared counts as often as it is met; a slice's spare places count too). A statement '..UptoSaid' is the law's where the arguments, and the package variables that the reading takes, are together of bulk at most 1048576: NARROWER than '..Said'. Prove '..Said' where nothing that the law and all that it calls make is longer than what came in: it says more and counts as full. Else prove '..UptoSaid'. A law counts once. -/
mutual
def uptoBulk {H : Type} : DataW H → Nat
  | .lit (.string bytes) => bytes.length + 1
  | .lit _ => 1
  | .nil => 1
  | .ptr d => uptoBulk d + 1
  | .slice elems spare => uptoBulkAll elems + uptoBulkAll spare + 1
  | .agg parts => uptoBulkAll parts + 1
  | .iface _ d => uptoBulk d + 1
  | .map entries => uptoBulkEntries entries + 1
  | .held _ => 1
def uptoBulkAll {H : Type} : List (DataW H) → Nat
  | [] => 0
  | d :: r => uptoBulk d + uptoBulkAll r
def uptoBulkEntries {H : Type} : List (Lit × DataW H) → Nat
  | [] => 0
  | x :: r => uptoBulkEntry x + uptoBulkEntries r
def uptoBulkEntry {H : Type} : Lit × DataW H → Nat
  | (.string bytes, d) => bytes.length + uptoBulk d + 1
  | (_, d) => uptoBulk d + 1
 end
def uptoSmall : (H : Type) → List (DataW H) → Bool := fun _ ds => decide (uptoBulkAll ds ≤ 1048576)
def OpenSpec.upto (s : _root_.Go.ChangeSpec) : _root_.Go.OpenSpec := { _root_.Go.OpenSpec.ofChange s with cond := some uptoSmall }

/-- 'millwrightlaw06.CycleTells', WHERE WHAT IT READS IS OF BULK AT MOST 1048576: true; the input reads as it did. -/
def cycleTellsUptoRow : OpenClaim := { program := "ytppgccafgfpkdaadoor", sum := "dc970b61a0344f1d7cadcfe091446a09901ddb42c07591bddc179817d9c34ac4", func := "millwright/millwrightlaw06.CycleTells", spec := "cycleTells", unfollowed := true, recurses := true, named := ["math/bits.deBruijn64tab"], apart := false, laid := [("math/bits.deBruijn64tab", laid_math_bits_deBruijn64tab)], narrowed := true }
def CycleTellsUptoSaid : Prop := cycleTellsUptoRow.holds Tryd.pinned (OpenSpec.upto cycleTellsSpec)

/-- 'millwrightlaw06.CycleOrder', WHERE WHAT IT READS IS OF BULK AT MOST 1048576: true; the input reads as it did. -/
def cycleOrderUptoRow : OpenClaim := { program := "ytppgccafgfpkdaadoor", sum := "dc970b61a0344f1d7cadcfe091446a09901ddb42c07591bddc179817d9c34ac4", func := "millwright/millwrightlaw06.CycleOrder", spec := "cycleOrder", unfollowed := true, recurses := true, named := ["math/bits.deBruijn64tab"], apart := false, laid := [("math/bits.deBruijn64tab", laid_math_bits_deBruijn64tab)], narrowed := true }
def CycleOrderUptoSaid : Prop := cycleOrderUptoRow.holds Tryd.pinned (OpenSpec.upto cycleOrderSpec)

/-- 'millwrightlaw06.CycleDown', WHERE WHAT IT READS IS OF BULK AT MOST 1048576: true; the input reads as it did. -/
def cycleDownUptoRow : OpenClaim := { program := "ytppgccafgfpkdaadoor", sum := "dc970b61a0344f1d7cadcfe091446a09901ddb42c07591bddc179817d9c34ac4", func := "millwright/millwrightlaw06.CycleDown", spec := "cycleDown", unfollowed := true, recurses := true, named := ["math/bits.deBruijn64tab"], apart := false, laid := [("math/bits.deBruijn64tab", laid_math_bits_deBruijn64tab)], narrowed := true }
def CycleDownUptoSaid : Prop := cycleDownUptoRow.holds Tryd.pinned (OpenSpec.upto cycleDownSpec)

/-- 'millwrightlaw06.CyclePaths', WHERE WHAT IT READS IS OF BULK AT MOST 1048576: true; the input reads as it did. -/
def cyclePathsUptoRow : OpenClaim := { program := "ytppgccafgfpkdaadoor", sum := "dc970b61a0344f1d7cadcfe091446a09901ddb42c07591bddc179817d9c34ac4", func := "millwright/millwrightlaw06.CyclePaths", spec := "cyclePaths", unfollowed := true, recurses := true, named := ["math/bits.deBruijn64tab"], apart := false, laid := [("math/bits.deBruijn64tab", laid_math_bits_deBruijn64tab)], narrowed := true }
def CyclePathsUptoSaid : Prop := cyclePathsUptoRow.holds Tryd.pinned (OpenSpec.upto cyclePathsSpec)

/-- 'millwrightlaw06.CycleClose', WHERE WHAT IT READS IS OF BULK AT MOST 1048576: true; the input reads as it did. -/
def cycleCloseUptoRow : OpenClaim := { program := "ytppgccafgfpkdaadoor", sum := "dc970b61a0344f1d7cadcfe091446a09901ddb42c07591bddc179817d9c34ac4", func := "millwright/millwrightlaw06.CycleClose", spec := "cycleClose", unfollowed := true, recurses := true, named := ["math/bits.deBruijn64tab"], apart := false, laid := [("math/bits.deBruijn64tab", laid_math_bits_deBruijn64tab)], narrowed := true }
def CycleCloseUptoSaid : Prop := cycleCloseUptoRow.holds Tryd.pinned (OpenSpec.upto cycleCloseSpec)

/-- 'millwrightlaw06.CycleShort', WHERE WHAT IT READS IS OF BULK AT MOST 1048576: true; the input reads as it did. -/
def cycleShortUptoRow : OpenClaim := { program := "ytppgccafgfpkdaadoor", sum := "dc970b61a0344f1d7cadcfe091446a09901ddb42c07591bddc179817d9c34ac4", func := "millwright/millwrightlaw06.CycleShort", spec := "cycleShort", unfollowed := true, recurses := true, named := ["math/bits.deBruijn64tab"], apart := false, laid := [("math/bits.deBruijn64tab", laid_math_bits_deBruijn64tab)], narrowed := true }
def CycleShortUptoSaid : Prop := cycleShortUptoRow.holds Tryd.pinned (OpenSpec.upto cycleShortSpec)

end Rows
end Go.Proofs.YtppgccafgfpkdaaDoor
