/- A slice that came in is no longer than its capacity. No program in it. -/
import Derived.Test.YtppgccafgfpkdaaDoorLaw
import Derived.Deep.Strs
set_option linter.unusedVariables false
namespace Go.Proofs.YtppgccafgfpkdaaDoor.Sp
open Go Go.ChangeShapes Go.WideShapes Go.ChangeAt Go.RowKit
variable {P : Program} {H : Type} {enc : TypeId × Value → H}
theorem o_cap {W : World} {t e : TypeId} {a : Option Addr} {len cap : Nat} {d : DataW H} {p : List MemPlace} (ht : P.underlying t = some (.slice e)) (h : DataW.Trod enc P W 0 (fun _ => true) true t (.slice a len cap) d p) : len ≤ cap := by
  obtain ⟨fuel, hf⟩ := h
  rcases Deep.open_slice ht hf with ⟨hcs, _⟩ | ⟨a', len', cap', m, k, D, Pl, hcs, _, hl, hm, hmm, _, hx⟩
  · simp [Value.cells] at hcs
    obtain ⟨rfl, rfl, rfl⟩ := hcs
    exact Nat.le_refl _
  · simp [Value.cells] at hcs
    obtain ⟨rfl, rfl, rfl⟩ := hcs
    omega
end Go.Proofs.YtppgccafgfpkdaaDoor.Sp
