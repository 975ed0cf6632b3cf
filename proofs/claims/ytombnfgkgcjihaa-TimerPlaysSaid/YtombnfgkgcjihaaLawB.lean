/- An argument that is a slice of bools: what was there can be read. No program in it. -/
import Derived.Test.YtombnfgkgcjihaaLaw
import Derived.Deep.Grids
set_option linter.unusedVariables false
namespace Go.Proofs.Ytombnfgkgcjihaa.Sp
open Go Go.ChangeShapes Go.WideShapes Go.ChangeAt Go.RowKit
variable {P : Program} {H : Type} {enc : TypeId × Value → H}
theorem o_bools {W : World} {t e : TypeId} {v : Value} {d : DataW H} {p : List MemPlace} (ht : P.underlying t = some (.slice e)) (he : P.underlying e = some .bool) (hc : P.cellsOf e = 1) {base : Nat} (hok : Value.okWide P W .any base t v)
    (h : DataW.Trod enc P W 0 (fun _ => true) true t v d p) : ∃ bs cp, ∃ xs : List Bool, v = .slice bs xs.length cp ∧ xs.length ≤ 9223372036854775807 ∧ SlOk bs xs.length ∧ Rd [Old W] bs (bools xs) := by
  obtain ⟨a, len, cap, rfl⟩ := okWide_slice ht hok
  obtain ⟨fuel, hf⟩ := h
  rcases Deep.open_bools ht he hc hf with ⟨hcs, _⟩ | ⟨a', len', cap', B, hcs, _, hl, hm, _, hcell⟩
  · simp [Value.cells] at hcs
    obtain ⟨rfl, rfl, rfl⟩ := hcs
    exact ⟨none, 0, [], rfl, by simp, slok_none, fun _ _ j u hu => by simp [bools] at hu⟩
  · simp [Value.cells] at hcs
    obtain ⟨rfl, rfl, rfl⟩ := hcs
    have hmax : cap ≤ 9223372036854775807 := by simpa [maxLen] using hm
    have hsl : SlOk (some a') len := slok_cells (W := W) fun hn => ⟨_, hcell 0 (by omega)⟩
    have hlr : ((List.range len).map B).length = len := by simp
    refine ⟨some a', cap, (List.range len).map B, by rw [hlr], by omega, by rw [hlr]; exact hsl, ?_⟩
    intro w hs j u hu
    have hj : j < len := by have := (List.getElem?_eq_some_iff.1 hu).1; simpa using this
    obtain ⟨b, o, hb⟩ := hsl (by omega)
    cases hb
    have h1 := hcell j (by omega)
    rw [add_plain] at h1
    refine gives_old ?_ w hs
    rw [ad_some, h1]
    have : (bools ((List.range len).map B))[j]? = some (.bool (((List.range len).map B).getD j false)) := bools_get (by rw [hlr]; exact hj)
    rw [this] at hu
    simp only [Option.some.injEq] at hu
    rw [← hu]
    simp [List.getD, hj]
end Go.Proofs.Ytombnfgkgcjihaa.Sp
