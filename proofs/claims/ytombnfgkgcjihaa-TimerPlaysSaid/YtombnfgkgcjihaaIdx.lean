/- The place of the first one in a row that is so. No program in it. -/
import Derived.Test.YtombnfgkgcjihaaVal
namespace Go.Proofs.Ytombnfgkgcjihaa.Sp
open Go
def idxF (p : Int → Bool) (xs : List Int) : Int := if xs.findIdx p < xs.length then ((xs.findIdx p : Nat) : Int) else -1
theorem idxF_at {p : Int → Bool} {xs : List Int} {k : Nat} (hk : k < xs.length) (hp : p (xs.getD k 0) = true) (ha : ∀ j, j < k → p (xs.getD j 0) = false) : idxF p xs = (k : Int) := by
  have e : xs.findIdx p = k := by
    rw [List.findIdx_eq hk]
    refine ⟨by simpa [List.getD, hk] using hp, fun j hj => ?_⟩
    have := ha j hj
    have hj' : j < xs.length := by omega
    simpa [List.getD, hj'] using this
  unfold idxF
  rw [e, if_pos hk]
theorem idxF_none {p : Int → Bool} {xs : List Int} (ha : ∀ j, j < xs.length → p (xs.getD j 0) = false) : idxF p xs = -1 := by
  unfold idxF
  rw [if_neg]
  intro h
  have h1 := List.findIdx_getElem (w := h)
  have h2 := ha _ h
  simp [List.getD, h] at h2
  rw [h1] at h2; cases h2
theorem idxF_any (p : Int → Bool) (xs : List Int) : decide (idxF p xs ≥ 0) = xs.any p := by
  unfold idxF
  by_cases h : xs.findIdx p < xs.length
  · rw [if_pos h]
    have h1 := List.findIdx_getElem (w := h)
    have : xs.any p = true := List.any_eq_true.2 ⟨_, List.getElem_mem h, h1⟩
    rw [this]; simp
  · rw [if_neg h]
    have : xs.any p = false := by
      rw [List.any_eq_false]
      intro x hx hp
      exact h (List.findIdx_lt_length.2 ⟨x, hx, hp⟩)
    rw [this]; rfl
end Go.Proofs.Ytombnfgkgcjihaa.Sp
