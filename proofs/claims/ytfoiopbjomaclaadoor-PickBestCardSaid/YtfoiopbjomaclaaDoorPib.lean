/- What is best: the law's plain facts. No program in it. -/
import Derived.Test.YtfoiopbjomaclaaDoorPik
set_option linter.unusedVariables false
set_option linter.unusedSimpArgs false
namespace Go.Proofs.YtfoiopbjomaclaaDoor.Sp
open Go
theorem getD_mem {l : List Int} {i : Nat} (h : i < l.length) : l.getD i 0 ∈ l := by simp [List.getD, h]
theorem best_at {u v : List Int} {m : Nat} {p : Int} {L : List Int} (h : BestI u v m p L) {i : Nat} (hi : i < L.length) : ∃ t : Nat, L.getD i 0 = (t : Int) ∧ t < m ∧ mayB u v t ∧ v.getD t 0 = p := (h.mem _).1 (getD_mem hi)
theorem best_up {u v : List Int} {m : Nat} {p : Int} {L : List Int} (h : BestI u v m p L) {i : Nat} (h0 : 0 < i) (hi : i < L.length) : L.getD (i - 1) 0 < L.getD i 0 := by
  have := List.pairwise_iff_getElem.1 h.up (i - 1) i (by omega) hi (by omega)
  simpa [List.getD, hi, show i - 1 < L.length by omega] using this
/-- which are marked, behind the first ones -/
structure Mk (L : List Int) (i : Nat) (bs : List Bool) : Prop where
  len : bs.length = 60
  at_ : ∀ t : Nat, bs.getD t false = true ↔ ∃ j, j < i ∧ L.getD j 0 = (t : Int) ∧ t < 60
theorem rep_getD (n t : Nat) : (List.replicate n false).getD t false = false := by
  rw [List.getD_eq_getElem?_getD, List.getElem?_replicate]; split <;> rfl
theorem Mk.zero (L : List Int) : Mk L 0 (List.replicate 60 false) := ⟨List.length_replicate, fun t => ⟨fun h => (by rw [rep_getD] at h; cases h), fun ⟨j, hj, _⟩ => by omega⟩⟩
theorem Mk.next {L : List Int} {i : Nat} {bs : List Bool} (h : Mk L i bs) (h0 : 0 ≤ L.getD i 0) (h1 : L.getD i 0 < 60) : Mk L (i + 1) (bs.set (L.getD i 0).toNat true) := by
  have hl := h.len
  refine ⟨by rw [List.length_set]; exact hl, fun t => ?_⟩
  by_cases e : (L.getD i 0).toNat = t
  · constructor
    · intro _; exact ⟨i, by omega, by omega, by omega⟩
    · intro _; rw [List.getD_eq_getElem?_getD, List.getElem?_set, if_pos e, if_pos (by omega)]; rfl
  · rw [List.getD_eq_getElem?_getD, List.getElem?_set, if_neg e, ← List.getD_eq_getElem?_getD, h.at_]
    constructor
    · rintro ⟨j, hj, h2⟩; exact ⟨j, by omega, h2⟩
    · rintro ⟨j, hj, h2, h3⟩
      by_cases e2 : j = i
      · subst e2; omega
      · exact ⟨j, by omega, h2, h3⟩
theorem mk_mem {u v : List Int} {m : Nat} {p : Int} {L : List Int} {bs : List Bool} {i t : Nat} (h : Mk L i bs) (hi : ¬ i < L.length) (hi2 : i ≤ L.length) (hB : BestI u v m p L) (ht : t < m) (ht2 : t < 60) : bs.getD t false = true ↔ mayB u v t ∧ v.getD t 0 = p := by
  rw [h.at_]
  constructor
  · rintro ⟨j, hj, h2, _⟩
    obtain ⟨t2, e, _, h3, h4⟩ := best_at hB (show j < L.length by omega)
    have : t2 = t := by omega
    subst this; exact ⟨h3, h4⟩
  · rintro ⟨h1, h2⟩
    have hm : (t : Int) ∈ L := (hB.mem _).2 ⟨t, rfl, ht, h1, h2⟩
    obtain ⟨j, hj, e⟩ := List.mem_iff_getElem.1 hm
    exact ⟨j, by omega, by simp [List.getD, hj, e], ht2⟩
theorem mk_yes {u v : List Int} {m : Nat} {p : Int} {L : List Int} {bs : List Bool} {i t : Nat} (h : Mk L i bs) (hi : ¬ i < L.length) (hi2 : i ≤ L.length) (hB : BestI u v m p L) (ht : t < m) (ht2 : t < 60) (hs : u.getD t 0 = 1) (hv : decide (v.getD t 0 ≥ 0) = true) : (bs.getD t false != (v.getD t 0 == p)) = false := by
  have h1 := mk_mem h hi hi2 hB ht ht2
  have h2 : mayB u v t := ⟨hs, of_decide_eq_true hv⟩
  rw [bne_eq_false_iff_eq, Bool.eq_iff_iff, h1, beq_iff_eq]
  exact ⟨fun x => x.2, fun x => ⟨h2, x⟩⟩
theorem mk_no {u v : List Int} {m : Nat} {p : Int} {L : List Int} {bs : List Bool} {i t : Nat} (h : Mk L i bs) (hi : ¬ i < L.length) (hi2 : i ≤ L.length) (hB : BestI u v m p L) (ht : t < m) (ht2 : t < 60) (hs : ¬ (u.getD t 0 = 1 ∧ v.getD t 0 ≥ 0)) : (bs.getD t false != false) = false := by
  have h1 := mk_mem h hi hi2 hB ht ht2
  rw [bne_eq_false_iff_eq, Bool.eq_false_iff]
  intro hh
  exact hs (h1.1 hh).1
theorem best_end {u v : List Int} {m : Nat} {p : Int} {L : List Int} (hB : BestI u v m p L) : (decide (((L.length : Nat) : Int) > 0) == decide (p ≥ 0)) = true := by
  rw [beq_iff_eq, decide_eq_decide]
  constructor
  · intro h
    obtain ⟨t, _, _, h3, h4⟩ := best_at hB (show 0 < L.length by omega)
    have := h3.2; omega
  · intro h
    by_cases e : L = []
    · have := hB.ne e; omega
    · have := List.length_pos_iff.2 e; omega
end Go.Proofs.YtfoiopbjomaclaaDoor.Sp
