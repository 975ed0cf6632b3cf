/- Whose priority an edge raises: plain facts. No program in it. -/
import Derived.Test.YtlkcgpcgnhdnmaaDoorPrs
set_option linter.unusedVariables false
set_option linter.unusedSimpArgs false
namespace Go.Proofs.YtlkcgpcgnhdnmaaDoor.Sp
open Go
structure MkN (n : Nat) (L : List Int) (i : Nat) (bs : List Bool) : Prop where
  len : bs.length = n
  at_ : ∀ t : Nat, bs.getD t false = true ↔ ∃ j, j < i ∧ L.getD j 0 = (t : Int) ∧ t < n
theorem MkN.zero (n : Nat) (L : List Int) : MkN n L 0 (List.replicate n false) := ⟨List.length_replicate, fun t => ⟨fun h => (by rw [rep_getD] at h; cases h), fun ⟨j, hj, _⟩ => by omega⟩⟩
theorem MkN.next {n : Nat} {L : List Int} {i : Nat} {bs : List Bool} (h : MkN n L i bs) (h0 : 0 ≤ L.getD i 0) (h1 : L.getD i 0 < (n : Int)) : MkN n L (i + 1) (bs.set (L.getD i 0).toNat true) := by
  have hl := h.len
  refine ⟨by rw [List.length_set]; exact hl, fun t => ?_⟩
  by_cases e : (L.getD i 0).toNat = t
  · constructor
    · intro _; exact ⟨i, by omega, by omega, by omega⟩
    · intro _; rw [List.getD_eq_getElem?_getD, List.getElem?_set, if_pos e, if_pos (by omega)]; rfl
  · rw [List.getD_eq_getElem?_getD, List.getElem?_set, if_neg e, ← List.getD_eq_getElem?_getD, h.at_]
    constructor
    · rintro ⟨j, hj, h2⟩; exact ⟨j, by omega, h2⟩
    · rintro ⟨j, hj, h2, h3⟩
      by_cases e2 : j = i
      · subst e2; omega
      · exact ⟨j, by omega, h2, h3⟩
theorem mem_raised {N : Nat} {E : Es} {rs : List R3} {a b y : Int} (h : y ∈ raisedL N E rs a b) : valid N a = true ∧ valid N b = true ∧ (0 ≤ y ∧ y < N) ∧ reachB N E b y = true ∧ prioX N E rs y < prioX N E rs a := by
  unfold raisedL at h
  by_cases hv : valid N a = true
  · rw [if_pos hv, List.mem_filter] at h
    obtain ⟨h1, h2⟩ := h
    have hb := reachL_bd h1
    have hr := mem_reachL.1 h1
    have hvb : valid N b = true := by simp only [reachB, Bool.and_eq_true] at hr; exact hr.1.1
    unfold lowQ at h2
    rw [of_at hb, of_at (valid_iff.1 hv)] at h2
    exact ⟨hv, hvb, hb, hr, of_decide_eq_true h2⟩
  · rw [if_neg hv] at h; cases h
theorem raised_at {N : Nat} {E : Es} {rs : List R3} {a b : Int} {i : Nat} (h : i < (raisedL N E rs a b).length) : valid N a = true ∧ valid N b = true ∧ (0 ≤ (raisedL N E rs a b).getD i 0 ∧ (raisedL N E rs a b).getD i 0 < N) ∧ reachB N E b ((raisedL N E rs a b).getD i 0) = true ∧ prioX N E rs ((raisedL N E rs a b).getD i 0) < prioX N E rs a :=
  mem_raised (getD_mem h)
theorem raised_up {N : Nat} {E : Es} {rs : List R3} {a b : Int} {i : Nat} (h0 : 0 < i) (h : i < (raisedL N E rs a b).length) : (raisedL N E rs a b).getD (i - 1) 0 < (raisedL N E rs a b).getD i 0 := by
  have hp : (raisedL N E rs a b).Pairwise (· < ·) := by
    unfold raisedL; split
    · exact reachL_up.filter _
    · exact List.Pairwise.nil
  have := List.pairwise_iff_getElem.1 hp (i - 1) i (by omega) h (by omega)
  simpa [List.getD, h, show i - 1 < (raisedL N E rs a b).length by omega] using this
theorem raised_err {N : Nat} {E : Es} {rs : List R3} {a b : Int} (h : ¬ addErr N a b = 0) : ¬ (raisedL N E rs a b).length > 0 := by
  intro hl
  obtain ⟨h1, h2, _⟩ := raised_at hl
  unfold addErr at h; rw [h1, h2] at h; exact h rfl
theorem raised_val {N : Nat} {E : Es} {rs : List R3} {a b : Int} (hg : GOk N E) {i : Nat} (h : i < (raisedL N E rs a b).length) : (ofL N (addE N E a b) rs).getD ((raisedL N E rs a b).getD i 0).toNat 0 = (ofL N (addE N E a b) rs).getD a.toNat 0 := by
  obtain ⟨h1, h2, h3, h4, h5⟩ := raised_at h
  rw [of_at h3, of_at (valid_iff.1 h1), prio_in hg h1 h2 h4]
  by_cases hr : reachB N E b a = true
  · rw [prio_in hg h1 h2 hr]; omega
  · rw [prio_out hg h1 h2 hr]; omega
theorem raised_reach {N : Nat} {E : Es} {rs : List R3} {a b : Int} {i : Nat} (h : i < (raisedL N E rs a b).length) : reachB N (addE N E a b) b ((raisedL N E rs a b).getD i 0) = true := reachB_add (raised_at h).2.2.2.1
theorem raised_iff {N : Nat} {E : Es} {rs : List R3} {a b : Int} (hg : GOk N E) {x : Nat} (hx : x < N) : (x : Int) ∈ raisedL N E rs a b ↔ (ofL N (addE N E a b) rs).getD x 0 > (ofL N E rs).getD x 0 := by
  rw [ofL_get hx, ofL_get hx]
  constructor
  · intro h
    obtain ⟨h1, h2, h3, h4, h5⟩ := mem_raised h
    rw [prio_in hg h1 h2 h4]; omega
  · intro h
    by_cases hv : valid N a = true ∧ valid N b = true
    · by_cases hr : reachB N E b (x : Int) = true
      · rw [prio_in hg hv.1 hv.2 hr] at h
        unfold raisedL; rw [if_pos hv.1, List.mem_filter]
        refine ⟨mem_reachL.2 hr, decide_eq_true ?_⟩
        rw [of_at ⟨by omega, by omega⟩, of_at (valid_iff.1 hv.1)]; omega
      · rw [prio_out hg hv.1 hv.2 hr] at h; omega
    · rw [addE_badv hv] at h; omega
theorem raised_mk {N : Nat} {E : Es} {rs : List R3} {a b : Int} (hg : GOk N E) {i x n : Nat} {bs : List Bool} (hm : MkN n (raisedL N E rs a b) i bs) (hi : (raisedL N E rs a b).length ≤ i) (hi2 : i ≤ (raisedL N E rs a b).length) (hx : x < N) (hn : x < n) :
    (bs.getD x false != decide ((ofL N (addE N E a b) rs).getD x 0 > (ofL N E rs).getD x 0)) = false := by
  rw [bne_eq_false_iff_eq, Bool.eq_iff_iff, hm.at_, decide_eq_true_iff, ← raised_iff hg hx]
  constructor
  · rintro ⟨j, hj, e, _⟩; rw [← e]; exact getD_mem (by omega)
  · intro h
    obtain ⟨j, hj, e⟩ := List.mem_iff_getElem.1 h
    exact ⟨j, by omega, by simp [List.getD, hj, e], hn⟩
end Go.Proofs.YtlkcgpcgnhdnmaaDoor.Sp
