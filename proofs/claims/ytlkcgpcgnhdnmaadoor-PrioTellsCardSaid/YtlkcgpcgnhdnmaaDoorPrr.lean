/- Priorities as the document tells them: plain facts. No program in it. -/
import Derived.Test.YtlkcgpcgnhdnmaaDoorPrt
set_option linter.unusedVariables false
set_option linter.unusedSimpArgs false
namespace Go.Proofs.YtlkcgpcgnhdnmaaDoor.Sp
open Go
/-- the greatest priority of the first i of these -/
def pF (rs : List R3) (l : List Int) (i : Nat) : Int := (l.take i).foldl (fun m j => max m (rs.getD j.toNat R3.d).z) (-1)
theorem pF_succ {rs : List R3} {l : List Int} {i : Nat} (h : i < l.length) : pF rs l (i + 1) = max (pF rs l i) (rs.getD (l.getD i 0).toNat R3.d).z := by
  unfold pF; rw [take_succ_getD h 0, List.foldl_append]; rfl
theorem rch_fold {N : Nat} {E : Es} {rs : List R3} {t : Int} : ∀ k, k ≤ rs.length → (rchN N E rs t k).foldl (fun m j => max m (rs.getD j.toNat R3.d).z) (-1) = prioX N E (rs.take k) t
  | 0, _ => rfl
  | k + 1, hk => by
    have ih := rch_fold (N := N) (E := E) (rs := rs) (t := t) k (by omega)
    rw [take_succ_getD (show k < rs.length by omega) R3.d, prioX_snoc, ← ih]
    show (if _ then _ else _ : List Int).foldl _ _ = _
    split
    · rw [List.foldl_append]; rfl
    · rfl
theorem pF_end {N : Nat} {E : Es} {rs : List R3} {t : Int} {n i : Nat} (hn : rs.length = n) (hi : (rchN N E rs t n).length ≤ i) : pF rs (rchN N E rs t n) i = prioX N E rs t := by
  subst hn
  unfold pF; rw [List.take_of_length_le hi, rch_fold _ (Nat.le_refl _), List.take_length]
theorem ofL_succ {N : Nat} {E : Es} {rs : List R3} {x : Nat} (hx : x < N) : (ofL N E rs).take (x + 1) = (ofL N E rs).take x ++ [prioX N E rs (x : Int)] := by
  rw [take_succ_getD (by rw [ofL_len]; exact hx) 0, ofL_get hx]
def diffN (P Q : List Int) (k : Nat) : List Int := ((List.range k).filter fun x => decide (¬ P.getD x 0 = Q.getD x 0)).map fun x : Nat => (x : Int)
theorem diff_yes {P Q : List Int} {k : Nat} (h : ¬ P.getD k 0 = Q.getD k 0) : diffN P Q (k + 1) = diffN P Q k ++ [(k : Int)] := by
  unfold diffN; rw [List.range_succ, List.filter_append, List.map_append, List.filter_cons, if_pos (decide_eq_true h)]; rfl
theorem diff_no {P Q : List Int} {k : Nat} (h : P.getD k 0 = Q.getD k 0) : diffN P Q (k + 1) = diffN P Q k := by
  unfold diffN; rw [List.range_succ, List.filter_append, List.map_append, List.filter_cons, if_neg (by simpa using h)]; simp
theorem diffN_len (P Q : List Int) (k : Nat) : (diffN P Q k).length ≤ k := by
  unfold diffN; rw [List.length_map]
  have := List.length_filter_le (fun x => decide (¬ P.getD x 0 = Q.getD x 0)) (List.range k)
  simpa using this
theorem diff_raised {N : Nat} {E : Es} {rs : List R3} {a b : Int} (hg : GOk N E) : diffN (ofL N E rs) (ofL N (addE N E a b) rs) N = raisedL N E rs a b := by
  have hd : ∀ x : Nat, x < N → (¬ (ofL N E rs).getD x 0 = (ofL N (addE N E a b) rs).getD x 0 ↔ (x : Int) ∈ raisedL N E rs a b) := fun x hx => by
    rw [raised_iff hg hx]
    have := of_edge (N := N) (E := E) (rs := rs) (a := a) (b := b) hx
    omega
  have hL : raisedL N E rs a b = ((List.range N).filter fun x : Nat => decide ((x : Int) ∈ raisedL N E rs a b)).map fun x : Nat => (x : Int) := by
    by_cases ha : valid N a = true
    · by_cases hb : valid N b = true
      · have e : raisedL N E rs a b = ((List.range N).filter fun x : Nat => lowQ (ofL N E rs) a (x : Int) && rch E b (x : Int)).map fun x : Nat => (x : Int) := by
          unfold raisedL reachL; rw [if_pos ha, hb, cond_true, List.filter_map, List.filter_filter]; rfl
        rw [e]
        congr 1
        refine List.filter_congr fun x hx => ?_
        rw [Bool.eq_iff_iff, decide_eq_true_iff, List.mem_map]
        constructor
        · intro h; exact ⟨x, List.mem_filter.2 ⟨hx, h⟩, rfl⟩
        · rintro ⟨y, hy, e⟩
          have : y = x := by omega
          subst this; exact (List.mem_filter.1 hy).2
      · have e : raisedL N E rs a b = [] := by
          unfold raisedL reachL; rw [if_pos ha, show valid N b = false by simpa using hb]; rfl
        rw [e]; simp
    · have e : raisedL N E rs a b = [] := by unfold raisedL; rw [if_neg ha]
      rw [e]; simp
  rw [hL]
  unfold diffN
  congr 1
  refine List.filter_congr fun x hx => ?_
  rw [decide_eq_decide]
  exact hd x (List.mem_range.1 hx)
theorem rch_bad {N : Nat} {E : Es} {rs : List R3} {t : Int} (h : ¬ (0 ≤ t ∧ t < N)) : ∀ k, rchN N E rs t k = []
  | 0 => rfl
  | k + 1 => by
    show (if _ then _ else _ : List Int) = _
    have : reachB N E (rs.getD k R3.d).x t = false := by
      unfold reachB; rw [show valid N t = false by cases hv : valid N t with | false => rfl | true => exact absurd (valid_iff.1 hv) h]; simp
    rw [this, if_neg (by decide)]; exact rch_bad h k
theorem addE_len (N : Nat) (E : Es) (a b : Int) : (addE N E a b).length ≤ E.length + 1 := by
  unfold addE; cases isNew N E a b <;> simp
end Go.Proofs.YtlkcgpcgnhdnmaaDoor.Sp
