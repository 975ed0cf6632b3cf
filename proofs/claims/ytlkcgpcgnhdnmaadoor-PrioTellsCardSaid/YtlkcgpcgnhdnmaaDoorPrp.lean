/- Priorities: the laws' plain facts. No program in it. -/
import Derived.Test.YtlkcgpcgnhdnmaaDoorPro
set_option linter.unusedVariables false
set_option linter.unusedSimpArgs false
namespace Go.Proofs.YtlkcgpcgnhdnmaaDoor.Sp
open Go
theorem rch_mem {N : Nat} {E : Es} {rs : List R3} {t : Int} : ∀ {n : Nat} {y : Int}, y ∈ rchN N E rs t n ↔ ∃ k : Nat, y = (k : Int) ∧ k < n ∧ reachB N E (rs.getD k R3.d).x t = true
  | 0, y => ⟨fun h => (by cases h), fun ⟨k, _, h, _⟩ => (by omega)⟩
  | n + 1, y => by
    have ih := rch_mem (N := N) (E := E) (rs := rs) (t := t) (n := n) (y := y)
    show y ∈ (if _ then _ else _ : List Int) ↔ _
    by_cases h : reachB N E (rs.getD n R3.d).x t = true
    · rw [if_pos h, List.mem_append, ih, List.mem_singleton]
      constructor
      · rintro (⟨k, e, hk, hr⟩ | e)
        · exact ⟨k, e, by omega, hr⟩
        · exact ⟨n, e, by omega, h⟩
      · rintro ⟨k, e, hk, hr⟩
        by_cases e2 : k = n
        · subst e2; exact .inr e
        · exact .inl ⟨k, e, by omega, hr⟩
    · rw [if_neg h, ih]
      constructor
      · rintro ⟨k, e, hk, hr⟩; exact ⟨k, e, by omega, hr⟩
      · rintro ⟨k, e, hk, hr⟩
        by_cases e2 : k = n
        · subst e2; exact absurd hr h
        · exact ⟨k, e, by omega, hr⟩
theorem rch_at {N : Nat} {E : Es} {rs : List R3} {t : Int} {n i : Nat} (h : i < (rchN N E rs t n).length) : ∃ k : Nat, (rchN N E rs t n).getD i 0 = (k : Int) ∧ k < n ∧ reachB N E (rs.getD k R3.d).x t = true :=
  rch_mem.1 (by simp [List.getD, h])
/-- some of them has just p -/
def anyN (rs : List R3) (l : List Int) (p : Int) (i : Nat) : Bool := (p == (-1)) || (l.take i).any fun k => (rs.getD k.toNat R3.d).z == p
theorem anyN_succ {rs : List R3} {l : List Int} {p : Int} {i : Nat} (h : i < l.length) : anyN rs l p (i + 1) = (anyN rs l p i || ((rs.getD (l.getD i 0).toNat R3.d).z == p)) := by
  unfold anyN; rw [take_succ_getD h 0, List.any_append, ← Bool.or_assoc]; simp
theorem fold_att {N : Nat} {E : Es} {x : Int} : ∀ (rs : List R3) (m : Int), rs.foldl (fun m r => if reachB N E r.x x = true then max m r.z else m) m = m ∨ ∃ r ∈ rs, reachB N E r.x x = true ∧ r.z = rs.foldl (fun m r => if reachB N E r.x x = true then max m r.z else m) m
  | [], m => .inl rfl
  | q :: rs, m => by
    rw [List.foldl_cons]
    rcases fold_att (N := N) (E := E) (x := x) rs (if reachB N E q.x x = true then max m q.z else m) with h | ⟨r, hr, h1, h2⟩
    · rw [h]
      by_cases hq : reachB N E q.x x = true
      · rw [if_pos hq]
        by_cases hm : q.z ≤ m
        · exact .inl (by omega)
        · exact .inr ⟨q, by simp, hq, by omega⟩
      · rw [if_neg hq]; exact .inl rfl
    · exact .inr ⟨r, List.mem_cons_of_mem _ hr, h1, h2⟩
theorem any_all {N : Nat} {E : Es} {rs : List R3} {x n : Nat} (hx : x < N) (hn : rs.length = n) {i : Nat} (hi : (rchN N E rs (x : Int) n).length ≤ i) : anyN rs (rchN N E rs (x : Int) n) ((ofL N E rs).getD x 0) i = true := by
  unfold anyN
  rw [List.take_of_length_le hi, ofL_get hx, Bool.or_eq_true, beq_iff_eq, List.any_eq_true]
  rcases fold_att (N := N) (E := E) (x := (x : Int)) rs (-1) with h | ⟨r, hr, h1, h2⟩
  · exact .inl h
  · obtain ⟨k, hk, e⟩ := List.mem_iff_getElem.1 hr
    have e2 : rs.getD k R3.d = r := by simp [List.getD, hk, e]
    refine .inr ⟨(k : Int), rch_mem.2 ⟨k, rfl, by omega, by rw [e2]; exact h1⟩, ?_⟩
    rw [Int.toNat_natCast, e2, beq_iff_eq]; exact h2
theorem rch_le {N : Nat} {E : Es} {rs : List R3} {x k : Nat} (hx : x < N) (hk : k < rs.length) (h : reachB N E (rs.getD k R3.d).x (x : Int) = true) : (rs.getD k R3.d).z ≤ (ofL N E rs).getD x 0 := by
  rw [ofL_get hx]; exact prioX_ge (getD_memR hk) h
theorem of_more {N : Nat} {E : Es} {rs : List R3} {r : R3} {x : Nat} (hx : x < N) : (ofL N E rs).getD x 0 ≤ (ofL N E (rs ++ [r])).getD x 0 := by
  rw [ofL_get hx, ofL_get hx, prioX_snoc]; split <;> omega
theorem fold_edge {N : Nat} {E E' : Es} {x : Int} (h : ∀ a, reachB N E a x = true → reachB N E' a x = true) : ∀ (rs : List R3) (m m' : Int), m ≤ m' →
    rs.foldl (fun m r => if reachB N E r.x x = true then max m r.z else m) m ≤ rs.foldl (fun m r => if reachB N E' r.x x = true then max m r.z else m) m'
  | [], _, _, hm => hm
  | r :: rs, m, m', hm => by
    rw [List.foldl_cons, List.foldl_cons]
    refine fold_edge h rs _ _ ?_
    by_cases h1 : reachB N E r.x x = true
    · rw [if_pos h1, if_pos (h _ h1)]; omega
    · rw [if_neg h1]; split <;> omega
theorem of_edge {N : Nat} {E : Es} {rs : List R3} {a b : Int} {x : Nat} (hx : x < N) : (ofL N E rs).getD x 0 ≤ (ofL N (addE N E a b) rs).getD x 0 := by
  rw [ofL_get hx, ofL_get hx]; exact fold_edge (fun c h => reachB_add h) rs _ _ (Int.le_refl _)
end Go.Proofs.YtlkcgpcgnhdnmaaDoor.Sp
