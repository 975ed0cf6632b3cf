/- Priorities: plain facts. No program in it. -/
import Derived.Test.YtlkcgpcgnhdnmaaDoorLawR
import Derived.Test.YtlkcgpcgnhdnmaaDoorRea
import Derived.Test.YtlkcgpcgnhdnmaaDoorPib
set_option linter.unusedVariables false
set_option linter.unusedSimpArgs false
namespace Go.Proofs.YtlkcgpcgnhdnmaaDoor.Sp
open Go
/-- of requests (root, weight, priority): what a task has -/
noncomputable def prioX (N : Nat) (E : Es) (rs : List R3) (x : Int) : Int := rs.foldl (fun m r => if reachB N E r.x x = true then max m r.z else m) (-1)
noncomputable def ofL (N : Nat) (E : Es) (rs : List R3) : List Int := (List.range N).map fun x : Nat => prioX N E rs (x : Int)
theorem ofL_len (N : Nat) (E : Es) (rs : List R3) : (ofL N E rs).length = N := by unfold ofL; simp
theorem ofL_get {N : Nat} {E : Es} {rs : List R3} {x : Nat} (h : x < N) : (ofL N E rs).getD x 0 = prioX N E rs (x : Int) := by
  unfold ofL; rw [List.getD_eq_getElem?_getD, List.getElem?_map, List.getElem?_range h]; rfl
theorem ofL_nil (N : Nat) (E : Es) : ofL N E [] = List.replicate N (-1) := by
  refine List.ext_getElem (by rw [ofL_len, List.length_replicate]) fun i h1 h2 => ?_
  simp [ofL, prioX]
theorem prioX_snoc (N : Nat) (E : Es) (rs : List R3) (r : R3) (x : Int) : prioX N E (rs ++ [r]) x = if reachB N E r.x x = true then max (prioX N E rs x) r.z else prioX N E rs x := by
  unfold prioX; rw [List.foldl_append]; rfl
def innP (l : List Int) (pr : Int) (p : List Int) : List Int := l.foldl (fun p t => p.set t.toNat (max (p.getD t.toNat 0) pr)) p
theorem innP_succ {l : List Int} {j : Nat} (h : j < l.length) (pr : Int) (p : List Int) : innP (l.take (j + 1)) pr p = (innP (l.take j) pr p).set (l.getD j 0).toNat (max ((innP (l.take j) pr p).getD (l.getD j 0).toNat 0) pr) := by
  unfold innP; rw [take_succ_getD h 0, List.foldl_append]; rfl
theorem innP_len (l : List Int) (pr : Int) (p : List Int) : (innP l pr p).length = p.length := by
  unfold innP
  induction l generalizing p with
  | nil => rfl
  | cons t l ih => rw [List.foldl_cons, ih, List.length_set]
theorem getD_set (p : List Int) (i x : Nat) (v : Int) (h : i < p.length) : (p.set i v).getD x 0 = if i = x then v else p.getD x 0 := by
  rw [List.getD_eq_getElem?_getD, List.getElem?_set]
  by_cases e : i = x
  · subst e; rw [if_pos rfl, if_pos h, if_pos rfl]; rfl
  · rw [if_neg e, if_neg e, List.getD_eq_getElem?_getD]
theorem innP_get (pr : Int) (x : Nat) : ∀ (l : List Int) (p : List Int), (∀ t ∈ l, 0 ≤ t ∧ t < (p.length : Int)) → (innP l pr p).getD x 0 = if (x : Int) ∈ l then max (p.getD x 0) pr else p.getD x 0
  | [], p, _ => by simp [innP]
  | t :: l, p, hl => by
    have ht := hl t (by simp)
    have ih := innP_get pr x l (p.set t.toNat (max (p.getD t.toNat 0) pr)) (fun u hu => by rw [List.length_set]; exact hl u (List.mem_cons_of_mem _ hu))
    show (innP l pr (p.set t.toNat (max (p.getD t.toNat 0) pr))).getD x 0 = _
    rw [ih, getD_set _ _ _ _ (by omega)]
    by_cases e : t.toNat = x
    · subst e
      rw [if_pos rfl, if_pos (show ((t.toNat : Nat) : Int) ∈ t :: l by rw [Int.toNat_of_nonneg ht.1]; simp)]
      split <;> omega
    · rw [if_neg e]
      have e2 : ¬ (x : Int) = t := by omega
      simp only [List.mem_cons, e2, false_or]
theorem of_step (N : Nat) (E : Es) (rs : List R3) (r : R3) : innP (reachL N E r.x) r.z (ofL N E rs) = ofL N E (rs ++ [r]) := by
  have hl : ∀ t ∈ reachL N E r.x, 0 ≤ t ∧ t < ((ofL N E rs).length : Int) := fun t ht => by
    have := mem_reachL.1 ht
    simp only [reachB, Bool.and_eq_true] at this
    rw [ofL_len]; exact valid_iff.1 this.1.2
  refine List.ext_getElem (by rw [innP_len, ofL_len, ofL_len]) fun i h1 h2 => ?_
  have hi : i < N := by rw [ofL_len] at h2; exact h2
  have g1 := innP_get r.z i (reachL N E r.x) (ofL N E rs) hl
  have g2 := ofL_get (N := N) (E := E) (rs := rs ++ [r]) hi
  rw [List.getD_eq_getElem?_getD, List.getElem?_eq_getElem h1, Option.getD_some] at g1
  rw [List.getD_eq_getElem?_getD, List.getElem?_eq_getElem h2, Option.getD_some] at g2
  rw [g1, g2, prioX_snoc, ofL_get hi]
  simp only [mem_reachL]
theorem of_next {N : Nat} {E : Es} {rs : List R3} {k : Nat} (h : k < rs.length) : innP (reachL N E (rs.getD k R3.d).x) (rs.getD k R3.d).z (ofL N E (rs.take k)) = ofL N E (rs.take (k + 1)) := by
  rw [take_succ_getD h R3.d, of_step]
/-- whose requests reach -/
noncomputable def rchN (N : Nat) (E : Es) (rs : List R3) (t : Int) : Nat → List Int
  | 0 => []
  | k + 1 => if reachB N E (rs.getD k R3.d).x t = true then rchN N E rs t k ++ [(k : Int)] else rchN N E rs t k
theorem rch_yes {N : Nat} {E : Es} {rs : List R3} {t : Int} {k : Nat} {qs : List Int} (h : rchN N E rs t k = qs) (hr : reachB N E (rs.getD k R3.d).x t = true) : rchN N E rs t (k + 1) = qs ++ [(k : Int)] := by
  show (if _ then _ else _) = _; rw [if_pos hr, h]
theorem rch_no {N : Nat} {E : Es} {rs : List R3} {t : Int} {k : Nat} {qs : List Int} (h : rchN N E rs t k = qs) (hr : reachB N E (rs.getD k R3.d).x t = false) : rchN N E rs t (k + 1) = qs := by
  show (if _ then _ else _) = _; rw [if_neg (by rw [hr]; decide), h]
theorem rchN_len (N : Nat) (E : Es) (rs : List R3) (t : Int) : ∀ k, (rchN N E rs t k).length ≤ k
  | 0 => Nat.le_refl _
  | k + 1 => by
    have := rchN_len N E rs t k
    show (if _ then _ else _ : List Int).length ≤ _
    split
    · rw [List.length_append, List.length_singleton]; omega
    · omega
def lowQ (P : List Int) (a x : Int) : Bool := decide (P.getD x.toNat 0 < P.getD a.toNat 0)
noncomputable def raisedL (N : Nat) (E : Es) (rs : List R3) (a b : Int) : List Int := if valid N a = true then (reachL N E b).filter (lowQ (ofL N E rs) a) else []
theorem raised_no {N : Nat} {E : Es} {rs : List R3} {a b : Int} (h : ¬ (0 ≤ a ∧ a < N)) : raisedL N E rs a b = [] := if_neg fun hv => h (valid_iff.1 hv)
theorem raised_yes {N : Nat} {E : Es} {rs : List R3} {a b : Int} (h : 0 ≤ a ∧ a < N) : raisedL N E rs a b = (reachL N E b).filter (lowQ (ofL N E rs) a) := if_pos (valid_iff.2 h)
theorem reachL_bd {N : Nat} {E : Es} {a x : Int} (h : x ∈ reachL N E a) : 0 ≤ x ∧ x < N := by
  have := mem_reachL.1 h
  simp only [reachB, Bool.and_eq_true] at this
  exact valid_iff.1 this.1.2
theorem of_none {N : Nat} {E : Es} {i : Nat} (h : i < N) : (ofL N E []).getD i 0 = -1 := by rw [ofL_get h]; rfl
theorem of_one_y {N : Nat} {E : Es} {r : R3} {i : Nat} (h : i < N) (hr : reachB N E r.x (i : Int) = true) : (ofL N E [r]).getD i 0 = max (-1) r.z := by rw [ofL_get h]; exact if_pos hr
theorem of_one_n {N : Nat} {E : Es} {r : R3} {i : Nat} (h : i < N) (hr : reachB N E r.x (i : Int) = false) : (ofL N E [r]).getD i 0 = -1 := by rw [ofL_get h]; exact if_neg (by rw [hr]; decide)
theorem fold_mono {N : Nat} {E : Es} {x y : Int} (h : ∀ a, reachB N E a x = true → reachB N E a y = true) : ∀ (rs : List R3) (m m' : Int), m ≤ m' →
    rs.foldl (fun m r => if reachB N E r.x x = true then max m r.z else m) m ≤ rs.foldl (fun m r => if reachB N E r.x y = true then max m r.z else m) m'
  | [], _, _, hm => hm
  | r :: rs, m, m', hm => by
    rw [List.foldl_cons, List.foldl_cons]
    refine fold_mono h rs _ _ ?_
    by_cases h1 : reachB N E r.x x = true
    · rw [if_pos h1, if_pos (h _ h1)]; omega
    · rw [if_neg h1]; split <;> omega
theorem prioX_mono {N : Nat} {E : Es} {x y : Int} {rs : List R3} (h : ∀ a, reachB N E a x = true → reachB N E a y = true) : prioX N E rs x ≤ prioX N E rs y := fold_mono h rs _ _ (Int.le_refl _)
theorem fold_le {N : Nat} {E : Es} {x : Int} : ∀ (rs : List R3) (m : Int), m ≤ rs.foldl (fun m r => if reachB N E r.x x = true then max m r.z else m) m
  | [], _ => Int.le_refl _
  | r :: rs, m => by
    rw [List.foldl_cons]
    refine Int.le_trans ?_ (fold_le rs _)
    split <;> omega
theorem fold_ge {N : Nat} {E : Es} {x : Int} : ∀ (rs : List R3) (m : Int) (r : R3), r ∈ rs → reachB N E r.x x = true → r.z ≤ rs.foldl (fun m r => if reachB N E r.x x = true then max m r.z else m) m
  | q :: rs, m, r, hm, hr => by
    rw [List.foldl_cons]
    rcases List.mem_cons.1 hm with rfl | hm
    · rw [if_pos hr]; exact Int.le_trans (by omega) (fold_le rs _)
    · exact fold_ge rs _ r hm hr
theorem prioX_ge {N : Nat} {E : Es} {x : Int} {rs : List R3} {r : R3} (h : r ∈ rs) (hr : reachB N E r.x x = true) : r.z ≤ prioX N E rs x := fold_ge rs _ r h hr
theorem prioX_low {N : Nat} {E : Es} {x : Int} {rs : List R3} : -1 ≤ prioX N E rs x := fold_le rs _
theorem of_at {N : Nat} {E : Es} {rs : List R3} {x : Int} (h : 0 ≤ x ∧ x < N) : (ofL N E rs).getD x.toNat 0 = prioX N E rs x := by
  rw [ofL_get (by omega), Int.toNat_of_nonneg h.1]
theorem getD_memR {rs : List R3} {k : Nat} (h : k < rs.length) : rs.getD k R3.d ∈ rs := by simp [List.getD, h]
theorem of_wait {N : Nat} {E : Es} {rs : List R3} (hg : GOk N E) {x i : Nat} (hx : x < N) (hi : i < (outs E (x : Int)).length) : (ofL N E rs).getD x 0 ≤ (ofL N E rs).getD ((outs E (x : Int)).getD i 0).toNat 0 := by
  have hb := outs_bd hg hi
  rw [ofL_get hx, of_at hb]
  exact prioX_mono fun a ha => reachB_trans ha (reachB_edge hg (has_at hi))
theorem of_root {N : Nat} {E : Es} {rs : List R3} {k : Nat} (hk : k < rs.length) (h : 0 ≤ (rs.getD k R3.d).x ∧ (rs.getD k R3.d).x < N) : (rs.getD k R3.d).z ≤ (ofL N E rs).getD (rs.getD k R3.d).x.toNat 0 := by
  rw [of_at h]; exact prioX_ge (getD_memR hk) (reach_self h)
theorem rc4 (a b : Int) : rch ([(0, 1)] : Es) a b = (decide (a = b) || (decide (a = 0) && decide (b = 1))) := by
  rw [Bool.eq_iff_iff, rch_iff, Bool.or_eq_true, Bool.and_eq_true, decide_eq_true_iff, decide_eq_true_iff, decide_eq_true_iff]
  constructor
  · intro h
    have h2 := h.closed (fun y => decide (y = a) || (decide (a = 0) && decide (y = 1))) (by simp) (by
      intro e he hp
      have : e = (0, 1) := by simpa using he
      subst this
      have hp' : (decide ((0 : Int) = a) || (decide (a = 0) && decide ((0 : Int) = 1))) = true := hp
      show (decide ((1 : Int) = a) || (decide (a = 0) && decide ((1 : Int) = 1))) = true
      by_cases h0 : a = 0
      · subst h0; rfl
      · have h1 : ¬ (0 : Int) = a := fun e => h0 e.symm
        rw [decide_eq_false h1, decide_eq_false h0] at hp'
        exact absurd hp' (by decide))
    simp only [Bool.or_eq_true, Bool.and_eq_true, decide_eq_true_iff] at h2
    omega
  · rintro (rfl | ⟨rfl, rfl⟩)
    · exact .refl
    · exact Rch.refl.step (by decide)
def rs4 : List R3 := [⟨0, 0, 5⟩, ⟨1, 0, 2⟩, ⟨3, 0, 1⟩, ⟨9, 0, 7⟩]
theorem shown_of : ofL 4 ([(0, 1)] : Es) [⟨0, 0, 5⟩, ⟨1, 0, 2⟩, ⟨3, 0, 1⟩, ⟨9, 0, 7⟩] = [5, 5, -1, 1] := by
  unfold ofL prioX reachB; simp only [rc4]; decide
theorem shown_rch : rchN 4 ([(0, 1)] : Es) [⟨0, 0, 5⟩, ⟨1, 0, 2⟩, ⟨3, 0, 1⟩, ⟨9, 0, 7⟩] 1 4 = [0, 1] := by
  unfold rchN rchN rchN rchN rchN reachB; simp only [rc4]; decide
theorem shown_r1 : raisedL 4 ([(0, 1)] : Es) [⟨0, 0, 5⟩, ⟨1, 0, 2⟩, ⟨3, 0, 1⟩, ⟨9, 0, 7⟩] 1 3 = [3] := by
  unfold raisedL; rw [shown_of]; unfold reachL; simp only [rc4]; decide
theorem shown_r2 : raisedL 4 ([(0, 1)] : Es) [⟨0, 0, 5⟩, ⟨1, 0, 2⟩, ⟨3, 0, 1⟩, ⟨9, 0, 7⟩] 3 0 = [] := by
  unfold raisedL; rw [shown_of]; unfold reachL; simp only [rc4]; decide
end Go.Proofs.YtlkcgpcgnhdnmaaDoor.Sp
