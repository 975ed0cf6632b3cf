/- What may run next: plain facts. No program in it. -/
import Derived.Test.YtlkcgpcgnhdnmaaDoorPur
import Derived.Test.YtlkcgpcgnhdnmaaDoorIdx
set_option linter.unusedVariables false
set_option linter.unusedSimpArgs false
namespace Go.Proofs.YtlkcgpcgnhdnmaaDoor.Sp
open Go
/-- what is best, among the first ones -/
def bestS (st pr : List Int) (s : Int × List Int) (t : Nat) : Int × List Int :=
  if st.getD t 0 = 1 ∧ ¬ pr.getD t 0 < max s.1 0 then (if pr.getD t 0 > s.1 then (pr.getD t 0, [(t : Int)]) else (s.1, s.2 ++ [(t : Int)])) else s
def bestN (st pr : List Int) : Nat → Int × List Int
  | 0 => (-1, [])
  | k + 1 => bestS st pr (bestN st pr k) k
def mayB (st pr : List Int) (t : Nat) : Prop := st.getD t 0 = 1 ∧ 0 ≤ pr.getD t 0
structure BestI (st pr : List Int) (k : Nat) (p : Int) (l : List Int) : Prop where
  ge : -1 ≤ p
  top : ∀ t, t < k → mayB st pr t → pr.getD t 0 ≤ p
  mem : ∀ x, x ∈ l ↔ ∃ t : Nat, x = (t : Int) ∧ t < k ∧ mayB st pr t ∧ pr.getD t 0 = p
  up : l.Pairwise (· < ·)
  ne : l = [] → p = -1
theorem best_inv (st pr : List Int) : ∀ k, BestI st pr k (bestN st pr k).1 (bestN st pr k).2 := by
  intro k
  induction k with
  | zero => exact ⟨Int.le_refl (-1), fun t h => by omega, fun x => ⟨fun h => (by cases h), fun ⟨t, _, h, _⟩ => (by omega)⟩, List.Pairwise.nil, fun _ => rfl⟩
  | succ k ih =>
    obtain ⟨p, l, hpl⟩ : ∃ p l, bestN st pr k = (p, l) := ⟨_, _, rfl⟩
    rw [hpl] at ih
    show BestI st pr (k + 1) (bestS st pr (bestN st pr k) k).1 (bestS st pr (bestN st pr k) k).2
    rw [hpl]; unfold bestS
    have hge : -1 ≤ p := ih.ge
    by_cases h1 : st.getD k 0 = 1 ∧ ¬ pr.getD k 0 < max p 0
    · rw [if_pos h1]
      have hm : mayB st pr k := ⟨h1.1, by have := h1.2; omega⟩
      by_cases h2 : pr.getD k 0 > p
      · rw [if_pos h2]
        refine ⟨by show -1 ≤ pr.getD k 0; omega, fun t ht hmt => ?_, fun x => ?_, by simp, fun h => by cases h⟩
        · by_cases e : t = k
          · subst e; exact Int.le_refl _
          · have := ih.top t (by omega) hmt; show _ ≤ pr.getD k 0; have : (p, l).1 = p := rfl; omega
        · rw [List.mem_singleton]
          constructor
          · intro e; exact ⟨k, e, by omega, hm, rfl⟩
          · rintro ⟨t, e, ht, hmt, hp⟩
            by_cases e2 : t = k
            · subst e2; exact e
            · have h3 := ih.top t (by omega) hmt; have h4 : pr.getD t 0 = pr.getD k 0 := hp; have : (p, l).1 = p := rfl; omega
      · rw [if_neg h2]
        have hpk : pr.getD k 0 = p := by have := h1.2; omega
        refine ⟨ih.ge, fun t ht hmt => ?_, fun x => ?_, ?_, fun h => by simp at h⟩
        · by_cases e : t = k
          · subst e; show _ ≤ p; omega
          · exact ih.top t (by omega) hmt
        · show x ∈ l ++ [(k : Int)] ↔ _
          rw [List.mem_append, List.mem_singleton]
          constructor
          · rintro (h | h)
            · obtain ⟨t, e, ht, h3⟩ := (ih.mem x).1 h; exact ⟨t, e, by omega, h3⟩
            · exact ⟨k, h, by omega, hm, hpk⟩
          · rintro ⟨t, e, ht, h3⟩
            by_cases e2 : t = k
            · subst e2; exact .inr e
            · exact .inl ((ih.mem x).2 ⟨t, e, by omega, h3⟩)
        · show (l ++ [(k : Int)]).Pairwise (· < ·)
          rw [List.pairwise_append]
          refine ⟨ih.up, by simp, fun x hx y hy => ?_⟩
          rw [List.mem_singleton] at hy; subst hy
          obtain ⟨t, e, ht, _⟩ := (ih.mem x).1 hx; omega
    · rw [if_neg h1]
      refine ⟨ih.ge, fun t ht hmt => ?_, fun x => ?_, ih.up, ih.ne⟩
      · by_cases e : t = k
        · subst e
          have h3 := hmt.1; have h4 := hmt.2
          have h5 : pr.getD t 0 < max p 0 := by
            by_cases h6 : pr.getD t 0 < max p 0
            · exact h6
            · exact absurd ⟨h3, h6⟩ h1
          show _ ≤ p; omega
        · exact ih.top t (by omega) hmt
      · show x ∈ l ↔ ∃ t : Nat, x = (t : Int) ∧ t < k + 1 ∧ mayB st pr t ∧ pr.getD t 0 = p
        constructor
        · intro h; obtain ⟨t, e, ht, h3⟩ := (ih.mem x).1 h; exact ⟨t, e, by omega, h3⟩
        · rintro ⟨t, e, ht, hm, hp⟩
          by_cases e2 : t = k
          · subst e2
            exact absurd ⟨hm.1, by have := hm.2; omega⟩ h1
          · exact (ih.mem x).2 ⟨t, e, by omega, hm, hp⟩
theorem bestN_ge (st pr : List Int) (k : Nat) : -1 ≤ (bestN st pr k).1 := (best_inv st pr k).ge
theorem bestN_len (st pr : List Int) : ∀ k, (bestN st pr k).2.length ≤ k
  | 0 => Nat.le_refl _
  | k + 1 => by
    have := bestN_len st pr k
    show (bestS st pr (bestN st pr k) k).2.length ≤ k + 1
    unfold bestS; split
    · split <;> simp <;> omega
    · omega
theorem best_no {st pr : List Int} {p : Int} {ts : List Int} {k : Nat} (h : bestN st pr k = (p, ts)) (hn : ¬ (st.getD k 0 = 1 ∧ ¬ pr.getD k 0 < max p 0)) : bestN st pr (k + 1) = (p, ts) := by
  show bestS st pr (bestN st pr k) k = _
  rw [h]; unfold bestS; rw [if_neg hn]
theorem best_add {st pr : List Int} {p : Int} {ts : List Int} {k : Nat} (h : bestN st pr k = (p, ts)) (h1 : st.getD k 0 = 1) (h2 : ¬ pr.getD k 0 < max p 0) (h3 : ¬ pr.getD k 0 > p) : bestN st pr (k + 1) = (p, ts ++ [(k : Int)]) := by
  show bestS st pr (bestN st pr k) k = _
  rw [h]; unfold bestS; rw [if_pos ⟨h1, h2⟩, if_neg h3]
theorem best_new {st pr : List Int} {p : Int} {ts : List Int} {k : Nat} (h : bestN st pr k = (p, ts)) (h1 : st.getD k 0 = 1) (h2 : ¬ pr.getD k 0 < max p 0) (h3 : pr.getD k 0 > p) : bestN st pr (k + 1) = (pr.getD k 0, [(k : Int)]) := by
  show bestS st pr (bestN st pr k) k = _
  rw [h]; unfold bestS; rw [if_pos ⟨h1, h2⟩, if_pos h3]
/-- a task that is there -/
def thB (x : Int) (n : Nat) : Bool := decide (x ≥ 0) && decide (x < (n : Int))
theorem thB_t {x : Int} {n : Nat} (h : thB x n = true) : 0 ≤ x ∧ x < (n : Int) := by
  unfold thB at h; rw [Bool.and_eq_true] at h; exact ⟨of_decide_eq_true h.1, of_decide_eq_true h.2⟩
/-- it fits -/
def fitB (n : Nat) (es : List (Int × Int)) (room x : Int) : Bool := thB x n && decide ((es.getD x.toNat (0, 0)).1 ≤ room)
theorem rd_tk_pairs {L : List HP} {bs : Option Addr} {xs : List (Int × Int)} (n : Nat) (hrd : Rd L bs (pairs xs)) : Rd L bs (pairs (xs.take n)) := by
  intro w hs j u hu
  refine hrd w hs j u ?_
  have e : pairs xs = pairs (xs.take n) ++ pairs (xs.drop n) := by
    unfold pairs; rw [← List.flatMap_append, List.take_append_drop]
  rw [e]
  have := (List.getElem?_eq_some_iff.1 hu).1
  rw [List.getElem?_append_left this]; exact hu
/-- what is kept of a row, in place -/
structure DelI (p : Int → Bool) (xs : List Int) (i j : Nat) (ys : List Int) : Prop where
  lt : i < j
  le : j ≤ xs.length
  len : ys.length = xs.length
  ft : ys.take i = (xs.take j).filter (fun x => !p x)
  bk : ys.drop j = xs.drop j
theorem DelI.get {p : Int → Bool} {xs ys : List Int} {i j : Nat} (h : DelI p xs i j ys) (hj : j < xs.length) : ys.getD j 0 = xs.getD j 0 := by
  have h1 : (ys.drop j)[0]? = (xs.drop j)[0]? := by rw [h.bk]
  rw [List.getElem?_drop, List.getElem?_drop] at h1
  simp only [Nat.add_zero] at h1
  simp [List.getD, h1]
theorem drop_next {xs ys : List Int} {j : Nat} (h : ys.drop j = xs.drop j) : ys.drop (j + 1) = xs.drop (j + 1) := by
  have := congrArg (List.drop 1) h
  simpa [List.drop_drop, Nat.add_comm] using this
theorem DelI.keep {p : Int → Bool} {xs ys : List Int} {i j : Nat} (h : DelI p xs i j ys) (hj : j < xs.length) (hp : p (ys.getD j 0) = false) : DelI p xs (i + 1) (j + 1) (ys.set i (ys.getD j 0)) := by
  have hi : i < ys.length := by have := h.lt; have := h.len; omega
  refine ⟨by have := h.lt; omega, hj, by rw [List.length_set]; exact h.len, ?_, ?_⟩
  · rw [List.take_succ_eq_append_getElem (by rw [List.length_set]; exact hi), List.take_set_of_le (Nat.le_refl _), h.ft, take_succ_getD hj 0, List.filter_append]
    rw [h.get hj] at hp ⊢
    rw [List.getElem_set_self, List.filter_cons, hp]; rfl
  · rw [List.drop_set_of_lt (by have := h.lt; omega)]; exact drop_next h.bk
theorem DelI.skip {p : Int → Bool} {xs ys : List Int} {i j : Nat} (h : DelI p xs i j ys) (hj : j < xs.length) (hp : p (ys.getD j 0) = true) : DelI p xs i (j + 1) ys := by
  refine ⟨by have := h.lt; omega, hj, h.len, ?_, drop_next h.bk⟩
  rw [h.ft, take_succ_getD hj 0, List.filter_append]
  rw [h.get hj] at hp
  rw [List.filter_cons, hp]; simp
theorem DelI.done {p : Int → Bool} {xs ys : List Int} {i j : Nat} (h : DelI p xs i j ys) (hj : ¬ j < xs.length) : ys.take i = xs.filter (fun x => !p x) := by
  rw [h.ft, List.take_of_length_le (by omega)]
theorem idxF_some {p : Int → Bool} {xs : List Int} (h : ¬ idxF p xs = -1) : ∃ k : Nat, idxF p xs = (k : Int) ∧ k < xs.length ∧ p (xs.getD k 0) = true ∧ ∀ j, j < k → p (xs.getD j 0) = false := by
  unfold idxF at h ⊢
  by_cases h1 : xs.findIdx p < xs.length
  · rw [if_pos h1]
    refine ⟨_, rfl, h1, ?_, fun j hj => ?_⟩
    · have := List.findIdx_getElem (w := h1); simpa [List.getD, h1] using this
    · have hjl : j < xs.length := by omega
      have := List.not_of_lt_findIdx hj; simpa [List.getD, hjl] using this
  · rw [if_neg h1] at h; exact absurd rfl h
theorem idxF_noneI {p : Int → Bool} {xs : List Int} (h : idxF p xs = -1) : ∀ x ∈ xs, p x = false := by
  intro x hx
  have h1 := idxF_any p xs
  rw [h] at h1
  have h2 : xs.any p = false := h1.symm.trans (by decide)
  rw [List.any_eq_false] at h2
  simpa using h2 x hx
theorem DelI.start {p : Int → Bool} {xs : List Int} {k : Nat} (hk : k < xs.length) (hp : p (xs.getD k 0) = true) (ha : ∀ j, j < k → p (xs.getD j 0) = false) : DelI p xs k (k + 1) xs := by
  refine ⟨by omega, hk, rfl, ?_, rfl⟩
  rw [take_succ_getD hk 0, List.filter_append]
  simp only [List.filter_cons, hp, Bool.not_true, Bool.false_eq_true, if_false, List.filter_nil, List.append_nil]
  refine (List.filter_eq_self.2 fun x hx => ?_).symm
  obtain ⟨j, hj, rfl⟩ := List.mem_iff_getElem.1 hx
  simp only [List.length_take] at hj
  have := ha j (by omega)
  simp only [List.getElem_take]
  rw [List.getD_eq_getElem?_getD, List.getElem?_eq_getElem (by omega)] at this
  simpa using this
theorem filter_none {p : Int → Bool} {xs : List Int} (h : idxF p xs = -1) : xs.filter (fun x => !p x) = xs :=
  List.filter_eq_self.2 fun x hx => by rw [idxF_noneI h x hx]; rfl
/-- whom somebody would take -/
noncomputable def wantJ (n : Nat) (N : Nat) (E : Es) (ts : List Int) (r : Int) : Int := idxF (fun x => thB x n && reachB N E r x) ts
noncomputable def wantS (n : Nat) (N : Nat) (E : Es) (es : List (Int × Int)) (ts ids rs : List Int) (s : List (Int × Int) × List Int) (i : Nat) : List (Int × Int) × List Int :=
  if wantJ n N E ts (rs.getD i 0) ≥ 0 then
    (s.1 ++ [(ids.getD i 0, (es.getD (ts.getD (wantJ n N E ts (rs.getD i 0)).toNat 0).toNat (0, 0)).2)], s.2 ++ [ts.getD (wantJ n N E ts (rs.getD i 0)).toNat 0]) else s
noncomputable def wantN (n : Nat) (N : Nat) (E : Es) (es : List (Int × Int)) (ts ids rs : List Int) : Nat → List (Int × Int) × List Int
  | 0 => ([], [])
  | k + 1 => wantS n N E es ts ids rs (wantN n N E es ts ids rs k) k
theorem idxF_lt (p : Int → Bool) (xs : List Int) : idxF p xs < (xs.length : Int) ∧ -1 ≤ idxF p xs := by unfold idxF; split <;> omega
theorem wantJ_lt (n : Nat) (N : Nat) (E : Es) (ts : List Int) (r : Int) : wantJ n N E ts r < (ts.length : Int) := (idxF_lt _ ts).1
theorem wantJ_at {n : Nat} {N : Nat} {E : Es} {ts : List Int} {r : Int} (h : wantJ n N E ts r ≥ 0) : (thB (ts.getD (wantJ n N E ts r).toNat 0) n && reachB N E r (ts.getD (wantJ n N E ts r).toNat 0)) = true := by
  obtain ⟨k, hk, _, hp, _⟩ := idxF_some (p := fun x => thB x n && reachB N E r x) (xs := ts) (by have : wantJ n N E ts r = idxF (fun x => thB x n && reachB N E r x) ts := rfl; omega)
  have e : wantJ n N E ts r = (k : Int) := hk
  rw [e, Int.toNat_natCast]; exact hp
theorem wantJ_th {n : Nat} {N : Nat} {E : Es} {ts : List Int} {r : Int} (h : wantJ n N E ts r ≥ 0) : thB (ts.getD (wantJ n N E ts r).toNat 0) n = true := (Bool.and_eq_true _ _ ▸ wantJ_at h).1
theorem want_no {n N : Nat} {E : Es} {es ps : List (Int × Int)} {ts ids rs qs : List Int} {k : Nat} (hb : wantN n N E es ts ids rs k = (ps, qs)) (hj : ¬ wantJ n N E ts (rs.getD k 0) ≥ 0) : wantN n N E es ts ids rs (k + 1) = (ps, qs) := by
  show wantS n N E es ts ids rs (wantN n N E es ts ids rs k) k = _
  rw [hb]; unfold wantS; rw [if_neg hj]
theorem want_add {n N : Nat} {E : Es} {es ps : List (Int × Int)} {ts ids rs qs : List Int} {k : Nat} (hb : wantN n N E es ts ids rs k = (ps, qs)) (hj : wantJ n N E ts (rs.getD k 0) ≥ 0) :
    wantN n N E es ts ids rs (k + 1) = (ps ++ [(ids.getD k 0, (es.getD (ts.getD (wantJ n N E ts (rs.getD k 0)).toNat 0).toNat (0, 0)).2)], qs ++ [ts.getD (wantJ n N E ts (rs.getD k 0)).toNat 0]) := by
  show wantS n N E es ts ids rs (wantN n N E es ts ids rs k) k = _
  rw [hb]; unfold wantS; rw [if_pos hj]
theorem wantN_len (n : Nat) (N : Nat) (E : Es) (es : List (Int × Int)) (ts ids rs : List Int) : ∀ k, (wantN n N E es ts ids rs k).1.length = (wantN n N E es ts ids rs k).2.length ∧ (wantN n N E es ts ids rs k).2.length ≤ k
  | 0 => ⟨rfl, Nat.le_refl _⟩
  | k + 1 => by
    have := wantN_len n N E es ts ids rs k
    show (wantS _ _ _ _ _ _ _ _ k).1.length = (wantS _ _ _ _ _ _ _ _ k).2.length ∧ (wantS _ _ _ _ _ _ _ _ k).2.length ≤ k + 1
    unfold wantS
    split
    · simp; omega
    · omega
theorem rE01 : reachB 3 ([(0, 1)] : Es) 0 1 = true := by
  unfold reachB; rw [show valid 3 0 = true from rfl, show valid 3 1 = true from rfl]; simp only [Bool.true_and]; exact rch_iff.2 (Rch.refl.step (by decide))
theorem rE2 (x : Int) (hx : x = 0 ∨ x = 1) : reachB 3 ([(0, 1)] : Es) 2 x = false := by
  rw [Bool.eq_false_iff]; intro h
  unfold reachB at h; rw [Bool.and_eq_true] at h
  have h2 := (rch_iff.1 h.2).closed (fun y => decide (y = 2)) rfl (by decide)
  have h3 := of_decide_eq_true h2
  omega
theorem shown_w : wantN 2 3 ([(0, 1)] : Es) [(4, 9), (2, 8)] [1, 0] [6, 7] [0, 2] 2 = ([(6, 8)], [1]) := by
  have h0 : wantJ 2 3 ([(0, 1)] : Es) [1, 0] 0 = 0 := idxF_at (k := 0) (by decide) (by show (thB 1 2 && reachB 3 ([(0, 1)] : Es) 0 1) = true; rw [rE01]; rfl) (fun j hj => by omega)
  have h2 : wantJ 2 3 ([(0, 1)] : Es) [1, 0] 2 = -1 := idxF_none (fun j hj => by
    have : j = 0 ∨ j = 1 := by have : j < 2 := hj; omega
    rcases this with rfl | rfl
    · show (thB 1 2 && reachB 3 ([(0, 1)] : Es) 2 1) = false; rw [rE2 1 (.inr rfl)]; rfl
    · show (thB 0 2 && reachB 3 ([(0, 1)] : Es) 2 0) = false; rw [rE2 0 (.inl rfl)]; rfl)
  have s1 : wantN 2 3 ([(0, 1)] : Es) [(4, 9), (2, 8)] [1, 0] [6, 7] [0, 2] 1 = ([(6, 8)], [1]) := by
    have h0' : wantJ 2 3 ([(0, 1)] : Es) [1, 0] (([0, 2] : List Int).getD 0 0) = 0 := h0
    rw [want_add (k := 0) rfl (by rw [h0']; decide)]; rw [h0']; rfl
  have h2' : wantJ 2 3 ([(0, 1)] : Es) [1, 0] (([0, 2] : List Int).getD 1 0) = -1 := h2
  exact want_no s1 (by rw [h2']; decide)
theorem shown_w1 : (wantN 2 3 ([(0, 1)] : Es) [(4, 9), (2, 8)] [1, 0] [6, 7] [0, 2] 2).1 = [(6, 8)] := by rw [shown_w]
theorem shown_w2 : (wantN 2 3 ([(0, 1)] : Es) [(4, 9), (2, 8)] [1, 0] [6, 7] [0, 2] 2).2 = [1] := by rw [shown_w]
end Go.Proofs.YtlkcgpcgnhdnmaaDoor.Sp
