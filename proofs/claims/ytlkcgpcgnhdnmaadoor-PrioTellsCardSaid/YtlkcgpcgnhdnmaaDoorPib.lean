/- What is best: the law's plain facts. No program in it. -/
import Derived.Test.YtlkcgpcgnhdnmaaDoorPik
set_option linter.unusedVariables false
set_option linter.unusedSimpArgs false
namespace Go.Proofs.YtlkcgpcgnhdnmaaDoor.Sp
open Go
theorem getD_mem {l : List Int} {i : Nat} (h : i < l.length) : l.getD i 0 ∈ l := by simp [List.getD, h]
theorem best_at {u v : List Int} {m : Nat} {p : Int} {L : List Int} (h : BestI u v m p L) {i : Nat} (hi : i < L.length) : ∃ t : Nat, L.getD i 0 = (t : Int) ∧ t < m ∧ mayB u v t ∧ v.getD t 0 = p := (h.mem _).1 (getD_mem hi)
theorem best_up {u v : List Int} {m : Nat} {p : Int} {L : List Int} (h : BestI u v m p L) {i : Nat} (h0 : 0 < i) (hi : i < L.length) : L.getD (i - 1) 0 < L.getD i 0 := by
  have := List.pairwise_iff_getElem.1 h.up (i - 1) i (by omega) hi (by omega)
  simpa [List.getD, hi, show i - 1 < L.length by omega] using this
/-- which are marked, behind the first ones -/
structure Mk (L : List Int) (i : Nat) (bs : List Bool) : Prop where
  len : bs.length = 60
  at_ : ∀ t : Nat, bs.getD t false = true ↔ ∃ j, j < i ∧ L.getD j 0 = (t : Int) ∧ t < 60
theorem rep_getD (n t : Nat) : (List.replicate n false).getD t false = false := by
  rw [List.getD_eq_getElem?_getD, List.getElem?_replicate]; split <;> rfl
theorem Mk.zero (L : List Int) : Mk L 0 (List.replicate 60 false) := ⟨List.length_replicate, fun t => ⟨fun h => (by rw [rep_getD] at h; cases h), fun ⟨j, hj, _⟩ => by omega⟩⟩
theorem Mk.next {L : List Int} {i : Nat} {bs : List Bool} (h : Mk L i bs) (h0 : 0 ≤ L.getD i 0) (h1 : L.getD i 0 < 60) : Mk L (i + 1) (bs.set (L.getD i 0).toNat true) := by
  have hl := h.len
  refine ⟨by rw [List.length_set]; exact hl, fun t => ?_⟩
  by_cases e : (L.getD i 0).toNat = t
  · constructor
    · intro _; exact ⟨i, by omega, by omega, by omega⟩
    · intro _; rw [List.getD_eq_getElem?_getD, List.getElem?_set, if_pos e, if_pos (by omega)]; rfl
  · rw [List.getD_eq_getElem?_getD, List.getElem?_set, if_neg e, ← List.getD_eq_getElem?_getD, h.at_]
    constructor
    · rintro ⟨j, hj, h2⟩; exact ⟨j, by omega, h2⟩
    · rintro ⟨j, hj, h2, h3⟩
      by_cases e2 : j = i
      · subst e2; omega
      · exact ⟨j, by omega, h2, h3⟩
theorem mk_mem {u v : List Int} {m : Nat} {p : Int} {L : List Int} {bs : List Bool} {i t : Nat} (h : Mk L i bs) (hi : ¬ i < L.length) (hi2 : i ≤ L.length) (hB : BestI u v m p L) (ht : t < m) (ht2 : t < 60) : bs.getD t false = true ↔ mayB u v t ∧ v.getD t 0 = p := by
  rw [h.at_]
  constructor
  · rintro ⟨j, hj, h2, _⟩
    obtain ⟨t2, e, _, h3, h4⟩ := best_at hB (show j < L.length by omega)
    have : t2 = t := by omega
    subst this; exact ⟨h3, h4⟩
  · rintro ⟨h1, h2⟩
    have hm : (t : Int) ∈ L := (hB.mem _).2 ⟨t, rfl, ht, h1, h2⟩
    obtain ⟨j, hj, e⟩ := List.mem_iff_getElem.1 hm
    exact ⟨j, by omega, by simp [List.getD, hj, e], ht2⟩
theorem mk_yes {u v : List Int} {m : Nat} {p : Int} {L : List Int} {bs : List Bool} {i t : Nat} (h : Mk L i bs) (hi : ¬ i < L.length) (hi2 : i ≤ L.length) (hB : BestI u v m p L) (ht : t < m) (ht2 : t < 60) (hs : u.getD t 0 = 1) (hv : decide (v.getD t 0 ≥ 0) = true) : (bs.getD t false != (v.getD t 0 == p)) = false := by
  have h1 := mk_mem h hi hi2 hB ht ht2
  have h2 : mayB u v t := ⟨hs, of_decide_eq_true hv⟩
  rw [bne_eq_false_iff_eq, Bool.eq_iff_iff, h1, beq_iff_eq]
  exact ⟨fun x => x.2, fun x => ⟨h2, x⟩⟩
theorem mk_no {u v : List Int} {m : Nat} {p : Int} {L : List Int} {bs : List Bool} {i t : Nat} (h : Mk L i bs) (hi : ¬ i < L.length) (hi2 : i ≤ L.length) (hB : BestI u v m p L) (ht : t < m) (ht2 : t < 60) (hs : ¬ (u.getD t 0 = 1 ∧ v.getD t 0 ≥ 0)) : (bs.getD t false != false) = false := by
  have h1 := mk_mem h hi hi2 hB ht ht2
  rw [bne_eq_false_iff_eq, Bool.eq_false_iff]
  intro hh
  exact hs (h1.1 hh).1
theorem best_end {u v : List Int} {m : Nat} {p : Int} {L : List Int} (hB : BestI u v m p L) : (decide (((L.length : Nat) : Int) > 0) == decide (p ≥ 0)) = true := by
  rw [beq_iff_eq, decide_eq_decide]
  constructor
  · intro h
    obtain ⟨t, _, _, h3, h4⟩ := best_at hB (show 0 < L.length by omega)
    have := h3.2; omega
  · intro h
    by_cases e : L = []
    · have := hB.ne e; omega
    · have := List.length_pos_iff.2 e; omega
theorem fit_eq {n : Nat} {es : List (Int × Int)} {room x : Int} (h1 : x ≥ 0) (h2 : decide (x < (n : Int)) = true) : fitB n es room x = decide ((es.getD x.toNat (0, 0)).1 ≤ room) := by
  unfold fitB thB; rw [decide_eq_true h1, h2]; rfl
theorem fit_no1 {n : Nat} {es : List (Int × Int)} {room x : Int} (h1 : ¬ x ≥ 0) : fitB n es room x = false := by
  unfold fitB thB; rw [decide_eq_false h1]; rfl
theorem fit_no2 {n : Nat} {es : List (Int × Int)} {room x : Int} (h2 : decide (x < (n : Int)) = false) : fitB n es room x = false := by
  unfold fitB thB; rw [h2, Bool.and_false]; rfl
theorem cnt_succ {f : Int → Bool} {us : List Int} {i : Nat} (h : i < us.length) : ((us.take (i + 1)).filter f).length = ((us.take i).filter f).length + (if f (us.getD i 0) = true then 1 else 0) := by
  rw [take_succ_getD h 0, List.filter_append, List.length_append, List.filter_cons]
  split <;> simp
theorem filt_split {f : Int → Bool} {us : List Int} {i : Nat} (h : i < us.length) (hf : f (us.getD i 0) = true) : us.filter f = (us.take i).filter f ++ us.getD i 0 :: (us.drop (i + 1)).filter f := by
  have e : us = us.take i ++ us.getD i 0 :: us.drop (i + 1) := by
    have h1 := List.take_append_drop i us
    rw [List.drop_eq_getElem_cons h] at h1
    have h2 : us.getD i 0 = us[i] := by simp [List.getD, h]
    rw [h2]; exact h1.symm
  have h3 := congrArg (List.filter f) e
  rw [List.filter_append, List.filter_cons, hf] at h3
  simpa using h3
theorem filt_lt {f : Int → Bool} {us : List Int} {i : Nat} (h : i < us.length) (hf : f (us.getD i 0) = true) : ((us.take i).filter f).length < (us.filter f).length := by
  rw [filt_split h hf, List.length_append, List.length_cons]; omega
theorem filt_at {f : Int → Bool} {us : List Int} {i : Nat} (h : i < us.length) (hf : f (us.getD i 0) = true) : (us.filter f).getD ((us.take i).filter f).length 0 = us.getD i 0 := by
  rw [filt_split h hf, List.getD_eq_getElem?_getD, List.getElem?_append_right (Nat.le_refl _), Nat.sub_self]; rfl
theorem filt_mono {f g : Int → Bool} (h : ∀ x, f x = true → g x = true) : ∀ us : List Int, (us.filter f).length ≤ (us.filter g).length
  | [] => Nat.le_refl _
  | x :: us => by
    have ih := filt_mono h us
    rw [List.filter_cons, List.filter_cons]
    cases hf : f x with
    | true => rw [h x hf]; simp; exact ih
    | false => cases hg : g x <;> simp <;> omega
theorem fit_mono {n : Nat} {es : List (Int × Int)} {a b : Int} (x : Int) (h : fitB n es (min a b) x = true) : fitB n es (max a b) x = true := by
  unfold fitB at h ⊢
  rw [Bool.and_eq_true] at h ⊢
  refine ⟨h.1, decide_eq_true ?_⟩
  have := of_decide_eq_true h.2
  omega
def lowF (x : Int) : Int := x % 65536 % 1001
theorem lowF_bd (x : Int) : 0 ≤ lowF x ∧ lowF x ≤ 1000 := by unfold lowF; omega
def highF (d x : Int) : Int := 2 * lowF x + d
theorem map_snoc {f : Int → Int} {ys : List Int} {i : Nat} (h : i < ys.length) : (ys.take i).map f ++ [f (ys.getD i 0)] = (ys.take (i + 1)).map f := by
  rw [take_succ_getD h 0, List.map_append]; rfl
theorem map_getD {f : Int → Int} {ys : List Int} {i : Nat} (h : i < ys.length) : (ys.map f).getD i 0 = f (ys.getD i 0) := by
  simp [List.getD, h]
theorem best_moved (u : List Int) (ys : List Int) (d : Int) (hd : 0 ≤ d) : ∀ k, k ≤ ys.length →
    (bestN u (ys.map (highF d)) k).2 = (bestN u (ys.map lowF) k).2 ∧
    (((bestN u (ys.map lowF) k).2 = [] ∧ (bestN u (ys.map lowF) k).1 = -1 ∧ (bestN u (ys.map (highF d)) k).1 = -1) ∨
     ((bestN u (ys.map lowF) k).2 ≠ [] ∧ 0 ≤ (bestN u (ys.map lowF) k).1 ∧ (bestN u (ys.map (highF d)) k).1 = 2 * (bestN u (ys.map lowF) k).1 + d))
  | 0, _ => ⟨rfl, .inl ⟨rfl, rfl, rfl⟩⟩
  | k + 1, hk => by
    obtain ⟨ih1, ih2⟩ := best_moved u ys d hd k (by omega)
    have g1 : (ys.map lowF).getD k 0 = lowF (ys.getD k 0) := map_getD (by omega)
    have g2 : (ys.map (highF d)).getD k 0 = 2 * lowF (ys.getD k 0) + d := map_getD (by omega)
    have hb := lowF_bd (ys.getD k 0)
    obtain ⟨p, l, h1⟩ : ∃ p l, bestN u (ys.map lowF) k = (p, l) := ⟨_, _, rfl⟩
    obtain ⟨q, l2, h2⟩ : ∃ p l, bestN u (ys.map (highF d)) k = (p, l) := ⟨_, _, rfl⟩
    rw [h1, h2] at ih1 ih2
    dsimp only at ih1 ih2
    subst ih1
    by_cases hs : u.getD k 0 = 1
    · by_cases h3 : (ys.map lowF).getD k 0 < max p 0
      · have h4 : (ys.map (highF d)).getD k 0 < max q 0 := by rw [g1] at h3; rw [g2]; rcases ih2 with ⟨_, e1, e2⟩ | ⟨_, e1, e2⟩ <;> omega
        rw [best_no h1 (fun hh => hh.2 h3), best_no h2 (fun hh => hh.2 h4)]; exact ⟨rfl, ih2⟩
      · have h4 : ¬ (ys.map (highF d)).getD k 0 < max q 0 := by rw [g1] at h3; rw [g2]; rcases ih2 with ⟨_, e1, e2⟩ | ⟨_, e1, e2⟩ <;> omega
        by_cases h5 : (ys.map lowF).getD k 0 > p
        · have h6 : (ys.map (highF d)).getD k 0 > q := by rw [g1] at h5; rw [g2]; rcases ih2 with ⟨_, e1, e2⟩ | ⟨_, e1, e2⟩ <;> omega
          rw [best_new h1 hs h3 h5, best_new h2 hs h4 h6]
          exact ⟨rfl, .inr ⟨by simp, by rw [g1]; omega, by rw [g1, g2]⟩⟩
        · have h6 : ¬ (ys.map (highF d)).getD k 0 > q := by rw [g1] at h5; rw [g2]; rcases ih2 with ⟨_, e1, e2⟩ | ⟨_, e1, e2⟩ <;> omega
          rw [best_add h1 hs h3 h5, best_add h2 hs h4 h6]
          refine ⟨rfl, .inr ⟨by simp, ?_⟩⟩
          rw [g1] at h5
          rcases ih2 with ⟨_, e1, e2⟩ | ⟨_, e1, e2⟩
          · omega
          · exact ⟨e1, e2⟩
    · rw [best_no h1 (fun hh => hs hh.1), best_no h2 (fun hh => hs hh.1)]; exact ⟨rfl, ih2⟩
theorem moved_in {u ys L : List Int} {m : Nat} {p0 q0 d : Int} (hB : BestI u (ys.map lowF) m p0 L) (hml : m ≤ ys.length) (h : (L = [] ∧ p0 = -1 ∧ q0 = -1) ∨ (L ≠ [] ∧ 0 ≤ p0 ∧ q0 = 2 * p0 + d)) :
    (L.length = 0 → p0 = -1 ∧ q0 = -1) ∧ (¬ L.length = 0 → q0 = 2 * p0 + d ∧ 0 ≤ p0 ∧ p0 ≤ 1000 ∧ ∃ t : Nat, L.getD 0 0 = (t : Int) ∧ t < m ∧ u.getD t 0 = 1) := by
  refine ⟨fun e => ?_, fun e => ?_⟩
  · rcases h with h | h
    · exact h.2
    · exact absurd (List.eq_nil_of_length_eq_zero e) h.1
  · obtain ⟨t, h1, h2, h3, h4⟩ := best_at hB (show 0 < L.length by omega)
    have h5 : p0 ≤ 1000 := by rw [← h4, map_getD (by omega)]; exact (lowF_bd _).2
    rcases h with h | h
    · exact absurd (by rw [h.1]; rfl) e
    · exact ⟨h.2.2, h.2.1, h5, t, h1, h2, h3.1⟩
theorem and_1023 (n : Int) : bAnd .i64 n 1023 = n % 1024 := and_pow 10 (by omega) n
/-- the first one so far -/
def FirstI (p : Int → Bool) (tl : List Int) (j : Nat) (v : Int) : Prop :=
  (v = -1 ∧ ∀ i, i < j → p (tl.getD i 0) = false) ∨ (∃ q, q < j ∧ q < tl.length ∧ p (tl.getD q 0) = true ∧ (∀ i, i < q → p (tl.getD i 0) = false) ∧ v = tl.getD q 0 ∧ 0 ≤ v)
theorem first_keep {p : Int → Bool} {tl : List Int} {j : Nat} {v : Int} (h : FirstI p tl j v) (hv : ¬ v < 0) : FirstI p tl (j + 1) v := by
  rcases h with ⟨e, _⟩ | ⟨q, h1, h2⟩
  · omega
  · exact .inr ⟨q, by omega, h2⟩
theorem first_no {p : Int → Bool} {tl : List Int} {j : Nat} {v : Int} (h : FirstI p tl j v) (hp : p (tl.getD j 0) = false) : FirstI p tl (j + 1) v := by
  rcases h with ⟨e, h1⟩ | ⟨q, h1, h2⟩
  · refine .inl ⟨e, fun i hi => ?_⟩
    by_cases e2 : i = j
    · rw [e2]; exact hp
    · exact h1 i (by omega)
  · exact .inr ⟨q, by omega, h2⟩
theorem first_new {p : Int → Bool} {tl : List Int} {j : Nat} {v : Int} (h : FirstI p tl j v) (hv : v < 0) (hj : j < tl.length) (hp : p (tl.getD j 0) = true) (h0 : 0 ≤ tl.getD j 0) : FirstI p tl (j + 1) (tl.getD j 0) := by
  rcases h with ⟨e, h1⟩ | ⟨q, h1, h2, h3, h4, h5, h6⟩
  · exact .inr ⟨j, by omega, hj, hp, h1, rfl, h0⟩
  · omega
theorem first_zero (p : Int → Bool) (tl : List Int) : FirstI p tl 0 (-1) := .inl ⟨rfl, fun i hi => by omega⟩
noncomputable def wp (n N : Nat) (E : Es) (r : Int) (x : Int) : Bool := thB x n && reachB N E r x
theorem wp_1 {n N : Nat} {E : Es} {r x : Int} (h : ¬ x ≥ 0) : wp n N E r x = false := by unfold wp thB; rw [decide_eq_false h]; rfl
theorem wp_2 {n N : Nat} {E : Es} {r x : Int} (h : ¬ x < (n : Int)) : wp n N E r x = false := by unfold wp thB; rw [decide_eq_false h, Bool.and_false]; rfl
theorem wp_3 {n N : Nat} {E : Es} {r x : Int} (h : reachB N E r x = false) : wp n N E r x = false := by unfold wp; rw [h, Bool.and_false]
theorem wp_4 {n N : Nat} {E : Es} {r x : Int} (h1 : x ≥ 0) (h2 : x < (n : Int)) (h : reachB N E r x = true) : wp n N E r x = true := by unfold wp thB; rw [decide_eq_true h1, decide_eq_true h2, h]; rfl
theorem first_end {n N : Nat} {E : Es} {r : Int} {tl : List Int} {j : Nat} {v : Int} (h : FirstI (wp n N E r) tl j v) (hj : j = tl.length) :
    (v < 0 → ¬ wantJ n N E tl r ≥ 0) ∧ (¬ v < 0 → wantJ n N E tl r ≥ 0 ∧ tl.getD (wantJ n N E tl r).toNat 0 = v ∧ thB v n = true) := by
  have e : wantJ n N E tl r = idxF (wp n N E r) tl := rfl
  rcases h with ⟨e1, h1⟩ | ⟨q, h1, h2, h3, h4, h5, h6⟩
  · refine ⟨fun _ => ?_, fun hv => by omega⟩
    rw [e, idxF_none (fun i hi => h1 i (by omega))]; decide
  · refine ⟨fun hv => by omega, fun _ => ?_⟩
    have h7 : wantJ n N E tl r = (q : Int) := by rw [e]; exact idxF_at h2 h3 h4
    rw [h7, Int.toNat_natCast]
    refine ⟨by omega, h5.symm, ?_⟩
    have h8 := h3; unfold wp at h8; rw [Bool.and_eq_true] at h8
    rw [h5]; exact h8.1
theorem want_pre {n N : Nat} {E : Es} {es : List (Int × Int)} {tl ids rs : List Int} {i : Nat} : ∀ d, ∃ A B, (wantN n N E es tl ids rs (i + d)).1 = (wantN n N E es tl ids rs i).1 ++ A ∧ (wantN n N E es tl ids rs (i + d)).2 = (wantN n N E es tl ids rs i).2 ++ B
  | 0 => ⟨[], [], by simp, by simp⟩
  | d + 1 => by
    obtain ⟨A, B, h1, h2⟩ := want_pre (n := n) (N := N) (E := E) (es := es) (tl := tl) (ids := ids) (rs := rs) (i := i) d
    show ∃ A B, (wantS n N E es tl ids rs (wantN n N E es tl ids rs (i + d)) (i + d)).1 = _ ++ A ∧ (wantS n N E es tl ids rs (wantN n N E es tl ids rs (i + d)) (i + d)).2 = _ ++ B
    unfold wantS
    split
    · rw [h1, h2]; exact ⟨A ++ _, B ++ _, List.append_assoc _ _ _, List.append_assoc _ _ _⟩
    · exact ⟨A, B, h1, h2⟩
theorem want_at {n N : Nat} {E : Es} {es : List (Int × Int)} {tl ids rs : List Int} {i m : Nat} (hi : i < m) (hj : wantJ n N E tl (rs.getD i 0) ≥ 0) {v : Int} (hv : tl.getD (wantJ n N E tl (rs.getD i 0)).toNat 0 = v) :
    (wantN n N E es tl ids rs i).2.length < (wantN n N E es tl ids rs m).1.length ∧ (wantN n N E es tl ids rs i).2.length < (wantN n N E es tl ids rs m).2.length ∧ (wantN n N E es tl ids rs m).2.getD (wantN n N E es tl ids rs i).2.length 0 = v ∧
    (wantN n N E es tl ids rs m).1.getD (wantN n N E es tl ids rs i).2.length (0, 0) = (ids.getD i 0, (es.getD v.toNat (0, 0)).2) := by
  obtain ⟨A, B, h1, h2⟩ := want_pre (n := n) (N := N) (E := E) (es := es) (tl := tl) (ids := ids) (rs := rs) (i := i + 1) (m - (i + 1))
  rw [show i + 1 + (m - (i + 1)) = m by omega] at h1 h2
  obtain ⟨ps, qs, hb⟩ : ∃ ps qs, wantN n N E es tl ids rs i = (ps, qs) := ⟨_, _, rfl⟩
  have hl := (wantN_len n N E es tl ids rs i).1
  have hs := want_add hb hj
  rw [hv] at hs
  rw [hs] at h1 h2
  rw [hb] at hl ⊢
  dsimp only at h1 h2 hl ⊢
  rw [h1, h2, List.append_assoc, List.append_assoc]
  refine ⟨by rw [List.length_append, List.length_append, List.length_singleton]; omega, by rw [List.length_append, List.length_append, List.length_singleton]; omega, ?_, ?_⟩
  · rw [List.getD_eq_getElem?_getD, List.getElem?_append_right (Nat.le_refl _), Nat.sub_self]; rfl
  · rw [List.getD_eq_getElem?_getD, ← hl, List.getElem?_append_right (Nat.le_refl _), Nat.sub_self]; rfl
theorem want_stepno {n N : Nat} {E : Es} {es : List (Int × Int)} {tl ids rs : List Int} {i : Nat} (hj : ¬ wantJ n N E tl (rs.getD i 0) ≥ 0) : (wantN n N E es tl ids rs (i + 1)).2.length = (wantN n N E es tl ids rs i).2.length := by
  rw [want_no (ps := (wantN n N E es tl ids rs i).1) (qs := (wantN n N E es tl ids rs i).2) rfl hj]
theorem want_stepyes {n N : Nat} {E : Es} {es : List (Int × Int)} {tl ids rs : List Int} {i : Nat} (hj : wantJ n N E tl (rs.getD i 0) ≥ 0) : (wantN n N E es tl ids rs (i + 1)).2.length = (wantN n N E es tl ids rs i).2.length + 1 := by
  rw [want_add (ps := (wantN n N E es tl ids rs i).1) (qs := (wantN n N E es tl ids rs i).2) rfl hj]; simp
theorem filt_yes {f : Int → Bool} {us : List Int} {i : Nat} (h : i < us.length) (hf : f (us.getD i 0) = true) : (us.take (i + 1)).filter f = (us.take i).filter f ++ [us.getD i 0] := by
  rw [take_succ_getD h 0, List.filter_append, List.filter_cons, hf]; rfl
theorem filt_no {f : Int → Bool} {us : List Int} {i : Nat} (h : i < us.length) (hf : f (us.getD i 0) = false) : (us.take (i + 1)).filter f = (us.take i).filter f := by
  rw [take_succ_getD h 0, List.filter_append, List.filter_cons, hf]; simp
theorem fit_t {n : Nat} {es : List (Int × Int)} {room x : Int} (h1 : x ≥ 0) (h2 : x < (n : Int)) (h3 : (es.getD x.toNat (0, 0)).1 ≤ room) : fitB n es room x = true := by
  unfold fitB thB; rw [decide_eq_true h1, decide_eq_true h2, decide_eq_true h3]; rfl
theorem fit_f2 {n : Nat} {es : List (Int × Int)} {room x : Int} (h2 : ¬ x < (n : Int)) : fitB n es room x = false := by
  unfold fitB thB; rw [decide_eq_false h2, Bool.and_false]; rfl
theorem fit_f3 {n : Nat} {es : List (Int × Int)} {room x : Int} (h3 : ¬ (es.getD x.toNat (0, 0)).1 ≤ room) : fitB n es room x = false := by
  unfold fitB; rw [decide_eq_false h3, Bool.and_false]
theorem take_filt_le {f : Int → Bool} {us : List Int} {i : Nat} : ((us.take i).filter f).length ≤ i := Nat.le_trans (List.length_filter_le _ _) (by rw [List.length_take]; omega)
end Go.Proofs.YtlkcgpcgnhdnmaaDoor.Sp
