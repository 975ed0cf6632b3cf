/- Heaps: a row of pairs in the order in which they came says what the keys say. No program in it. -/
import Derived.Test.YtchnphachgcjmaaHpl2
set_option linter.unusedVariables false
set_option linter.unusedSimpArgs false
namespace Go.Proofs.Ytchnphachgcjmaa.Sp
open Go
abbrev PE := List (Int × Int)
structure PRow (es : PE) (ks : Ks) : Prop where
  nd : (es.map Prod.fst).Nodup
  mem : ∀ (x k : Int), (x, k) ∈ es ↔ (0 ≤ x ∧ ks.getD x.toNat none = some k)
theorem at_mem {es : PE} {k : Nat} (h : k < es.length) : ((es.getD k (0, 0)).1, (es.getD k (0, 0)).2) ∈ es := by
  have : es.getD k (0, 0) = es[k] := by simp [List.getD, h]
  rw [this]; exact List.getElem_mem h
theorem idx_inj {es : PE} (h : (es.map Prod.fst).Nodup) : ∀ i j, i < es.length → j < es.length → i ≠ j → ¬ (es.getD i (0, 0)).1 = (es.getD j (0, 0)).1 := fun i j hi hj hn e => by
  have e1 : es.getD i (0, 0) = es[i] := by simp [List.getD, hi]
  have e2 : es.getD j (0, 0) = es[j] := by simp [List.getD, hj]
  rw [e1, e2] at e
  have hp := List.pairwise_iff_getElem.1 (List.nodup_iff_pairwise_ne.1 h)
  rcases Nat.lt_or_ge i j with q | q
  · have := hp i j (by simpa using hi) (by simpa using hj) q
    simp only [List.getElem_map] at this; exact this e
  · have := hp j i (by simpa using hj) (by simpa using hi) (by omega)
    simp only [List.getElem_map] at this; exact this e.symm
theorem PRow.nil (n : Nat) : PRow [] (List.replicate n none) := by
  refine ⟨by simp, fun x k => ?_⟩
  rw [cnt_zero (cnt_rep n)]
  constructor
  · intro h; cases h
  · intro h; cases h.2
theorem PRow.has {es : PE} {ks : Ks} (h : PRow es ks) {x : Int} (hx : hasK ks x = true) : ∃ k, k < es.length ∧ (es.getD k (0, 0)).1 = x ∧ (∀ j, j < k → ¬ (es.getD j (0, 0)).1 = x) ∧ (es.getD k (0, 0)).2 = keyK ks x := by
  have hk := has_key hx
  have hm := (h.mem x (keyK ks x)).2 hk
  obtain ⟨k, hl, e⟩ := List.getElem_of_mem hm
  have e1 : es.getD k (0, 0) = es[k] := by simp [List.getD, hl]
  refine ⟨k, hl, by rw [e1, e], fun j hj e' => ?_, by rw [e1, e]⟩
  exact idx_inj h.nd j k (by omega) hl (by omega) (by rw [e', e1, e])
theorem PRow.hasnt {es : PE} {ks : Ks} (h : PRow es ks) {x : Int} (hx : hasK ks x = false) : ∀ j, j < es.length → ¬ (es.getD j (0, 0)).1 = x := fun j hj e => by
  have hm := (h.mem _ _).1 (at_mem hj)
  rw [e] at hm
  rw [(has_of hm.1 hm.2).1] at hx; cases hx
theorem PRow.erase {es : PE} {ks : Ks} (h : PRow es ks) {k : Nat} (hk : k < es.length) : PRow (es.eraseIdx k) (ks.set (es.getD k (0, 0)).1.toNat none) := by
  have hm := (h.mem _ _).1 (at_mem hk)
  have hl := getD_some_lt hm.2
  refine ⟨h.nd.sublist ((List.eraseIdx_sublist es k).map _), fun x y => ?_⟩
  rw [List.mem_eraseIdx_iff_getElem, setK hl]
  constructor
  · rintro ⟨i, hi, hne, e⟩
    have hx := (h.mem x y).1 (e ▸ List.getElem_mem hi)
    have : x ≠ (es.getD k (0, 0)).1 := fun e' => by
      refine idx_inj h.nd i k hi hk hne ?_
      rw [show es.getD i (0, 0) = es[i] by simp [List.getD, hi], e]; exact e'
    refine ⟨hx.1, ?_⟩
    rw [if_neg (by omega)]; exact hx.2
  · rintro ⟨h0, e⟩
    by_cases q : x.toNat = (es.getD k (0, 0)).1.toNat
    · rw [if_pos q] at e; cases e
    · rw [if_neg q] at e
      obtain ⟨i, hi, e'⟩ := List.getElem_of_mem ((h.mem x y).2 ⟨h0, e⟩)
      refine ⟨i, hi, fun q' => ?_, e'⟩
      subst q'
      rw [show es.getD i (0, 0) = es[i] by simp [List.getD, hi], e'] at q; exact q rfl
theorem PRow.len : ∀ {es : PE} {ks : Ks}, PRow es ks → es.length = cntK ks
  | [], ks, h => by
    have : cntK ks = 0 := by
      rcases Nat.eq_zero_or_pos (cntK ks) with q | q
      · exact q
      · obtain ⟨i, k, hm⟩ := fst_some q
        have := (h.mem i k).2 ⟨by omega, by rw [Int.toNat_natCast]; exact hm.at_⟩
        cases this
    rw [this]; rfl
  | e :: es, ks, h => by
    have h0 := h.erase (k := 0) (by simp)
    have hm := (h.mem _ _).1 (at_mem (es := e :: es) (k := 0) (by simp))
    have hc := cnt_none hm.2
    have := PRow.len (es := es) h0
    rw [List.length_cons, this]; exact hc
theorem PRow.le {es : PE} {ks : Ks} (h : PRow es ks) : es.length ≤ ks.length := by
  rw [h.len]; unfold cntK; exact List.length_filter_le _ _
theorem not_known {ks : Ks} {x : Int} (hx : ¬ (0 ≤ x ∧ x < (ks.length : Int))) : known ks.length x = false ∧ hasK ks x = false ∧ keyK ks x = 0 ∧ remK ks x = ks := by
  have hn : hasK ks x = false := by
    cases h : hasK ks x with
    | false => rfl
    | true => have hk := has_key h; have := getD_some_lt hk.2; exact absurd ⟨hk.1, by omega⟩ hx
  refine ⟨?_, hn, by unfold keyK; rw [hn]; rfl, by unfold remK; rw [hn]; rfl⟩
  cases h : known ks.length x with
  | false => rfl
  | true => exact absurd (known_iff.1 h) hx
theorem not_has {ks : Ks} {x : Int} (hn : hasK ks x = false) : keyK ks x = 0 ∧ remK ks x = ks := ⟨by unfold keyK; rw [hn]; rfl, by unfold remK; rw [hn]; rfl⟩
theorem push1 {ks : Ks} {x : Int} (hx : ¬ (0 ≤ x ∧ x < (ks.length : Int))) (t : Int) : pushE ks x = 1 ∧ pushK ks x t = ks ∧ lowE ks x t = 1 ∧ lowK ks x t = ks ∧ remE ks x = 1 := by
  have h := (not_known hx).1
  have e1 : pushE ks x = 1 := by unfold pushE; rw [h]; rfl
  have e2 : lowE ks x t = 1 := by unfold lowE; rw [h]; rfl
  exact ⟨e1, by unfold pushK; rw [e1]; rfl, e2, by unfold lowK; rw [e2]; rfl, by unfold remE; rw [h]; rfl⟩
theorem push8 {ks : Ks} {x : Int} (hx : 0 ≤ x ∧ x < (ks.length : Int)) (hh : hasK ks x = true) (t : Int) : pushE ks x = 8 ∧ pushK ks x t = ks := by
  have e1 : pushE ks x = 8 := by unfold pushE; rw [known_iff.2 hx, hh]; rfl
  exact ⟨e1, by unfold pushK; rw [e1]; rfl⟩
theorem push0 {ks : Ks} {x : Int} (hx : 0 ≤ x ∧ x < (ks.length : Int)) (hh : hasK ks x = false) (t : Int) : pushE ks x = 0 ∧ pushK ks x t = ks.set x.toNat (some t) := by
  have e1 : pushE ks x = 0 := by unfold pushE; rw [known_iff.2 hx, hh]; rfl
  exact ⟨e1, by unfold pushK; rw [e1]; rfl⟩
theorem low6 {ks : Ks} {x : Int} (hx : 0 ≤ x ∧ x < (ks.length : Int)) (hh : hasK ks x = false) (t : Int) : lowE ks x t = 6 ∧ lowK ks x t = ks ∧ remE ks x = 6 := by
  have e1 : lowE ks x t = 6 := by unfold lowE; rw [known_iff.2 hx, hh]; rfl
  exact ⟨e1, by unfold lowK; rw [e1]; rfl, by unfold remE; rw [known_iff.2 hx, hh]; rfl⟩
theorem low3 {ks : Ks} {x : Int} (hx : 0 ≤ x ∧ x < (ks.length : Int)) (hh : hasK ks x = true) {t : Int} (ht : t > keyK ks x) : lowE ks x t = 3 ∧ lowK ks x t = ks := by
  have e1 : lowE ks x t = 3 := by unfold lowE; rw [known_iff.2 hx, hh, decide_eq_true ht]; rfl
  exact ⟨e1, by unfold lowK; rw [e1]; rfl⟩
theorem low0 {ks : Ks} {x : Int} (hx : 0 ≤ x ∧ x < (ks.length : Int)) (hh : hasK ks x = true) {t : Int} (ht : ¬ t > keyK ks x) : lowE ks x t = 0 ∧ lowK ks x t = ks.set x.toNat (some t) := by
  have e1 : lowE ks x t = 0 := by unfold lowE; rw [known_iff.2 hx, hh, decide_eq_false ht]; rfl
  exact ⟨e1, by unfold lowK; rw [e1]; rfl⟩
theorem rem0 {ks : Ks} {x : Int} (hx : 0 ≤ x ∧ x < (ks.length : Int)) (hh : hasK ks x = true) : remE ks x = 0 ∧ remK ks x = ks.set x.toNat none := ⟨by unfold remE; rw [known_iff.2 hx, hh]; rfl, by unfold remK; rw [hh]; rfl⟩
theorem PRow.push {es : PE} {ks : Ks} (h : PRow es ks) {x : Int} (hx : 0 ≤ x ∧ x < (ks.length : Int)) (hh : hasK ks x = false) (t : Int) : PRow (es ++ [(x, t)]) (ks.set x.toNat (some t)) := by
  have hn := h.hasnt hh
  refine ⟨?_, fun y k => ?_⟩
  · rw [List.map_append, List.nodup_append]
    refine ⟨h.nd, by simp, fun a ha b hb => ?_⟩
    simp at hb; subst hb
    intro e
    obtain ⟨e0, he, rfl⟩ := List.mem_map.1 ha
    obtain ⟨i, hi, e'⟩ := List.getElem_of_mem he
    refine hn i hi ?_
    rw [show es.getD i (0, 0) = es[i] by simp [List.getD, hi], e']; exact e
  · rw [List.mem_append, h.mem, setK (by omega), List.mem_singleton]
    constructor
    · rintro (⟨a, b⟩ | q)
      · refine ⟨a, ?_⟩
        rw [if_neg]; exact b
        intro e
        have : y = x := by omega
        subst this
        rw [(has_of a b).1] at hh; cases hh
      · cases q; exact ⟨hx.1, by rw [if_pos rfl]⟩
    · rintro ⟨a, b⟩
      by_cases e : y.toNat = x.toNat
      · rw [if_pos e] at b; cases b; right
        have : y = x := by omega
        rw [this]
      · rw [if_neg e] at b; exact .inl ⟨a, b⟩
theorem PRow.low {es : PE} {ks : Ks} (h : PRow es ks) {k : Nat} (hk : k < es.length) (t : Int) : PRow (es.set k ((es.getD k (0, 0)).1, t)) (ks.set (es.getD k (0, 0)).1.toNat (some t)) := by
  have hm := (h.mem _ _).1 (at_mem hk)
  have hl := getD_some_lt hm.2
  have eg : es.getD k (0, 0) = es[k] := by simp [List.getD, hk]
  have emap : (es.set k ((es.getD k (0, 0)).1, t)).map Prod.fst = es.map Prod.fst := by
    rw [List.map_set]
    apply List.ext_getElem (by simp)
    intro i h1 h2
    rw [List.getElem_set]
    split
    · rename_i e; subst e; simp only [List.getElem_map]; exact congrArg Prod.fst eg
    · rfl
  refine ⟨by rw [emap]; exact h.nd, fun y v => ?_⟩
  rw [setK hl]
  constructor
  · intro hy
    obtain ⟨i, hi, e⟩ := List.getElem_of_mem hy
    have hi' : i < es.length := by simpa using hi
    rw [List.getElem_set] at e
    split at e
    · cases e; exact ⟨hm.1, by rw [if_pos rfl]⟩
    · rename_i hne
      have hx := (h.mem y v).1 (e ▸ List.getElem_mem hi')
      have : y ≠ (es.getD k (0, 0)).1 := fun e' => by
        refine idx_inj h.nd i k hi' hk (fun q => hne q.symm) ?_
        rw [show es.getD i (0, 0) = es[i] by simp [List.getD, hi'], e]; exact e'
      exact ⟨hx.1, by rw [if_neg (by omega)]; exact hx.2⟩
  · rintro ⟨a, b⟩
    by_cases q : y.toNat = (es.getD k (0, 0)).1.toNat
    · rw [if_pos q] at b
      have e1 : y = (es.getD k (0, 0)).1 := by omega
      cases b
      rw [List.mem_iff_getElem]
      exact ⟨k, by simpa using hk, by rw [List.getElem_set_self, e1]⟩
    · rw [if_neg q] at b
      obtain ⟨i, hi, e'⟩ := List.getElem_of_mem ((h.mem y v).2 ⟨a, b⟩)
      rw [List.mem_iff_getElem]
      refine ⟨i, by simpa using hi, ?_⟩
      rw [List.getElem_set, if_neg]; exact e'
      intro e; subst e
      rw [eg, e'] at q; exact q rfl
theorem PRow.first {es : PE} {ks : Ks} (h : PRow es ks) {k : Nat} (hk : k < es.length) (hmin : ∀ j, j < es.length → ((es.getD k (0, 0)).2 < (es.getD j (0, 0)).2 ∨ ((es.getD k (0, 0)).2 = (es.getD j (0, 0)).2 ∧ (es.getD k (0, 0)).1 ≤ (es.getD j (0, 0)).1))) :
    fstI ks = (es.getD k (0, 0)).1 ∧ fstV ks = (es.getD k (0, 0)).2 ∧ fstB ks = true ∧ popK ks = ks.set (es.getD k (0, 0)).1.toNat none := by
  have hm := (h.mem _ _).1 (at_mem hk)
  have hc := cnt_none hm.2
  obtain ⟨i, v, hi⟩ := fst_some (ks := ks) (by omega)
  obtain ⟨j, hj, e⟩ := List.getElem_of_mem ((h.mem i v).2 ⟨by omega, by rw [Int.toNat_natCast]; exact hi.at_⟩)
  have ej : es.getD j (0, 0) = ((i : Int), v) := by rw [← e]; simp [List.getD, hj]
  have h1 := hmin j hj
  have h2 := hi.le (es.getD k (0, 0)).1.toNat (es.getD k (0, 0)).2 hm.2
  rw [ej] at h1
  simp only at h1
  have e1 : (i : Int) = (es.getD k (0, 0)).1 := by omega
  have e2 : v = (es.getD k (0, 0)).2 := by omega
  refine ⟨by rw [hi.fi]; exact e1, by rw [hi.fv]; exact e2, hi.fb, by rw [hi.pop, ← e1, Int.toNat_natCast]⟩
theorem PRow.empty {es : PE} {ks : Ks} (h : PRow es ks) (h0 : es.length = 0) : fstI ks = 0 ∧ fstV ks = 0 ∧ fstB ks = false ∧ popK ks = ks := fst_none (by rw [← h.len]; exact h0)
theorem remK_len' (ks : Ks) (x : Int) : (remK ks x).length = ks.length := by unfold remK; cases hasK ks x <;> simp
theorem pushK_len' (ks : Ks) (x k : Int) : (pushK ks x k).length = ks.length := by unfold pushK; cases (pushE ks x == 0) <;> simp
theorem lowK_len' (ks : Ks) (x k : Int) : (lowK ks x k).length = ks.length := by unfold lowK; cases (lowE ks x k == 0) <;> simp
/-- what a step gives: the keys then, and what is told -/
def outG (kind x t : Int) (ks : Ks) : Ks × Int × Int × Int :=
  if kind = 1 ∨ kind = 2 then (pushK ks x t, pushE ks x, 0, 0)
  else if kind = 3 then (lowK ks x t, lowE ks x t, 0, 0)
  else if kind = 4 then (remK ks x, keyK ks x, remE ks x, 0)
  else if kind = 5 then (popK ks, fstI ks, fstV ks, if fstB ks = true then 1 else 0)
  else (ks, 0, 0, 0)
theorem clamp_in {n x : Int} : (0 ≤ x ∧ x < min n 65536) ↔ (0 ≤ x ∧ x < ((hclamp n : Nat) : Int)) := by unfold hclamp; omega
end Go.Proofs.Ytchnphachgcjmaa.Sp
