/- Verdicts: edges that are there more than once (chapter 17). No program in it. -/
import Derived.Test.YtljnaefaahphaaaVrd
namespace Go.Proofs.Ytljnaefaahphaaa.Sp
open Go
theorem mem_way {es g : List (List Int)} (hm : ∀ i x, x ∈ g.getD i [] ↔ x ∈ es.getD i []) {i j : Nat} : Way g i j ↔ Way es i j := by
  constructor
  · intro h
    induction h with
    | one e => exact .one ((hm _ _).1 e)
    | cons e _ ih => exact .cons ((hm _ _).1 e) ih
  · intro h
    induction h with
    | one e => exact .one ((hm _ _).2 e)
    | cons e _ ih => exact .cons ((hm _ _).2 e) ih
theorem mem_ver {N : Nat} {es g : List (List Int)} {own : List Int} (hf : FOk N es own) (hg : FOk N g own) (hm : ∀ i x, x ∈ g.getD i [] ↔ x ∈ es.getD i []) : ∀ (m i : Nat), rk es i < m → i < N → ver g own i = ver es own i
  | 0, _, h, _ => absurd h (by omega)
  | m + 1, i, h, hi => by
    have hcy : cycB g i = cycB es i := by
      rw [Bool.eq_iff_iff, cyc_iff hf.le hf.in_, cyc_iff hg.le hg.in_]
      constructor
      · rintro ⟨j, h1, h2⟩; exact ⟨j, (mem_way hm).1 h1, (mem_way hm).1 h2⟩
      · rintro ⟨j, h1, h2⟩; exact ⟨j, (mem_way hm).2 h1, (mem_way hm).2 h2⟩
    cases hc : cycB es i with
    | true => rw [ver_cyc hf.le hf.in_ hc, ver_cyc hg.le hg.in_ (hcy.trans hc)]
    | false =>
      have hcg := hcy.trans hc
      have ih : ∀ x ∈ es.getD i [], ver g own x.toNat = ver es own x.toNat := fun x hx => by
        have he := edge_of hf.in_ hx
        have := rk_lt hf.le hf.in_ he hc
        exact mem_ver hf hg hm m x.toNat (by omega) (he.lt hf.in_)
      have a6 : ver g own i = 6 ↔ ver es own i = 6 := by
        rw [ver_6 hf hi hc, ver_6 hg hi hcg]
        constructor
        · rintro (q | ⟨x, hx, q⟩)
          · exact .inl q
          · have hx' := (hm i x).1 hx; exact .inr ⟨x, hx', (ih x hx').symm.trans q⟩
        · rintro (q | ⟨x, hx, q⟩)
          · exact .inl q
          · exact .inr ⟨x, (hm i x).2 hx, (ih x hx).trans q⟩
      have a5 : ver g own i = 5 ↔ ver es own i = 5 := by
        rw [ver_5 hf hi hc, ver_5 hg hi hcg]
        constructor
        · rintro ⟨q, r⟩; exact ⟨q, fun x hx => (ih x hx).symm.trans (r x ((hm i x).2 hx))⟩
        · rintro ⟨q, r⟩; exact ⟨q, fun x hx => by have hx' := (hm i x).1 hx; exact (ih x hx').trans (r x hx')⟩
      rcases ver_in hf hi hc with q | q | q
      · rcases ver_in hg hi hcg with r | r | r
        · rw [q, r]
        · rw [a5.1 r] at q; exact absurd q (by decide)
        · rw [a6.1 r] at q; exact absurd q (by decide)
      · rw [q]; exact a5.2 q
      · rw [q]; exact a6.2 q
theorem mem_verL {N : Nat} {es g : List (List Int)} {own : List Int} (hf : FOk N es own) (hg : FOk N g own) (hm : ∀ i x, x ∈ g.getD i [] ↔ x ∈ es.getD i []) : verL g own = verL es own := by
  refine getD_extI (by rw [verL_len, verL_len, hf.le, hg.le]) fun i hi => ?_
  rw [verL_len, hg.le] at hi
  rw [verL_get (by have := hg.le; omega), verL_get (by have := hf.le; omega)]
  exact mem_ver hf hg hm _ i (Nat.lt_succ_self _) hi
/-- rows told so far, and so often the next edge -/
structure Tw (N : Nat) (es G : List (List Int)) (i m t : Nat) : Prop where
  len : G.length = N
  mem : ∀ j x, x ∈ G.getD j [] ↔ (j < i ∧ x ∈ es.getD j []) ∨ (j = i ∧ (x ∈ (es.getD i []).take m ∨ (0 < t ∧ x = (es.getD i []).getD m 0)))
  le : ∀ j, (G.getD j []).length ≤ if j < i then 3 * (es.getD j []).length else if j = i then 3 * m + t else 0
theorem Tw.start (N : Nat) (es : List (List Int)) : Tw N es (List.replicate N []) 0 0 0 :=
  ⟨by simp, fun j x => by rw [repL]; simp, fun j => by rw [repL]; simp⟩
theorem Tw.put {N : Nat} {es G : List (List Int)} {i m t : Nat} (h : Tw N es G i m t) (hi : i < N) : Tw N es (G.set i (G.getD i [] ++ [(es.getD i []).getD m 0])) i m (t + 1) := by
  have hl : i < G.length := by have := h.len; omega
  refine ⟨by simp [h.len], fun j x => ?_, fun j => ?_⟩
  · rw [setL hl]
    split
    · rename_i e; subst e
      rw [List.mem_append, h.mem, List.mem_singleton]
      constructor
      · rintro ((⟨q, _⟩ | ⟨_, q | ⟨_, q⟩⟩) | q)
        · exact absurd q (by omega)
        · exact .inr ⟨rfl, .inl q⟩
        · exact .inr ⟨rfl, .inr ⟨by omega, q⟩⟩
        · exact .inr ⟨rfl, .inr ⟨by omega, q⟩⟩
      · rintro (⟨q, _⟩ | ⟨_, q | ⟨_, q⟩⟩)
        · exact absurd q (by omega)
        · exact .inl (.inr ⟨rfl, .inl q⟩)
        · exact .inr q
    · rename_i e
      rw [h.mem]
      constructor
      · rintro (q | ⟨q, _⟩)
        · exact .inl q
        · exact absurd q e
      · rintro (q | ⟨q, _⟩)
        · exact .inl q
        · exact absurd q e
  · have := h.le j
    by_cases e : j = i
    · subst e
      have q : ¬ j < j := by omega
      rw [setL hl, if_pos rfl, List.length_append, List.length_singleton]
      simp only [q, if_false, if_true] at this ⊢
      omega
    · rw [setL hl, if_neg e]; exact (show (if j < i then 3 * (es.getD j []).length else if j = i then 3 * m + t else 0) = (if j < i then 3 * (es.getD j []).length else if j = i then 3 * m + (t + 1) else 0) by rw [if_neg e, if_neg e]) ▸ this
theorem Tw.edge {N : Nat} {es G : List (List Int)} {i m t : Nat} (h : Tw N es G i m t) (hm : m < (es.getD i []).length) (ht : 1 ≤ t) (ht3 : t ≤ 3) : Tw N es G i (m + 1) 0 := by
  refine ⟨h.len, fun j x => ?_, fun j => ?_⟩
  · rw [h.mem, take_succ_i hm, List.mem_append, List.mem_singleton]
    constructor
    · rintro (q | ⟨q, r | ⟨_, r⟩⟩)
      · exact .inl q
      · exact .inr ⟨q, .inl (.inl r)⟩
      · exact .inr ⟨q, .inl (.inr r)⟩
    · rintro (q | ⟨q, (r | r) | ⟨r, _⟩⟩)
      · exact .inl q
      · exact .inr ⟨q, .inl r⟩
      · exact .inr ⟨q, .inr ⟨by omega, r⟩⟩
      · exact absurd r (by omega)
  · have := h.le j
    by_cases q : j < i
    · rw [if_pos q] at this ⊢; exact this
    · rw [if_neg q] at this ⊢
      by_cases e : j = i
      · rw [if_pos e] at this ⊢; omega
      · rw [if_neg e] at this ⊢; exact this
theorem Tw.row {N : Nat} {es G : List (List Int)} {i m : Nat} (h : Tw N es G i m 0) (hm : (es.getD i []).length = m) : Tw N es G (i + 1) 0 0 := by
  refine ⟨h.len, fun j x => ?_, fun j => ?_⟩
  · rw [h.mem, List.take_of_length_le (by omega)]
    constructor
    · rintro (⟨q, r⟩ | ⟨q, r | ⟨r, _⟩⟩)
      · exact .inl ⟨by omega, r⟩
      · subst q; exact .inl ⟨by omega, r⟩
      · exact absurd r (by omega)
    · rintro (⟨q, r⟩ | ⟨_, r | ⟨r, _⟩⟩)
      · by_cases e : j = i
        · subst e; exact .inr ⟨rfl, .inl r⟩
        · exact .inl ⟨by omega, r⟩
      · simp at r
      · exact absurd r (by omega)
  · have := h.le j
    by_cases q : j < i
    · rw [if_pos q] at this; rw [if_pos (by omega)]; exact this
    · rw [if_neg q] at this
      by_cases e : j = i
      · rw [if_pos e] at this; subst e; rw [if_pos (by omega)]; omega
      · rw [if_neg e] at this; rw [if_neg (by omega)]; split <;> omega
theorem Tw.all {N : Nat} {es G : List (List Int)} (h : Tw N es G N 0 0) (hl : es.length = N) : ∀ i x, x ∈ G.getD i [] ↔ x ∈ es.getD i [] := fun i x => by
  rw [h.mem]
  constructor
  · rintro (⟨_, r⟩ | ⟨_, r | ⟨r, _⟩⟩)
    · exact r
    · simp at r
    · exact absurd r (by omega)
  · intro r
    refine .inl ⟨?_, r⟩
    apply Classical.byContradiction; intro hn
    simp [List.getD, show es[i]? = none from by rw [List.getElem?_eq_none_iff]; omega] at r
theorem Tw.fok {N : Nat} {es G : List (List Int)} {own : List Int} (h : Tw N es G N 0 0) (hf : FOk N es own) : FOk N G own :=
  ⟨hf.small, h.len, hf.lo, rows_of_getD fun i _ x hx => hf.in_ i x ((h.all hf.le i x).1 hx), hf.kinds⟩
theorem Tw.rows {N : Nat} {es G : List (List Int)} (h : Tw N es G N 0 0) (hr : ∀ i, (es.getD i []).length ≤ 200) : ∀ l ∈ G, l.length ≤ 1000000 := rows_of_getD fun i hi => by
  have := h.le i; have := hr i; have := h.len
  rw [if_pos (by omega)] at *; omega
theorem Tw.row_le {N : Nat} {es G : List (List Int)} {i m t : Nat} (h : Tw N es G i m t) : (G.getD i []).length ≤ 3 * m + t := by
  have := h.le i; rw [if_neg (by omega), if_pos rfl] at this; exact this
end Go.Proofs.Ytljnaefaahphaaa.Sp
