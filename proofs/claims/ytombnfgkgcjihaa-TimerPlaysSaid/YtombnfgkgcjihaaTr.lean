/- Timers: the row that the document's own timer keeps, and the heap's keys. No program in it. -/
import Derived.Test.YtombnfgkgcjihaaTm3
set_option linter.unusedVariables false
set_option linter.unusedSimpArgs false
namespace Go.Proofs.Ytombnfgkgcjihaa.Sp
open Go
def LtT (a b : Int × Int) : Prop := a.2 < b.2 ∨ (a.2 = b.2 ∧ a.1 < b.1)
/-- a row of (id, time) in order says what the keys say -/
structure TRow (es : List (Int × Int)) (ks : Ks) : Prop where
  mem : ∀ (x k : Int), (x, k) ∈ es ↔ (0 ≤ x ∧ ks.getD x.toNat none = some k)
  ord : es.Pairwise LtT
theorem TRow.nil (n : Nat) : TRow [] (List.replicate n none) := by
  refine ⟨fun x k => ?_, List.Pairwise.nil⟩
  rw [cnt_zero (cnt_rep n)]
  constructor
  · intro h; cases h
  · intro h; cases h.2
theorem TRow.stop {es : List (Int × Int)} {ks : Ks} (h : TRow es ks) (x : Int) : TRow (es.filter fun e => e.1 != x) (remK ks x) := by
  refine ⟨fun y k => ?_, h.ord.filter _⟩
  rw [List.mem_filter, h.mem]
  unfold remK
  cases hh : hasK ks x with
  | false =>
    show _ ↔ 0 ≤ y ∧ ks.getD y.toNat none = some k
    constructor
    · exact fun h9 => h9.1
    · intro h9; refine ⟨h9, ?_⟩
      simp only [bne_iff_ne, ne_eq]
      intro e; subst e
      rw [(has_of h9.1 h9.2).1] at hh; cases hh
  | true =>
    show _ ↔ 0 ≤ y ∧ (ks.set x.toNat none).getD y.toNat none = some k
    obtain ⟨h0, h1⟩ := has_key hh
    rw [setK (getD_some_lt h1)]
    simp only [bne_iff_ne, ne_eq]
    constructor
    · rintro ⟨⟨a, b⟩, c⟩; rw [if_neg (by omega)]; exact ⟨a, b⟩
    · rintro ⟨a, b⟩
      by_cases e : y.toNat = x.toNat
      · rw [if_pos e] at b; cases b
      · rw [if_neg e] at b; exact ⟨⟨a, b⟩, by omega⟩
/-- the first of the row is the least -/
theorem TRow.first {e : Int × Int} {es : List (Int × Int)} {ks : Ks} (h : TRow (e :: es) ks) : IsMin ks e.1.toNat e.2 ∧ 0 ≤ e.1 := by
  have h1 := (h.mem e.1 e.2).1 List.mem_cons_self
  refine ⟨IsMin.of h1.2 fun j k' e' => ?_, h1.1⟩
  have h2 : ((j : Int), k') ∈ e :: es := (h.mem _ _).2 ⟨by omega, by rw [Int.toNat_natCast]; exact e'⟩
  rcases List.mem_cons.1 h2 with h3 | h3
  · right; rw [← h3]; exact ⟨rfl, by simp⟩
  · have h4 := (List.pairwise_cons.1 h.ord).1 _ h3
    unfold LtT at h4
    simp only at h4
    omega
theorem TRow.pop {e : Int × Int} {es : List (Int × Int)} {ks : Ks} (h : TRow (e :: es) ks) : TRow es (popK ks) := by
  obtain ⟨hm, h0⟩ := h.first
  refine ⟨fun y k => ?_, (List.pairwise_cons.1 h.ord).2⟩
  rw [hm.pop, setK (getD_some_lt hm.at_)]
  constructor
  · intro h1
    have h2 := (h.mem y k).1 (List.mem_cons_of_mem _ h1)
    have h3 := (List.pairwise_cons.1 h.ord).1 _ h1
    refine ⟨h2.1, ?_⟩
    rw [if_neg, h2.2]
    intro e'
    have : y = e.1 := by omega
    subst this
    have h5 := hm.at_
    rw [h2.2] at h5; cases h5
    unfold LtT at h3; simp only at h3; omega
  · rintro ⟨h1, h2⟩
    by_cases e' : y.toNat = e.1.toNat
    · rw [if_pos e'] at h2; cases h2
    · rw [if_neg e'] at h2
      rcases List.mem_cons.1 ((h.mem y k).2 ⟨h1, h2⟩) with h3 | h3
      · rw [← h3] at e'; exact absurd rfl e'
      · exact h3
theorem TRow.empty {ks : Ks} (h : TRow [] ks) : cntK ks = 0 := cnt_noone fun x k e => by
  have := (h.mem x k).2 ⟨by omega, by rw [Int.toNat_natCast]; exact e⟩
  cases this
theorem TRow.len {es : List (Int × Int)} {ks : Ks} (h : TRow es ks) : es.length = cntK ks := by
  induction es generalizing ks with
  | nil => rw [h.empty]; rfl
  | cons e es ih =>
    have hm := h.first.1
    have := (cnt_pop (fstB_pos.1 hm.fb)).2
    rw [List.length_cons, ih h.pop]; exact this
theorem TRow.due {es : List (Int × Int)} {ks : Ks} (h : TRow es ks) (t : Int) : dueL ks t = (es.takeWhile fun e => decide (e.2 ≤ t)).map Prod.fst ∧ TRow (es.dropWhile fun e => decide (e.2 ≤ t)) (duR ks t) := by
  induction es generalizing ks with
  | nil =>
    have hn := due_no (ks := ks) (t := t) fun hh => by have := fstB_pos.1 hh.1; have := h.empty; omega
    rw [hn.1, hn.2]; exact ⟨rfl, h⟩
  | cons e es ih =>
    obtain ⟨hm, h0⟩ := h.first
    by_cases he : e.2 ≤ t
    · have hy := due_yes (ks := ks) (t := t) ⟨hm.fb, by rw [hm.fv]; exact he⟩
      obtain ⟨i1, i2⟩ := ih h.pop
      rw [hy.1, hy.2, hm.fi, i1, List.takeWhile_cons_of_pos (by simpa using he), List.dropWhile_cons_of_pos (by simpa using he)]
      exact ⟨by rw [List.map_cons, Int.toNat_of_nonneg h0], i2⟩
    · have hn := due_no (ks := ks) (t := t) fun hh => by have := hh.2; rw [hm.fv] at this; omega
      rw [hn.1, hn.2, List.takeWhile_cons_of_neg (by simpa using he), List.dropWhile_cons_of_neg (by simpa using he)]
      exact ⟨rfl, h⟩
/-! put in at its place -/
instance (a b : Int × Int) : Decidable (LtT a b) := by unfold LtT; infer_instance
def insT (n : Int × Int) : List (Int × Int) → List (Int × Int)
  | [] => [n]
  | e :: es => if LtT e n then e :: insT n es else n :: e :: es
theorem insT_mem {n e : Int × Int} {es : List (Int × Int)} : e ∈ insT n es ↔ e = n ∨ e ∈ es := by
  induction es with
  | nil => simp [insT]
  | cons a es ih =>
    unfold insT; split
    · rw [List.mem_cons, ih, List.mem_cons]
      constructor
      · rintro (h | h | h)
        · exact .inr (.inl h)
        · exact .inl h
        · exact .inr (.inr h)
      · rintro (h | h | h)
        · exact .inr (.inl h)
        · exact .inl h
        · exact .inr (.inr h)
    · rw [List.mem_cons]
theorem insT_ord {n : Int × Int} {es : List (Int × Int)} (h : es.Pairwise LtT) (hn : ∀ e, e ∈ es → e.1 ≠ n.1) : (insT n es).Pairwise LtT := by
  induction es with
  | nil => exact List.pairwise_singleton ..
  | cons a es ih =>
    obtain ⟨h1, h2⟩ := List.pairwise_cons.1 h
    have hi := ih h2 fun e he => hn e (List.mem_cons_of_mem _ he)
    have ha := hn a List.mem_cons_self
    unfold insT; split
    · rename_i hl
      refine List.pairwise_cons.2 ⟨fun e he => ?_, hi⟩
      rcases insT_mem.1 he with rfl | he
      · exact hl
      · exact h1 e he
    · rename_i hl
      have hna : LtT n a := by unfold LtT at hl ⊢; omega
      refine List.pairwise_cons.2 ⟨fun e he => ?_, h⟩
      rcases List.mem_cons.1 he with rfl | he
      · exact hna
      · have := h1 e he; unfold LtT at this hna ⊢; omega
theorem insT_at {n : Int × Int} {es : List (Int × Int)} {j : Nat} (hj : j ≤ es.length) (h1 : ∀ i, i < j → LtT (es.getD i (0, 0)) n) (h2 : j < es.length → ¬ LtT (es.getD j (0, 0)) n) : insT n es = es.take j ++ n :: es.drop j := by
  induction es generalizing j with
  | nil => obtain rfl : j = 0 := by simpa using hj
           rfl
  | cons a es ih =>
    cases j with
    | zero =>
      have := h2 (by simp)
      unfold insT; rw [if_neg (by simpa [List.getD] using this)]; rfl
    | succ j =>
      have := h1 0 (by omega)
      unfold insT; rw [if_pos (by simpa [List.getD] using this), ih (j := j) (by simpa using hj) (fun i hi => by simpa [List.getD] using h1 (i + 1) (by omega)) (fun hl => by simpa [List.getD] using h2 (by simpa using hl))]; rfl
theorem TRow.ins {es : List (Int × Int)} {ks : Ks} (h : TRow es ks) {x : Int} (hx : 0 ≤ x ∧ x < ks.length) (k : Int) (hn : ks.getD x.toNat none = none) : TRow (insT (x, k) es) (ks.set x.toNat (some k)) := by
  refine ⟨fun y m => ?_, insT_ord h.ord fun e he => ?_⟩
  · rw [insT_mem, h.mem, setK (by omega)]
    constructor
    · rintro (h1 | h1)
      · cases h1; rw [if_pos rfl]; exact ⟨hx.1, rfl⟩
      · refine ⟨h1.1, ?_⟩
        rw [if_neg, h1.2]
        intro e; rw [e, hn] at h1; cases h1.2
    · rintro ⟨h1, h2⟩
      by_cases e : y.toNat = x.toNat
      · rw [if_pos e] at h2; cases h2; left
        have : y = x := by omega
        rw [this]
      · rw [if_neg e] at h2; exact .inr ⟨h1, h2⟩
  · intro e'
    have := ((h.mem e.1 e.2).1 he).2
    simp only at e'
    rw [e', hn] at this; cases this
/-! what At tells -/
def fndT (x : Int) (es : List (Int × Int)) : Option (Int × Int) := es.find? fun e => e.1 == x
def keyT (x : Int) (es : List (Int × Int)) : Int := ((fndT x es).map Prod.snd).getD 0
theorem fndT_at {x : Int} {es : List (Int × Int)} {k : Nat} (hk : k < es.length) (hall : ∀ j, j < k → ¬ (es.getD j (0, 0)).1 = x) (h : (es.getD k (0, 0)).1 = x) : fndT x es = some (es.getD k (0, 0)) := by
  induction es generalizing k with
  | nil => simp at hk
  | cons a es ih =>
    unfold fndT
    cases k with
    | zero => rw [List.find?_cons_of_pos (by simpa [List.getD] using h)]; rfl
    | succ k =>
      have := hall 0 (by omega)
      rw [List.find?_cons_of_neg (by simpa [List.getD] using this)]
      have := ih (k := k) (by simpa using hk) (fun j hj => by simpa [List.getD] using hall (j + 1) (by omega)) (by simpa [List.getD] using h)
      unfold fndT at this; rw [this]; simp [List.getD]
theorem fndT_none {x : Int} {es : List (Int × Int)} (hall : ∀ j, j < es.length → ¬ (es.getD j (0, 0)).1 = x) : fndT x es = none := by
  unfold fndT; rw [List.find?_eq_none]
  intro e he
  obtain ⟨j, hj, rfl⟩ := List.mem_iff_getElem.1 he
  have := hall j hj
  simpa [List.getD, hj] using this
theorem TRow.at {es : List (Int × Int)} {ks : Ks} (h : TRow es ks) (x : Int) : keyT x es = keyK ks x ∧ (fndT x es).isSome = hasK ks x := by
  cases hf : fndT x es with
  | none =>
    have hn : hasK ks x = false := by
      cases hh : hasK ks x with
      | false => rfl
      | true =>
        have hk := has_key hh
        have hm := (h.mem x (keyK ks x)).2 hk
        unfold fndT at hf; rw [List.find?_eq_none] at hf
        have h9 := hf _ hm; simp at h9
    unfold keyT keyK; rw [hf, hn]; exact ⟨rfl, rfl⟩
  | some e =>
    have hm := List.mem_of_find?_eq_some hf
    have he : e.1 = x := by have := List.find?_some hf; simpa using this
    have hk := (h.mem e.1 e.2).1 hm
    rw [he] at hk
    have := has_of hk.1 hk.2
    unfold keyT; rw [hf, this.1]; exact ⟨this.2.symm, rfl⟩
end Go.Proofs.Ytombnfgkgcjihaa.Sp
