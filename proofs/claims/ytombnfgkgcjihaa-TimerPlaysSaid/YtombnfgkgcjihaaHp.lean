/- Heaps: plain facts: the order of a heap, what a heap says, its least. No program in it. -/
import Derived.Test.YtombnfgkgcjihaaPln
set_option linter.unusedVariables false
set_option linter.unusedSimpArgs false
namespace Go.Proofs.Ytombnfgkgcjihaa.Sp
open Go
/-- id a, by its key, is ahead of id b -/
def LtK (K : List Int) (a b : Int) : Prop := K.getD a.toNat 0 < K.getD b.toNat 0 ∨ (K.getD a.toNat 0 = K.getD b.toNat 0 ∧ a < b)
instance (K : List Int) (a b : Int) : Decidable (LtK K a b) := by unfold LtK; infer_instance
theorem LtK.trans {K : List Int} {a b c : Int} (h : LtK K a b) (k : LtK K b c) : LtK K a c := by unfold LtK at *; omega
theorem LtK.irr {K : List Int} {a : Int} : ¬ LtK K a a := by unfold LtK; omega
theorem LtK.asymm {K : List Int} {a b : Int} (h : LtK K a b) : ¬ LtK K b a := by unfold LtK at *; omega
theorem not_lt_trans {K : List Int} {a b c : Int} (h : ¬ LtK K b a) (k : ¬ LtK K c b) : ¬ LtK K c a := by unfold LtK at *; omega
/-- at places: l[i] is not behind l[j] -/
def LeAt (K l : List Int) (i j : Nat) : Prop := ¬ LtK K (l.getD j 0) (l.getD i 0)
structure HI (n : Nat) (l : List Int) : Prop where
  bd : ∀ i, i < l.length → 0 ≤ l.getD i 0 ∧ l.getD i 0 < n
  inj : ∀ i j, i < l.length → j < l.length → l.getD i 0 = l.getD j 0 → i = j
structure AtOk (n : Nat) (l at_ : List Int) : Prop where
  len : at_.length = n
  here : ∀ i, i < l.length → at_.getD (l.getD i 0).toNat 0 = (i : Int)
  away : ∀ x : Nat, x < n → (∀ i, i < l.length → l.getD i 0 ≠ (x : Int)) → at_.getD x 0 = -1
def swapL (l : List Int) (i k : Nat) : List Int := (l.set i (l.getD k 0)).set k (l.getD i 0)
theorem swapL_len (l : List Int) (i k : Nat) : (swapL l i k).length = l.length := by simp [swapL]
theorem set_getD {l : List Int} {i j : Nat} {x d : Int} (h : i < l.length) : (l.set i x).getD j d = if j = i then x else l.getD j d := by
  simp only [List.getD_eq_getElem?_getD, List.getElem?_set]
  by_cases e : i = j
  · subst e; simp [h]
  · rw [if_neg e, if_neg (fun h => e h.symm)]
theorem swapL_get {l : List Int} {i k j : Nat} (hi : i < l.length) (hk : k < l.length) : (swapL l i k).getD j 0 = if j = k then l.getD i 0 else if j = i then l.getD k 0 else l.getD j 0 := by
  unfold swapL; rw [set_getD (by simpa using hk), set_getD hi]
theorem HI.swap {n : Nat} {l : List Int} (h : HI n l) {i k : Nat} (hi : i < l.length) (hk : k < l.length) : HI n (swapL l i k) := by
  refine ⟨fun j hj => ?_, fun a b ha hb e => ?_⟩
  · rw [swapL_len] at hj; rw [swapL_get hi hk]
    split
    · exact h.bd i hi
    · split
      · exact h.bd k hk
      · exact h.bd j hj
  · rw [swapL_len] at ha hb; rw [swapL_get hi hk, swapL_get hi hk] at e
    have q := h.inj
    split at e <;> split at e <;> (try split at e) <;> (try split at e) <;> first | omega | (have := h.inj _ _ (by assumption) (by assumption) e; omega)
/-- the same ids, and from m on at their places -/
structure Same (m : Nat) (l l' : List Int) : Prop where
  len : l'.length = l.length
  mem : ∀ x, x ∈ l' ↔ x ∈ l
  rest : ∀ j, m ≤ j → l'.getD j 0 = l.getD j 0
theorem Same.refl (m : Nat) (l : List Int) : Same m l l := ⟨rfl, fun _ => .rfl, fun _ _ => rfl⟩
theorem Same.trans {m : Nat} {a b c : List Int} (h : Same m a b) (k : Same m b c) : Same m a c := ⟨k.len.trans h.len, fun x => (k.mem x).trans (h.mem x), fun j hj => (k.rest j hj).trans (h.rest j hj)⟩
theorem mem_iff_at {l : List Int} {x : Int} : x ∈ l ↔ ∃ i, i < l.length ∧ l.getD i 0 = x := by
  rw [List.mem_iff_getElem]
  constructor
  · rintro ⟨i, hi, e⟩; exact ⟨i, hi, by simp [List.getD, hi, e]⟩
  · rintro ⟨i, hi, e⟩; exact ⟨i, hi, by simpa [List.getD, hi] using e⟩
theorem swap_mem {l : List Int} {i k : Nat} (hi : i < l.length) (hk : k < l.length) (x : Int) : x ∈ swapL l i k ↔ x ∈ l := by
  rw [mem_iff_at, mem_iff_at, swapL_len]
  constructor
  · rintro ⟨j, hj, e⟩
    rw [swapL_get hi hk] at e
    split at e
    · exact ⟨i, hi, e⟩
    · split at e
      · exact ⟨k, hk, e⟩
      · exact ⟨j, hj, e⟩
  · rintro ⟨j, hj, e⟩
    by_cases h1 : j = i
    · exact ⟨k, hk, by rw [swapL_get hi hk, if_pos rfl, ← h1, e]⟩
    · by_cases h2 : j = k
      · refine ⟨i, hi, ?_⟩
        rw [swapL_get hi hk]
        split
        · rename_i h3; rw [← e, h2, h3]
        · rw [if_pos rfl, ← h2, e]
      · exact ⟨j, hj, by rw [swapL_get hi hk, if_neg h2, if_neg h1, e]⟩
theorem Same.swap {m : Nat} {l : List Int} {i k : Nat} (hi : i < l.length) (hk : k < l.length) (h1 : i < m) (h2 : k < m) : Same m l (swapL l i k) :=
  ⟨swapL_len _ _ _, swap_mem hi hk, fun j hj => by rw [swapL_get hi hk, if_neg (by omega), if_neg (by omega)]⟩
theorem AtOk.swap {n : Nat} {l at_ : List Int} (h : AtOk n l at_) (q : HI n l) {i k : Nat} (hi : i < l.length) (hk : k < l.length) :
    AtOk n (swapL l i k) ((at_.set ((swapL l i k).getD i 0).toNat (i : Int)).set ((swapL l i k).getD k 0).toNat (k : Int)) := by
  have q' := q.swap hi hk
  have bi := q'.bd i (by rw [swapL_len]; exact hi)
  have bk := q'.bd k (by rw [swapL_len]; exact hk)
  have hl := h.len
  refine ⟨by simp [hl], fun j hj => ?_, fun x hx hn => ?_⟩
  · rw [set_getD (by rw [List.length_set]; omega), set_getD (by omega)]
    have bj := q'.bd j hj
    split
    · rename_i e; have := q'.inj j k hj (by rw [swapL_len]; exact hk) (by omega); omega
    · rename_i e1; split
      · rename_i e; have := q'.inj j i hj (by rw [swapL_len]; exact hi) (by omega); omega
      · rename_i e2
        have h1 : j ≠ k := fun e => e1 (by rw [e])
        have h2 : j ≠ i := fun e => e2 (by rw [e])
        rw [swapL_get hi hk, if_neg h1, if_neg h2]
        exact h.here j (by rw [swapL_len] at hj; exact hj)
  · rw [set_getD (by rw [List.length_set]; omega), set_getD (by omega)]
    have n1 := hn i (by rw [swapL_len]; exact hi)
    have n2 := hn k (by rw [swapL_len]; exact hk)
    rw [if_neg (by omega), if_neg (by omega)]
    refine h.away x hx fun j hj e => ?_
    have hm : (x : Int) ∈ swapL l i k := (swap_mem hi hk _).2 (mem_iff_at.2 ⟨j, hj, e⟩)
    obtain ⟨j', hj', e'⟩ := mem_iff_at.1 hm
    exact hn j' hj' e'
/-! the order of a heap -/
def HeapP (K l : List Int) (m : Nat) : Prop := ∀ k, 0 < k → k < m → LeAt K l ((k - 1) / 2) k
def HeapUp (K l : List Int) (m j : Nat) : Prop := (∀ k, 0 < k → k < m → k ≠ j → LeAt K l ((k - 1) / 2) k) ∧ ∀ k, 0 < k → k < m → (k - 1) / 2 = j → 0 < j → LeAt K l ((j - 1) / 2) k
def HeapX (K l : List Int) (m i0 i : Nat) : Prop := (∀ k, 0 < k → k < m → (k ≠ i0 ∨ i ≠ i0) → (k - 1) / 2 ≠ i → LeAt K l ((k - 1) / 2) k) ∧ ∀ k, 0 < k → k < m → (k - 1) / 2 = i → 0 < i → LeAt K l ((i - 1) / 2) k
theorem HeapUp.top {K l : List Int} {m : Nat} (h : HeapUp K l m 0) : HeapP K l m := fun k h0 h1 => h.1 k h0 h1 (by omega)
theorem HeapUp.done {K l : List Int} {m j : Nat} (h : HeapUp K l m j) (hle : LeAt K l ((j - 1) / 2) j) : HeapP K l m := fun k h0 h1 => by
  by_cases e : k = j
  · subst e; exact hle
  · exact h.1 k h0 h1 e
theorem HeapUp.next {K l : List Int} {m j : Nat} (h : HeapUp K l m j) (h0 : 0 < j) (hj : j < m) (hm : m ≤ l.length) (hlt : LtK K (l.getD j 0) (l.getD ((j - 1) / 2) 0)) : HeapUp K (swapL l ((j - 1) / 2) j) m ((j - 1) / 2) := by
  obtain ⟨i, hi⟩ : ∃ i, i = (j - 1) / 2 := ⟨_, rfl⟩
  rw [← hi] at hlt ⊢
  have g : ∀ x, (swapL l i j).getD x 0 = if x = j then l.getD i 0 else if x = i then l.getD j 0 else l.getD x 0 := fun x => swapL_get (by omega) (by omega)
  constructor
  · intro k k0 k1 ne
    unfold LeAt; rw [g, g]
    by_cases e1 : k = j
    · subst e1; rw [if_pos rfl, ← hi, if_neg (by omega), if_pos rfl]; exact hlt.asymm
    · rw [if_neg e1, if_neg ne]
      by_cases e2 : (k - 1) / 2 = j
      · rw [if_pos e2]; have := h.2 k k0 k1 e2 h0; rw [← hi] at this; exact this
      · rw [if_neg e2]
        by_cases e3 : (k - 1) / 2 = i
        · rw [if_pos e3]
          have := h.1 k k0 k1 e1
          unfold LeAt at this; rw [e3] at this
          exact not_lt_trans hlt.asymm this
        · rw [if_neg e3]; exact h.1 k k0 k1 e1
  · intro k k0 k1 e i0
    unfold LeAt; rw [g, g]
    rw [if_neg (show (i - 1) / 2 ≠ j by omega), if_neg (show (i - 1) / 2 ≠ i by omega)]
    have hi' := h.1 i i0 (by omega) (by omega)
    by_cases e1 : k = j
    · rw [if_pos e1]; exact hi'
    · rw [if_neg e1, if_neg (by omega)]
      have := h.1 k k0 k1 e1
      unfold LeAt at this; rw [e] at this
      exact not_lt_trans hi' this
theorem HeapP.x {K l : List Int} {m i : Nat} (h : HeapP K l m) : HeapX K l m i i := ⟨fun k k0 k1 _ _ => h k k0 k1, fun k k0 k1 e i0 => by
  have h1 := h k k0 k1; have h2 := h i i0 (by omega)
  rw [e] at h1; exact not_lt_trans h2 h1⟩
/-- another element at i alone -/
theorem HeapP.xset {K l l' : List Int} {m i : Nat} (h : HeapP K l m) (hi : i < m) (hs : ∀ j, j < m → j ≠ i → l'.getD j 0 = l.getD j 0) : HeapX K l' m i i := by
  constructor
  · intro k k0 k1 ne pe
    unfold LeAt; rw [hs k k1 (by omega), hs ((k - 1) / 2) (by omega) pe]; exact h k k0 k1
  · intro k k0 k1 e i0
    unfold LeAt; rw [hs k k1 (by omega), hs ((i - 1) / 2) (by omega) (by omega)]
    exact (HeapP.x h).2 k k0 k1 e i0
/-- another key at i alone -/
theorem HeapP.xkey {K K' l : List Int} {m i : Nat} (h : HeapP K l m) (hi : i < m) (hs : ∀ j, j < m → j ≠ i → K'.getD (l.getD j 0).toNat 0 = K.getD (l.getD j 0).toNat 0) : HeapX K' l m i i := by
  constructor
  · intro k k0 k1 ne pe
    have h1 := hs k k1 (by omega); have h2 := hs ((k - 1) / 2) (by omega) pe; have h3 := h k k0 k1
    unfold LeAt LtK at h3 ⊢; rw [h1, h2]; exact h3
  · intro k k0 k1 e i0
    have h1 := hs k k1 (by omega); have h2 := hs ((i - 1) / 2) (by omega) (by omega); have h3 := (HeapP.x h).2 k k0 k1 e i0
    unfold LeAt LtK at h3 ⊢; rw [h1, h2]; exact h3
/-- nothing below i is less: it is the beginning, or all is well -/
theorem HeapX.stop {K l : List Int} {m i0 i : Nat} (h : HeapX K l m i0 i) (hc : ∀ k, 0 < k → k < m → (k - 1) / 2 = i → LeAt K l i k) (hne : i ≠ i0) : HeapP K l m := fun k k0 k1 => by
  by_cases e : (k - 1) / 2 = i
  · rw [e]; exact hc k k0 k1 e
  · exact h.1 k k0 k1 (.inr hne) e
theorem HeapX.stay {K l : List Int} {m i0 : Nat} (h : HeapX K l m i0 i0) (hc : ∀ k, 0 < k → k < m → (k - 1) / 2 = i0 → LeAt K l i0 k) : HeapUp K l m i0 := ⟨fun k k0 k1 ne => by
  by_cases e : (k - 1) / 2 = i0
  · rw [e]; exact hc k k0 k1 e
  · exact h.1 k k0 k1 (.inl ne) e, h.2⟩
/-- down to the lesser child j -/
theorem HeapX.next {K l : List Int} {m i0 i j : Nat} (h : HeapX K l m i0 i) (hi0 : i0 ≤ i) (hj : j < m) (hm : m ≤ l.length) (hp : (j - 1) / 2 = i) (j0 : 0 < j) (hlt : LtK K (l.getD j 0) (l.getD i 0)) (hc : ∀ k, 0 < k → k < m → (k - 1) / 2 = i → LeAt K l j k) : HeapX K (swapL l i j) m i0 j := by
  have g : ∀ x, (swapL l i j).getD x 0 = if x = j then l.getD i 0 else if x = i then l.getD j 0 else l.getD x 0 := fun x => swapL_get (by omega) (by omega)
  constructor
  · intro k k0 k1 ne pe
    unfold LeAt; rw [g, g, if_neg pe]
    by_cases e1 : k = j
    · subst e1; rw [if_pos rfl, if_pos hp]; exact hlt.asymm
    · rw [if_neg e1]
      by_cases e2 : k = i
      · rw [if_pos e2, if_neg (by omega)]
        have := h.2 j j0 hj hp (by omega)
        rw [e2]; exact this
      · rw [if_neg e2]
        by_cases e3 : (k - 1) / 2 = i
        · rw [if_pos e3]; exact hc k k0 k1 e3
        · rw [if_neg e3]
          by_cases e4 : k = i0
          · by_cases e5 : i = i0
            · omega
            · exact h.1 k k0 k1 (.inr e5) e3
          · exact h.1 k k0 k1 (.inl e4) e3
  · intro k k0 k1 e _
    unfold LeAt; rw [g, g]
    rw [if_neg (show k ≠ j by omega), if_neg (show k ≠ i by omega), if_neg (show (j - 1) / 2 ≠ j by omega), if_pos hp]
    have := h.1 k k0 k1 (.inl (by omega)) (by omega)
    unfold LeAt at this; rw [e] at this; exact this
theorem HeapP.least {K l : List Int} {m : Nat} (h : HeapP K l m) : ∀ k, k < m → LeAt K l 0 k := by
  intro k
  induction k using Nat.strongRecOn with
  | _ k ih =>
    intro hk
    by_cases e : k = 0
    · subst e; exact LtK.irr
    · exact not_lt_trans (ih ((k - 1) / 2) (by omega) (by omega)) (h k (by omega) hk)
/-! what a heap says: for each id its key, or none -/
abbrev Ks := List (Option Int)
def minK : Ks → Nat → Option (Nat × Int)
  | [], _ => none
  | none :: r, b => minK r (b + 1)
  | some k :: r, b => match minK r (b + 1) with
    | none => some (b, k)
    | some (j, k') => if k' < k then some (j, k') else some (b, k)
def cntK (ks : Ks) : Nat := (ks.filter Option.isSome).length
theorem minK_none {ks : Ks} : ∀ {b : Nat}, minK ks b = none → ∀ i : Nat, ks.getD i none = none := by
  induction ks with
  | nil => intro b _ i; simp
  | cons o r ih =>
    intro b h i
    cases o with
    | none =>
      cases i with
      | zero => rfl
      | succ i => simpa using ih (b := b + 1) h i
    | some k =>
      simp only [minK] at h
      split at h
      · cases h
      · split at h <;> cases h
theorem minK_some {ks : Ks} : ∀ {b i : Nat} {k : Int}, minK ks b = some (i, k) → b ≤ i ∧ ks.getD (i - b) none = some k ∧ ∀ (j : Nat) (k' : Int), ks.getD j none = some k' → k < k' ∨ (k = k' ∧ i ≤ b + j) := by
  induction ks with
  | nil => intro b i k h; cases h
  | cons o r ih =>
    intro b i k h
    cases o with
    | none =>
      obtain ⟨h1, h2, h3⟩ := ih (b := b + 1) h
      refine ⟨by omega, ?_, fun j k' e => ?_⟩
      · rw [show i - b = (i - (b + 1)) + 1 by omega]; simpa using h2
      · cases j with
        | zero => simp at e
        | succ j => have := h3 j k' (by simpa using e); omega
    | some q =>
      simp only [minK] at h
      cases hm : minK r (b + 1) with
      | none =>
        rw [hm] at h; simp only [Option.some.injEq, Prod.mk.injEq] at h
        obtain ⟨rfl, rfl⟩ := h
        refine ⟨Nat.le_refl _, by simp, fun j k' e => ?_⟩
        cases j with
        | zero => simp at e; omega
        | succ j => have := minK_none hm j; simp at e; rw [← List.getD_eq_getElem?_getD, this] at e; cases e
      | some x =>
        obtain ⟨j0, k0⟩ := x
        rw [hm] at h
        obtain ⟨h1, h2, h3⟩ := ih hm
        by_cases hlt : k0 < q
        · simp only [if_pos hlt, Option.some.injEq, Prod.mk.injEq] at h
          obtain ⟨rfl, rfl⟩ := h
          refine ⟨by omega, ?_, fun j k' e => ?_⟩
          · rw [show j0 - b = (j0 - (b + 1)) + 1 by omega]; simpa using h2
          · cases j with
            | zero => simp at e; omega
            | succ j => have := h3 j k' (by simpa using e); omega
        · simp only [if_neg hlt, Option.some.injEq, Prod.mk.injEq] at h
          obtain ⟨rfl, rfl⟩ := h
          refine ⟨Nat.le_refl _, by simp, fun j k' e => ?_⟩
          cases j with
          | zero => simp at e; omega
          | succ j => have := h3 j k' (by simpa using e); omega
/-- the least is told by what it is -/
theorem minK_eq {ks : Ks} {i : Nat} {k : Int} (h : ks.getD i none = some k) (hl : ∀ (j : Nat) (k' : Int), ks.getD j none = some k' → k < k' ∨ (k = k' ∧ i ≤ j)) : minK ks 0 = some (i, k) := by
  cases hm : minK ks 0 with
  | none => have := minK_none hm i; rw [h] at this; cases this
  | some x =>
    obtain ⟨j, k'⟩ := x
    obtain ⟨_, h2, h3⟩ := minK_some hm
    have a1 := h3 i k h
    have a2 := hl j k' (by simpa using h2)
    simp only [Option.some.injEq, Prod.mk.injEq]; omega
structure HpOk (n : Nat) (l K : List Int) (ks : Ks) : Prop where
  hi : HI n l
  hp : HeapP K l l.length
  lk : K.length = n
  ln : ks.length = n
  says : ∀ x : Nat, x < n → ks.getD x none = if (x : Int) ∈ l then some (K.getD x 0) else none
theorem HpOk.min {n : Nat} {l K : List Int} {ks : Ks} (h : HpOk n l K ks) (h0 : 0 < l.length) : minK ks 0 = some ((l.getD 0 0).toNat, K.getD (l.getD 0 0).toNat 0) := by
  have b := h.hi.bd 0 h0
  refine minK_eq ?_ fun j k' e => ?_
  · rw [h.says _ (by omega), if_pos (by rw [Int.toNat_of_nonneg b.1]; exact mem_iff_at.2 ⟨0, h0, rfl⟩)]
  · have hj : j < n := by
      by_cases hj : j < n
      · exact hj
      · rw [← h.ln] at hj; simp [List.getD, show ks.length ≤ j by omega] at e
    rw [h.says j hj] at e
    split at e
    · rename_i hm
      obtain ⟨i, hi, e2⟩ := mem_iff_at.1 hm
      have := h.hp.least i hi
      simp only [Option.some.injEq] at e
      unfold LeAt LtK at this; rw [e2] at this
      simp only [Int.toNat_natCast] at this; rw [e] at this; omega
    · cases e
theorem nodup_of {l : List Int} (h : ∀ i j, i < l.length → j < l.length → l.getD i 0 = l.getD j 0 → i = j) : l.Nodup := by
  rw [List.nodup_iff_pairwise_ne, List.pairwise_iff_getElem]
  intro i j hi hj hlt e
  have := h i j hi hj (by simpa [List.getD, hi, hj] using e); omega
theorem cnt_eq (ks : Ks) : cntK ks = ((List.range ks.length).filter fun i => (ks.getD i none).isSome).length := by
  unfold cntK
  induction ks with
  | nil => rfl
  | cons o r ih =>
    rw [List.length_cons, List.range_succ_eq_map, List.filter_cons, List.filter_cons]
    have : ((List.range r.length).map Nat.succ).filter (fun i => ((o :: r).getD i none).isSome) = ((List.range r.length).filter fun i => (r.getD i none).isSome).map Nat.succ := by
      rw [List.filter_map]; rfl
    rw [this]
    cases o with
    | none => simpa using ih
    | some k => simpa using ih
theorem HpOk.count {n : Nat} {l K : List Int} {ks : Ks} (h : HpOk n l K ks) : cntK ks = l.length := by
  rw [cnt_eq, h.ln]
  have hd : (l.map Int.toNat).Nodup := by
    rw [List.nodup_iff_pairwise_ne, List.pairwise_iff_getElem]
    intro i j hi hj hlt e
    simp only [List.length_map] at hi hj
    have b1 := h.hi.bd i hi; have b2 := h.hi.bd j hj
    have := h.hi.inj i j hi hj (by simp [List.getD, hi, hj] at *; omega)
    omega
  have : ((List.range n).filter fun i => (ks.getD i none).isSome).Perm (l.map Int.toNat) := (List.perm_ext_iff_of_nodup (List.nodup_range.filter _) hd).2 fun x => by
    simp only [List.mem_filter, List.mem_range, List.mem_map]
    constructor
    · rintro ⟨hx, hs⟩
      rw [h.says x hx] at hs
      split at hs
      · exact ⟨_, by assumption, by omega⟩
      · cases hs
    · rintro ⟨y, hy, rfl⟩
      obtain ⟨i, hi, e⟩ := mem_iff_at.1 hy
      have b := h.hi.bd i hi
      refine ⟨by omega, ?_⟩
      rw [h.says _ (by omega), if_pos (by rw [Int.toNat_of_nonneg (by omega)]; exact hy)]; rfl
  rw [this.length_eq, List.length_map]
theorem HpOk.le {n : Nat} {l K : List Int} {ks : Ks} (h : HpOk n l K ks) : l.length ≤ n := by
  rw [← h.count, ← h.ln]; exact List.length_filter_le _ _
end Go.Proofs.Ytombnfgkgcjihaa.Sp
