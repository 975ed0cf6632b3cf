/- Verdicts: rounds that spread marks, and the plain laws VerdictAlone and VerdictAll (chapter 17). No program in it. -/
import Derived.Test.YtljnaefaahphaaaVdl
namespace Go.Proofs.Ytljnaefaahphaaa.Sp
open Go
theorem setB {l : List Bool} {i j : Nat} {x : Bool} (h : i < l.length) : (l.set i x).getD j false = if j = i then x else l.getD j false := by
  by_cases e : j = i
  · subst e; simp [List.getD, h]
  · rw [if_neg e]; simp [List.getD, Ne.symm e]
theorem count_le' : ∀ (s t : List Bool), s.length = t.length → (∀ j, s.getD j false = true → t.getD j false = true) → s.count true ≤ t.count true
  | [], [], _, _ => Nat.le_refl _
  | [], _ :: _, h, _ => by simp at h
  | _ :: _, [], h, _ => by simp at h
  | a :: s, b :: t, h, k => by
    have ih := count_le' s t (by simpa using h) (fun j hj => by simpa using k (j + 1) (by simpa using hj))
    have h0 := k 0
    simp only [List.getD_cons_zero] at h0
    rw [List.count_cons, List.count_cons]
    cases a <;> cases b <;> simp at h0 ⊢ <;> omega
theorem count_lt' : ∀ (s t : List Bool), s.length = t.length → (∀ j, s.getD j false = true → t.getD j false = true) → (∃ j, t.getD j false = true ∧ s.getD j false = false) → s.count true < t.count true
  | [], [], _, _, h => by obtain ⟨j, h1, _⟩ := h; simp at h1
  | [], _ :: _, h, _, _ => by simp at h
  | _ :: _, [], h, _, _ => by simp at h
  | a :: s, b :: t, h, k, e => by
    have hl : s.length = t.length := by simpa using h
    have hk : ∀ j, s.getD j false = true → t.getD j false = true := fun j hj => by simpa using k (j + 1) (by simpa using hj)
    have h0 := k 0
    simp only [List.getD_cons_zero] at h0
    obtain ⟨j, h1, h2⟩ := e
    rw [List.count_cons, List.count_cons]
    cases j with
    | zero =>
      simp only [List.getD_cons_zero] at h1 h2
      subst h1; subst h2
      have := count_le' s t hl hk
      simp; omega
    | succ j =>
      have ih := count_lt' s t hl hk ⟨j, by simpa using h1, by simpa using h2⟩
      cases a <;> cases b <;> simp at h0 ⊢ <;> omega
/-- behind so many rounds: nothing is left to do, or so many are marked -/
structure RInv (N : Nat) (Imp : Nat → Nat → Prop) (S : Nat → Prop) (r : Nat) (s : List Bool) : Prop where
  len : s.length = N
  sound : ∀ j, s.getD j false = true → S j
  cnt : (∀ a b, Imp a b → s.getD a false = true → s.getD b false = true) ∨ r + 1 ≤ s.count true
structure RMid (N : Nat) (Imp Done : Nat → Nat → Prop) (S : Nat → Prop) (s0 s : List Bool) : Prop where
  len : s.length = N
  mono : ∀ j, s0.getD j false = true → s.getD j false = true
  sound : ∀ j, s.getD j false = true → S j
  done : ∀ a b, Done a b → s0.getD a false = true → s.getD b false = true
  still : (∀ a b, Imp a b → s0.getD a false = true → s0.getD b false = true) → ∀ j, s.getD j false = true → s0.getD j false = true
theorem RMid.start {N r : Nat} {Imp Done : Nat → Nat → Prop} {S : Nat → Prop} {s0 : List Bool} (h : RInv N Imp S r s0) (hd : ∀ a b, ¬ Done a b) : RMid N Imp Done S s0 s0 :=
  ⟨h.len, fun _ h => h, h.sound, fun a b hab => absurd hab (hd a b), fun _ _ h => h⟩
theorem RMid.put {N : Nat} {Imp Done Done' : Nat → Nat → Prop} {S : Nat → Prop} {s0 s : List Bool} (h : RMid N Imp Done S s0 s) {a b : Nat} (hi : Imp a b) (hb : b < N) (hS : S a → S b) {v : Bool} (hv : v = true ↔ s.getD b false = true ∨ s.getD a false = true)
    (hd : ∀ x y, Done' x y → Done x y ∨ (x = a ∧ y = b)) : RMid N Imp Done' S s0 (s.set b v) := by
  have hbl : b < s.length := by have := h.len; omega
  have up : ∀ j, s.getD j false = true → (s.set b v).getD j false = true := fun j hj => by
    rw [setB hbl]; split
    · rename_i e; subst e; exact hv.2 (.inl hj)
    · exact hj
  refine ⟨by simp [h.len], fun j hj => up j (h.mono j hj), fun j hj => ?_, fun x y hxy hx => ?_, fun hc j hj => ?_⟩
  · rw [setB hbl] at hj
    split at hj
    · rename_i e; subst e
      rcases hv.1 hj with h1 | h1
      · exact h.sound _ h1
      · exact hS (h.sound _ h1)
    · exact h.sound j hj
  · rcases hd x y hxy with h1 | ⟨rfl, rfl⟩
    · exact up y (h.done x y h1 hx)
    · rw [setB hbl, if_pos rfl]; exact hv.2 (.inr (h.mono _ hx))
  · rw [setB hbl] at hj
    split at hj
    · rename_i e; subst e
      rcases hv.1 hj with h1 | h1
      · exact h.still hc _ h1
      · exact hc _ _ hi (h.still hc _ h1)
    · exact h.still hc j hj
theorem RMid.skip {N : Nat} {Imp Done Done' : Nat → Nat → Prop} {S : Nat → Prop} {s0 s : List Bool} (h : RMid N Imp Done S s0 s) (hd : ∀ x y, Done' x y → Done x y ∨ s.getD x false = false) : RMid N Imp Done' S s0 s :=
  ⟨h.len, h.mono, h.sound, fun x y hxy hx => (hd x y hxy).elim (fun h1 => h.done x y h1 hx) (fun h1 => by rw [h.mono x hx] at h1; cases h1), h.still⟩
theorem RMid.end_ {N r : Nat} {Imp Done : Nat → Nat → Prop} {S : Nat → Prop} {s0 s : List Bool} (h : RMid N Imp Done S s0 s) (h0 : RInv N Imp S r s0) (hd : ∀ a b, Imp a b → Done a b) : RInv N Imp S (r + 1) s := by
  refine ⟨h.len, h.sound, ?_⟩
  by_cases hc : ∀ a b, Imp a b → s0.getD a false = true → s0.getD b false = true
  · exact .inl fun a b hab ha => h.mono b (hc a b hab (h.still hc a ha))
  · right
    have h1 : r + 1 ≤ s0.count true := h0.cnt.resolve_left hc
    have : s0.count true < s.count true := by
      refine count_lt' s0 s (h0.len.trans h.len.symm) h.mono ?_
      simp only [Classical.not_forall] at hc
      obtain ⟨a, b, hab, ha, hb⟩ := hc
      exact ⟨b, h.done a b (hd a b hab) ha, by simpa using hb⟩
    omega
theorem RInv.closed {N : Nat} {Imp : Nat → Nat → Prop} {S : Nat → Prop} {s : List Bool} (h : RInv N Imp S N s) : ∀ a b, Imp a b → s.getD a false = true → s.getD b false = true :=
  h.cnt.resolve_right (by have := List.count_le_length (a := true) (l := s); have := h.len; omega)
theorem RInv.start {N k : Nat} {Imp : Nat → Nat → Prop} {S : Nat → Prop} (hk : k < N) (hS : S k) : RInv N Imp S 0 ((List.replicate N false).set k true) := by
  have hl : k < (List.replicate N false).length := by simpa using hk
  refine ⟨by simp, fun j hj => ?_, .inr ?_⟩
  · rw [setB hl] at hj
    split at hj
    · rename_i e; exact e ▸ hS
    · by_cases hj' : j < N
      · simp [List.getD, hj'] at hj
      · simp [List.getD, hj'] at hj
  · apply List.count_pos_iff.2
    rw [List.mem_iff_getElem]
    exact ⟨k, by simpa using hk, by simp⟩
/-- edges told ahead of edge m of row i -/
def Fwd (es : List (List Int)) (a b : Nat) : Prop := Ed es a b
def Bwd (es : List (List Int)) (a b : Nat) : Prop := Ed es b a
def DoneF (es : List (List Int)) (i m : Nat) (a b : Nat) : Prop := (a < i ∧ Ed es a b) ∨ (a = i ∧ (b : Int) ∈ (es.getD i []).take m)
def DoneB (es : List (List Int)) (i m : Nat) (a b : Nat) : Prop := DoneF es i m b a
theorem doneF_zero {es : List (List Int)} (a b : Nat) : ¬ DoneF es 0 0 a b := by rintro (⟨h, _⟩ | ⟨_, h⟩); omega; simp at h
theorem doneF_succ {es : List (List Int)} {i m a b : Nat} (hm : m < (es.getD i []).length) (h : DoneF es i (m + 1) a b) : DoneF es i m a b ∨ (a = i ∧ b = ((es.getD i []).getD m 0).toNat) := by
  rcases h with h | ⟨rfl, h⟩
  · exact .inl (.inl h)
  · rw [take_succ_i hm] at h
    rcases List.mem_append.1 h with h | h
    · exact .inl (.inr ⟨rfl, h⟩)
    · rw [List.mem_singleton] at h; exact .inr ⟨rfl, by omega⟩
theorem doneF_row {es : List (List Int)} {i m a b : Nat} (hm : (es.getD i []).length ≤ m) (h : DoneF es (i + 1) 0 a b) : DoneF es i m a b := by
  rcases h with ⟨h, h'⟩ | ⟨_, h⟩
  · by_cases e : a = i
    · subst e; right; refine ⟨rfl, ?_⟩; rw [List.take_of_length_le hm]; exact h'
    · exact .inl ⟨by omega, h'⟩
  · simp at h
theorem doneF_cut {es : List (List Int)} {i m a b : Nat} (h : DoneF es (i + 1) 0 a b) : DoneF es i m a b ∨ a = i := by
  rcases h with ⟨h, h'⟩ | ⟨_, h⟩
  · by_cases e : a = i
    · exact .inr e
    · exact .inl (.inl ⟨by omega, h'⟩)
  · simp at h
theorem doneF_all {N : Nat} {es : List (List Int)} (hl : es.length = N) {k a b : Nat} (hk : N ≤ k) (h : Ed es a b) : DoneF es k 0 a b := by
  refine .inl ⟨?_, h⟩
  apply Classical.byContradiction
  intro hn
  unfold Ed at h
  simp [List.getD, show es[a]? = none from by rw [List.getElem?_eq_none_iff]; omega] at h
/-! VerdictAlone -/
def partE (es : List (List Int)) (s : List Bool) (i : Nat) : List (List Int) := (List.range es.length).map fun j => if j < i ∧ s.getD j false = true then es.getD j [] else []
def partO (N : Nat) (own : List Int) (s : List Bool) (i : Nat) : List Int := (List.range N).map fun j => if j < i ∧ s.getD j false = true then own.getD j 0 else 0
theorem partE_len (es : List (List Int)) (s : List Bool) (i : Nat) : (partE es s i).length = es.length := by simp [partE]
theorem partO_len (N : Nat) (own : List Int) (s : List Bool) (i : Nat) : (partO N own s i).length = N := by simp [partO]
theorem partE_get {es : List (List Int)} {s : List Bool} {i j : Nat} (h : j < es.length) : (partE es s i).getD j [] = if j < i ∧ s.getD j false = true then es.getD j [] else [] := by simp [partE, List.getD, h]
theorem partO_get {N : Nat} {own : List Int} {s : List Bool} {i j : Nat} (h : j < N) : (partO N own s i).getD j 0 = if j < i ∧ s.getD j false = true then own.getD j 0 else 0 := by
  unfold partO
  rw [List.getD_eq_getElem?_getD, List.getElem?_map, List.getElem?_range h]; rfl
theorem partO_zero (N : Nat) (own : List Int) (s : List Bool) : partO N own s 0 = List.replicate N 0 := by
  refine getD_extI (by simp [partO]) fun i hi => ?_
  rw [partO_len] at hi
  rw [partO_get hi, if_neg (by omega)]; simp [List.getD, hi]
theorem partO_yes {N : Nat} {own : List Int} {s : List Bool} {i : Nat} (hi : i < N) (h : s.getD i false = true) : (partO N own s i).set i (own.getD i 0) = partO N own s (i + 1) := by
  refine getD_extI (by simp [partO]) fun j hj => ?_
  rw [List.length_set, partO_len] at hj
  rw [setI' (by rw [partO_len]; exact hi), partO_get hj, partO_get hj]
  by_cases e : j = i
  · subst e; rw [if_pos rfl, if_pos ⟨by omega, h⟩]
  · rw [if_neg e]
    by_cases e2 : j < i ∧ s.getD j false = true
    · rw [if_pos e2, if_pos ⟨by omega, e2.2⟩]
    · rw [if_neg e2, if_neg (by rintro ⟨a, b⟩; exact e2 ⟨by omega, b⟩)]
theorem partO_no {N : Nat} {own : List Int} {s : List Bool} {i : Nat} (h : s.getD i false = false) : partO N own s i = partO N own s (i + 1) := by
  refine getD_extI (by simp [partO]) fun j hj => ?_
  rw [partO_len] at hj
  rw [partO_get hj, partO_get hj]
  by_cases e : j = i
  · subst e; rw [if_neg (by omega), if_neg (by rw [h]; rintro ⟨_, q⟩; cases q)]
  · by_cases e2 : j < i ∧ s.getD j false = true
    · rw [if_pos e2, if_pos ⟨by omega, e2.2⟩]
    · rw [if_neg e2, if_neg (by rintro ⟨a, b⟩; exact e2 ⟨by omega, b⟩)]
theorem part_fok {N : Nat} {es : List (List Int)} {own : List Int} (h : FOk N es own) (s : List Bool) (i : Nat) : FOk N (partE es s i) (partO N own s i) := by
  refine ⟨h.small, (partE_len _ _ _).trans h.le, partO_len _ _ _ _, rows_of_getD fun j hj x hx => ?_, fun j hj => ?_⟩
  · rw [partE_len] at hj
    rw [partE_get hj] at hx
    split at hx
    · exact h.in_ j x hx
    · cases hx
  · rw [partO_get hj]; split
    · exact h.kinds j hj
    · exact .inl rfl
theorem part_rows {es : List (List Int)} (h : ∀ l ∈ es, l.length ≤ 1000000) (s : List Bool) (i : Nat) : ∀ l ∈ partE es s i, l.length ≤ 1000000 := rows_of_getD fun j hj => by
  rw [partE_len] at hj
  rw [partE_get hj]; split
  · exact h _ (row_at_mem hj)
  · simp
theorem part_row {N : Nat} {es : List (List Int)} (hl : es.length = N) {s : List Bool} {i : Nat} (hs : s.length = N) (h : s.getD i false = true) : (partE es s N).getD i [] = es.getD i [] := by
  have hi : i < N := by
    apply Classical.byContradiction; intro hn
    simp [List.getD, show s[i]? = none from by rw [List.getElem?_eq_none_iff]; omega] at h
  rw [partE_get (by omega), if_pos ⟨hi, h⟩]
theorem part_way {N : Nat} {es : List (List Int)} (hl : es.length = N) {s : List Bool} (hs : s.length = N) (hc : ∀ a b, Ed es a b → s.getD a false = true → s.getD b false = true) {i j : Nat} (h : s.getD i false = true) : (Way es i j ↔ Way (partE es s N) i j) ∧ (Way es i j → s.getD j false = true) := by
  have e : ∀ i j, s.getD i false = true → (Ed es i j ↔ Ed (partE es s N) i j) := fun i j h => by unfold Ed; rw [part_row hl hs h]
  refine ⟨⟨fun w => ?_, fun w => ?_⟩, fun w => ?_⟩
  · induction w with
    | one q => exact .one ((e _ _ h).1 q)
    | cons q _ ih => exact .cons ((e _ _ h).1 q) (ih (hc _ _ q h))
  · induction w with
    | one q => exact .one ((e _ _ h).2 q)
    | cons q _ ih => have q' := (e _ _ h).2 q; exact .cons q' (ih (hc _ _ q' h))
  · induction w with
    | one q => exact hc _ _ q h
    | cons q _ ih => exact ih (hc _ _ q h)
theorem alone_ver {N : Nat} {es : List (List Int)} {own : List Int} (hf : FOk N es own) {s : List Bool} (hs : s.length = N) (hc : ∀ a b, Ed es a b → s.getD a false = true → s.getD b false = true) :
    ∀ (m i : Nat), rk es i < m → s.getD i false = true → ver es own i = ver (partE es s N) (partO N own s N) i
  | 0, _, h, _ => absurd h (by omega)
  | m + 1, i, h, hi => by
    have hg := part_fok hf s N
    have hiN : i < N := by
      apply Classical.byContradiction; intro hn
      simp [List.getD, show s[i]? = none from by rw [List.getElem?_eq_none_iff]; omega] at hi
    have hcy : cycB es i = cycB (partE es s N) i := by
      rw [Bool.eq_iff_iff, cyc_iff hf.le hf.in_, cyc_iff hg.le hg.in_]
      constructor
      · rintro ⟨j, h1, h2⟩
        have hj := (part_way hf.le hs hc hi).2 h1
        exact ⟨j, (part_way hf.le hs hc hi).1.1 h1, (part_way hf.le hs hc hj).1.1 h2⟩
      · rintro ⟨j, h1, h2⟩
        have h1' := (part_way hf.le hs hc hi).1.2 h1
        have hj := (part_way hf.le hs hc hi).2 h1'
        exact ⟨j, h1', (part_way hf.le hs hc hj).1.2 h2⟩
    rw [ver_eq hf.le hf.in_, ver_eq hg.le hg.in_, ← hcy, part_row hf.le hs hi, partO_get hiN, if_pos ⟨hiN, hi⟩]
    cases hb : cycB es i with
    | true => rfl
    | false =>
      simp only [cond_false]
      apply foldl_congr'
      intro x hx a
      have he := edge_of hf.in_ hx
      have := rk_lt hf.le hf.in_ he hb
      rw [alone_ver hf hs hc m x.toNat (by omega) (hc _ _ he hi)]
/-! VerdictAll -/
def fives (N i : Nat) : List Int := (List.range N).map fun j => if j < i then 5 else 0
theorem fives_len (N i : Nat) : (fives N i).length = N := by simp [fives]
theorem fives_get {N i j : Nat} (h : j < N) : (fives N i).getD j 0 = if j < i then 5 else 0 := by simp [fives, List.getD, h]
theorem fives_zero (N : Nat) : madeO N [] = fives N 0 := by
  refine getD_extI (by rw [madeO_len, fives_len]) fun i hi => ?_
  rw [madeO_len] at hi
  unfold madeO; rw [ownP_get hi, fives_get hi, if_neg (by simp), if_neg (by omega)]
theorem fives_succ {N i : Nat} (h : i < N) : (fives N i).set i 5 = fives N (i + 1) := by
  refine getD_extI (by simp [fives]) fun j hj => ?_
  rw [List.length_set, fives_len] at hj
  rw [setI' (by rw [fives_len]; exact h), fives_get hj, fives_get hj]
  by_cases e : j = i
  · subst e; rw [if_pos rfl, if_pos (by omega)]
  · rw [if_neg e]
    by_cases e2 : j < i
    · rw [if_pos e2, if_pos (by omega)]
    · rw [if_neg e2, if_neg (by omega)]
theorem fives_fok {N : Nat} {es : List (List Int)} {own : List Int} (h : FOk N es own) : FOk N es (fives N N) := ⟨h.small, h.le, fives_len _ _, h.inn, fun i hi => by rw [fives_get hi, if_pos hi]; exact .inr (.inl rfl)⟩
theorem fives_set {N k : Nat} {es : List (List Int)} {own : List Int} (h : FOk N es own) (hk : k < N) {w : Int} (hw : w = 0 ∨ w = 6) : FOk N es ((fives N N).set k w) := ⟨h.small, h.le, by rw [List.length_set, fives_len], h.inn, fun i hi => by
  rw [setI' (by rw [fives_len]; exact hk)]
  split
  · rcases hw with h | h
    · exact .inl h
    · exact .inr (.inr h)
  · rw [fives_get hi, if_pos hi]; exact .inr (.inl rfl)⟩
theorem all_v {N : Nat} {es : List (List Int)} (hf : FOk N es (fives N N)) : ∀ (m i : Nat), rk es i < m → i < N → cycB es i = false → ver es (fives N N) i = 5
  | 0, _, h, _, _ => absurd h (by omega)
  | m + 1, i, h, hi, hc => by
    rw [ver_5 hf hi hc]
    refine ⟨by rw [fives_get hi, if_pos hi], fun x hx => ?_⟩
    have he := edge_of hf.in_ hx
    have := rk_lt hf.le hf.in_ he hc
    exact all_v hf m x.toNat (by omega) (he.lt hf.in_) (cyc_child hf.le hf.in_ hc hx)
theorem all_v57 {N : Nat} {es : List (List Int)} (hf : FOk N es (fives N N)) {i : Nat} (hi : i < N) : ver es (fives N N) i = 5 ∨ ver es (fives N N) i = 7 := by
  cases hc : cycB es i with
  | true => exact .inr (ver_cyc hf.le hf.in_ hc)
  | false => exact .inl (all_v hf _ i (Nat.lt_succ_self _) hi hc)
theorem all_w {N k : Nat} {es : List (List Int)} {w : Int} (hf : FOk N es ((fives N N).set k w)) (hk : k < N) (hw : w = 0 ∨ w = 6) : ∀ (m i : Nat), rk es i < m → i < N → cycB es i = false →
    ((i = k ∨ Way es i k) → ver es ((fives N N).set k w) i = w) ∧ (¬ (i = k ∨ Way es i k) → ver es ((fives N N).set k w) i = 5)
  | 0, _, h, _, _ => absurd h (by omega)
  | m + 1, i, h, hi, hc => by
    have ih : ∀ x ∈ es.getD i [], ((x.toNat = k ∨ Way es x.toNat k) → ver es ((fives N N).set k w) x.toNat = w) ∧ (¬ (x.toNat = k ∨ Way es x.toNat k) → ver es ((fives N N).set k w) x.toNat = 5) := fun x hx => by
      have he := edge_of hf.in_ hx
      have := rk_lt hf.le hf.in_ he hc
      exact all_w hf hk hw m x.toNat (by omega) (he.lt hf.in_) (cyc_child hf.le hf.in_ hc hx)
    have ho : ((fives N N).set k w).getD i 0 = if i = k then w else 5 := by rw [setI' (by rw [fives_len]; exact hk), fives_get hi, if_pos hi]
    have h6 := ver_6 hf hi hc; have h5 := ver_5 hf hi hc; have hin := ver_in hf hi hc
    rw [ho] at h6 h5
    have hr : (i = k ∨ Way es i k) ↔ i = k ∨ ∃ x ∈ es.getD i [], x.toNat = k ∨ Way es x.toNat k := by
      constructor
      · rintro (h | h)
        · exact .inl h
        · right
          cases h with
          | one e => exact ⟨(k : Int), e, .inl (Int.toNat_natCast _)⟩
          | @cons _ j _ e h => exact ⟨(j : Int), e, .inr (by rw [Int.toNat_natCast]; exact h)⟩
      · rintro (h | ⟨x, hx, h⟩)
        · exact .inl h
        · right
          have he := edge_of hf.in_ hx
          rcases h with h | h
          · exact .one (h ▸ he)
          · exact .cons he h
    have hw5 : w ≠ 5 := by rcases hw with h | h <;> rw [h] <;> decide
    have d5 : ver es ((fives N N).set k w) i = 5 ↔ ¬ (i = k ∨ Way es i k) := by
      rw [h5, hr]
      constructor
      · rintro ⟨h1, h2⟩ (h | ⟨x, hx, h⟩)
        · rw [if_pos h] at h1; exact hw5 h1
        · have := h2 x hx; rw [(ih x hx).1 h] at this; exact hw5 this
      · intro hn
        refine ⟨if_neg (fun e => hn (.inl e)), fun x hx => (ih x hx).2 fun e => hn (.inr ⟨x, hx, e⟩)⟩
    refine ⟨fun hre => ?_, fun hn => d5.2 hn⟩
    have n5 : ver es ((fives N N).set k w) i ≠ 5 := fun e => (d5.1 e) hre
    rcases hw with rfl | rfl
    · rcases hin with h | h | h
      · exact h
      · exact absurd h n5
      · rcases h6.1 h with h | ⟨x, hx, h⟩
        · split at h <;> exact absurd h (by decide)
        · by_cases hx' : x.toNat = k ∨ Way es x.toNat k
          · rw [(ih x hx).1 hx'] at h; exact absurd h (by decide)
          · rw [(ih x hx).2 hx'] at h; exact absurd h (by decide)
    · rw [h6]
      rcases hr.1 hre with h | ⟨x, hx, h⟩
      · exact .inl (if_pos h)
      · exact .inr ⟨x, hx, (ih x hx).1 h⟩
theorem all_want {N k i : Nat} {es : List (List Int)} {w : Int} (h0 : FOk N es (fives N N)) (hf : FOk N es ((fives N N).set k w)) (hk : k < N) (hw : w = 0 ∨ w = 6) (hi : i < N) {s : List Bool} (hs : RInv N (Bwd es) (fun j => j = k ∨ Way es j k) N s) (hsk : s.getD k false = true) :
    ver es ((fives N N).set k w) i = if s.getD i false = true ∧ ver es (fives N N) i = 5 then w else ver es (fives N N) i := by
  have hr : s.getD i false = true ↔ (i = k ∨ Way es i k) := by
    refine ⟨hs.sound i, ?_⟩
    rintro (rfl | h)
    · exact hsk
    · have hc := hs.closed
      have : ∀ {a b : Nat}, Way es a b → s.getD b false = true → s.getD a false = true := fun h => by
        induction h with
        | one e => exact fun hb => hc _ _ e hb
        | cons e _ ih => exact fun hb => hc _ _ e (ih hb)
      exact this h hsk
  cases hc : cycB es i with
  | true => rw [ver_cyc hf.le hf.in_ hc, ver_cyc h0.le h0.in_ hc, if_neg (by rintro ⟨_, h⟩; omega)]
  | false =>
    rw [all_v h0 _ i (Nat.lt_succ_self _) hi hc]
    have := all_w hf hk hw _ i (Nat.lt_succ_self _) hi hc
    by_cases h : i = k ∨ Way es i k
    · rw [this.1 h, if_pos ⟨hr.2 h, rfl⟩]
    · rw [this.2 h, if_neg (fun q => h (hr.1 q.1))]
theorem RMid.keep {N : Nat} {Imp Done : Nat → Nat → Prop} {S : Nat → Prop} {s0 s : List Bool} (h : RMid N Imp Done S s0 s) {k : Nat} (hk : s0.getD k false = true) : s.getD k false = true := h.mono k hk
theorem v57L {N : Nat} {es : List (List Int)} (hf : FOk N es (fives N N)) {i : Nat} (hi : i < N) : (verL es (fives N N)).getD i 0 = 5 ∨ (verL es (fives N N)).getD i 0 = 7 := by
  rw [verL_get (by have := hf.le; omega)]; exact all_v57 hf hi
theorem all_wantL {N k i : Nat} {es : List (List Int)} {w : Int} (h0 : FOk N es (fives N N)) (hf : FOk N es ((fives N N).set k w)) (hk : k < N) (hw : w = 0 ∨ w = 6) (hi : i < N) {s : List Bool} (hs : RInv N (Bwd es) (fun j => j = k ∨ Way es j k) N s) (hsk : s.getD k false = true) :
    (verL es ((fives N N).set k w)).getD i 0 = if s.getD i false = true ∧ (verL es (fives N N)).getD i 0 = 5 then w else (verL es (fives N N)).getD i 0 := by
  rw [verL_get (by have := hf.le; omega), verL_get (by have := hf.le; omega)]; exact all_want h0 hf hk hw hi hs hsk
def partV (N : Nat) (vs : List Value) (s : List Bool) (i : Nat) : List Value := (List.range N).map fun j => if j < i ∧ s.getD j false = true then vs.getD j undef else .slice none 0 0
theorem partV_len (N : Nat) (vs : List Value) (s : List Bool) (i : Nat) : (partV N vs s i).length = N := by simp [partV]
theorem partV_get {N : Nat} {vs : List Value} {s : List Bool} {i j : Nat} (h : j < N) : (partV N vs s i).getD j undef = if j < i ∧ s.getD j false = true then vs.getD j undef else .slice none 0 0 := by
  unfold partV
  rw [List.getD_eq_getElem?_getD, List.getElem?_map, List.getElem?_range h]; rfl
theorem getD_extV {l m : List Value} (h : l.length = m.length) (k : ∀ i, i < l.length → l.getD i undef = m.getD i undef) : l = m := by
  apply List.ext_getElem h
  intro i h1 h2
  have := k i h1
  simpa [List.getD, h1, h2] using this
theorem setV {l : List Value} {i j : Nat} {x : Value} (h : i < l.length) : (l.set i x).getD j undef = if j = i then x else l.getD j undef := by
  by_cases e : j = i
  · subst e; simp [List.getD, h]
  · rw [if_neg e]; simp [List.getD, Ne.symm e]
theorem partV_zero (N : Nat) (vs : List Value) (s : List Bool) : partV N vs s 0 = List.replicate N (.slice none 0 0) := by
  refine getD_extV (by simp [partV]) fun i hi => ?_
  rw [partV_len] at hi
  rw [partV_get hi, if_neg (by omega)]; simp [List.getD, hi]
theorem partV_yes {N : Nat} {vs : List Value} {s : List Bool} {i : Nat} (hi : i < N) (h : s.getD i false = true) : (partV N vs s i).set i (vs.getD i undef) = partV N vs s (i + 1) := by
  refine getD_extV (by simp [partV]) fun j hj => ?_
  rw [List.length_set, partV_len] at hj
  rw [setV (by rw [partV_len]; exact hi), partV_get hj, partV_get hj]
  by_cases e : j = i
  · subst e; rw [if_pos rfl, if_pos ⟨by omega, h⟩]
  · rw [if_neg e]
    by_cases e2 : j < i ∧ s.getD j false = true
    · rw [if_pos e2, if_pos ⟨by omega, e2.2⟩]
    · rw [if_neg e2, if_neg (by rintro ⟨a, b⟩; exact e2 ⟨by omega, b⟩)]
theorem partV_no {N : Nat} {vs : List Value} {s : List Bool} {i : Nat} (h : s.getD i false = false) : partV N vs s i = partV N vs s (i + 1) := by
  refine getD_extV (by simp [partV]) fun j hj => ?_
  rw [partV_len] at hj
  rw [partV_get hj, partV_get hj]
  by_cases e : j = i
  · subst e; rw [if_neg (by omega), if_neg (by rw [h]; rintro ⟨_, q⟩; cases q)]
  · by_cases e2 : j < i ∧ s.getD j false = true
    · rw [if_pos e2, if_pos ⟨by omega, e2.2⟩]
    · rw [if_neg e2, if_neg (by rintro ⟨a, b⟩; exact e2 ⟨by omega, b⟩)]
theorem gridR_part {L M : List HP} {N : Nat} {bg : Option Addr} {vs : List Value} {es : List (List Int)} {s : List Bool} (hl : es.length = N) (hc : ∀ b cs, Rd M b cs → Rd L b cs)
    (hrow : ∀ i, i < es.length → ∃ b c, SlOk b (es.getD i []).length ∧ (es.getD i []).length ≤ c ∧ vs.getD i undef = .slice b (es.getD i []).length c ∧ Rd M b (ints .i64 (es.getD i []))) (hr : Rd L bg (partV N vs s N)) : GridR L bg (partE es s N) := by
  refine ⟨partV N vs s N, by rw [partV_len, partE_len, hl], hr, fun i hi => ?_⟩
  rw [partE_len, hl] at hi
  rw [partE_get (by omega), partV_get hi]
  by_cases e : i < N ∧ s.getD i false = true
  · rw [if_pos e, if_pos e]
    obtain ⟨b, c, k1, k2, k3, k4⟩ := hrow i (by omega)
    exact ⟨b, c, k1, k2, k3, hc _ _ k4⟩
  · rw [if_neg e, if_neg e]
    exact ⟨none, 0, slok_none, Nat.le_refl _, rfl, rd_nil⟩
theorem aloneL {N : Nat} {es : List (List Int)} {own : List Int} (hf : FOk N es own) {s : List Bool} (hs : RInv N (Fwd es) (fun _ => True) N s) {k : Nat} (hk : k < N) (hsk : s.getD k false = true) : (verL es own).getD k 0 = (verL (partE es s N) (partO N own s N)).getD k 0 := by
  rw [verL_get (by have := hf.le; omega), verL_get (by rw [partE_len]; have := hf.le; omega)]
  exact alone_ver hf hs.len hs.closed _ k (Nat.lt_succ_self _) hsk
end Go.Proofs.Ytljnaefaahphaaa.Sp
