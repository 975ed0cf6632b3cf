/- Verdicts: ways, circles, and what a task becomes (chapter 17). No program in it. -/
import Derived.Test.YtljnaefaahphaaaGrd
namespace Go.Proofs.Ytljnaefaahphaaa.Sp
open Go
structure FOk (N : Nat) (es : List (List Int)) (own : List Int) : Prop where
  small : N ≤ 64
  le : es.length = N
  lo : own.length = N
  inn : ∀ l ∈ es, ∀ x ∈ l, 0 ≤ x ∧ x < (N : Int)
  kinds : ∀ i, i < N → own.getD i 0 = 0 ∨ own.getD i 0 = 5 ∨ own.getD i 0 = 6
theorem getD_row_mem {es : List (List Int)} {i : Nat} {x : Int} (h : x ∈ es.getD i []) : es.getD i [] ∈ es := by
  by_cases hi : i < es.length
  · simp [List.getD, hi]
  · simp [List.getD, Nat.le_of_not_lt hi] at h
theorem row_at_mem {es : List (List Int)} {i : Nat} (h : i < es.length) : es.getD i [] ∈ es := by simp [List.getD, h]
theorem getD_mem_i {l : List Int} {k : Nat} (h : k < l.length) : l.getD k 0 ∈ l := by simp [List.getD, h]
theorem take_succ_i {l : List Int} {k : Nat} (h : k < l.length) : l.take (k + 1) = l.take k ++ [l.getD k 0] := by rw [List.take_add_one]; simp [List.getD, h]
def Inn (N : Nat) (es : List (List Int)) : Prop := ∀ i, ∀ x ∈ es.getD i [], 0 ≤ x ∧ x < (N : Int)
theorem FOk.in_ {N : Nat} {es : List (List Int)} {own : List Int} (h : FOk N es own) : Inn N es := fun _ x hx => h.inn _ (getD_row_mem hx) x hx
theorem FOk.at_ {N : Nat} {es : List (List Int)} {own : List Int} (h : FOk N es own) {i k : Nat} (hk : k < (es.getD i []).length) : 0 ≤ (es.getD i []).getD k 0 ∧ (es.getD i []).getD k 0 < (N : Int) :=
  h.in_ i _ (getD_mem_i hk)
def Ed (es : List (List Int)) (i j : Nat) : Prop := (j : Int) ∈ es.getD i []
inductive Way (es : List (List Int)) : Nat → Nat → Prop
  | one {i j : Nat} : Ed es i j → Way es i j
  | cons {i j k : Nat} : Ed es i j → Way es j k → Way es i k
theorem Way.trans {es : List (List Int)} {i j k : Nat} (h : Way es i j) (h' : Way es j k) : Way es i k := by
  induction h with
  | one e => exact .cons e h'
  | cons e _ ih => exact .cons e (ih h')
def WB (es : List (List Int)) : Nat → Nat → Nat → Prop
  | 0, i, j => Ed es i j
  | b + 1, i, j => WB es b i j ∨ (WB es b i b ∧ WB es b b j)
theorem WB.way {es : List (List Int)} : ∀ {b i j : Nat}, WB es b i j → Way es i j
  | 0, _, _, h => .one h
  | b + 1, i, j, h => by
    rcases h with h | ⟨h1, h2⟩
    · exact WB.way h
    · exact (WB.way h1).trans (WB.way h2)
theorem WB.trans {es : List (List Int)} : ∀ {b i c j : Nat}, c < b → WB es b i c → WB es b c j → WB es b i j
  | 0, _, _, _, h, _, _ => absurd h (by omega)
  | b + 1, i, c, j, h, h1, h2 => by
    by_cases e : c = b
    · subst e
      have h1' : WB es c i c := by rcases h1 with h1 | h1; exact h1; exact h1.1
      have h2' : WB es c c j := by rcases h2 with h2 | h2; exact h2; exact h2.2
      exact .inr ⟨h1', h2'⟩
    · have hc : c < b := by omega
      rcases h1 with h1 | ⟨h1, h1'⟩ <;> rcases h2 with h2 | ⟨h2, h2'⟩
      · exact .inl (WB.trans hc h1 h2)
      · exact .inr ⟨WB.trans hc h1 h2, h2'⟩
      · exact .inr ⟨h1, WB.trans hc h1' h2⟩
      · exact .inr ⟨h1, h2'⟩
theorem WB.edge {es : List (List Int)} {i j : Nat} (h : Ed es i j) : ∀ b, WB es b i j
  | 0 => h
  | b + 1 => .inl (WB.edge h b)
theorem Ed.lt {N : Nat} {es : List (List Int)} (hi : Inn N es) {i j : Nat} (h : Ed es i j) : j < N := by have := hi i _ h; omega
theorem wb_way {N : Nat} {es : List (List Int)} (hi : Inn N es) {i j : Nat} : WB es N i j ↔ Way es i j := by
  refine ⟨WB.way, fun h => ?_⟩
  induction h with
  | one e => exact WB.edge e N
  | cons e _ ih => exact WB.trans (e.lt hi) (WB.edge e N) ih
theorem Way.lt {N : Nat} {es : List (List Int)} (hi : Inn N es) {i j : Nat} (h : Way es i j) : j < N := by
  induction h with
  | one e => exact e.lt hi
  | cons _ _ ih => exact ih
/-! bits -/
def stepB (b : Nat) (ms : List Nat) : List Nat := ms.map fun m => bif m.testBit b then m ||| ms.getD b 0 else m
def behN (es : List (List Int)) : Nat → List Nat
  | 0 => es.map maskL
  | b + 1 => stepB b (behN es b)
theorem behN_len (es : List (List Int)) : ∀ b, (behN es b).length = es.length
  | 0 => by simp [behN]
  | b + 1 => by simp [behN, stepB, behN_len es b]
theorem stepB_get {b i : Nat} {ms : List Nat} (h : i < ms.length) : (stepB b ms).getD i 0 = bif (ms.getD i 0).testBit b then ms.getD i 0 ||| ms.getD b 0 else ms.getD i 0 := by
  simp [stepB, List.getD, h]
theorem map_mask_get {es : List (List Int)} {i : Nat} : (es.map maskL).getD i 0 = maskL (es.getD i []) := by
  by_cases h : i < es.length
  · simp [List.getD, h]
  · simp [List.getD, Nat.le_of_not_lt h, maskL]
theorem behN_bit {N : Nat} {es : List (List Int)} (hl : es.length = N) (hi : Inn N es) : ∀ b, b ≤ N → ∀ i j, ((behN es b).getD i 0).testBit j = true ↔ WB es b i j
  | 0, _, i, j => by
    show ((es.map maskL).getD i 0).testBit j = true ↔ _
    rw [map_mask_get, maskL_bit _ (fun x hx => (hi i x hx).1)]; exact Iff.rfl
  | b + 1, hb, i, j => by
    have ih := behN_bit hl hi b (by omega)
    by_cases h : i < N
    · have hlen : i < (behN es b).length := by rw [behN_len]; omega
      simp only [behN, WB]; rw [stepB_get hlen, ← ih, ← ih, ← ih]
      cases hb' : ((behN es b).getD i 0).testBit b with
      | true => simp [Nat.testBit_or]
      | false => simp
    · have h1 : (behN es (b + 1)).getD i 0 = 0 := by
        have := behN_len es (b + 1); simp [List.getD, Nat.le_of_not_lt (show ¬ i < (behN es (b + 1)).length by omega)]
      have h2 : (behN es b).getD i 0 = 0 := by
        have := behN_len es b; simp [List.getD, Nat.le_of_not_lt (show ¬ i < (behN es b).length by omega)]
      rw [h1]; simp only [WB]; rw [← ih i j, ← ih i b, h2]; simp
theorem behN_way {N : Nat} {es : List (List Int)} (hl : es.length = N) (hi : Inn N es) (i j : Nat) : ((behN es N).getD i 0).testBit j = true ↔ Way es i j :=
  (behN_bit hl hi N (Nat.le_refl _) i j).trans (wb_way hi)
theorem mask_get_lt {N : Nat} {es : List (List Int)} (h64 : N ≤ 64) (hi : Inn N es) (i : Nat) : maskL (es.getD i []) < 2 ^ 64 := maskL_lt _ fun x hx => by have := hi i x hx; omega
theorem stepB_lt {b : Nat} {ms : List Nat} (h : ∀ i, ms.getD i 0 < 2 ^ 64) (i : Nat) : (stepB b ms).getD i 0 < 2 ^ 64 := by
  by_cases hi : i < ms.length
  · rw [stepB_get hi]
    cases (ms.getD i 0).testBit b with
    | true => exact Nat.or_lt_two_pow (h i) (h b)
    | false => exact h i
  · simp [stepB, List.getD, Nat.le_of_not_lt hi]
theorem behN_lt {N : Nat} {es : List (List Int)} (h64 : N ≤ 64) (hi : Inn N es) : ∀ b i, (behN es b).getD i 0 < 2 ^ 64
  | 0, i => by show (es.map maskL).getD i 0 < _; rw [map_mask_get]; exact mask_get_lt h64 hi i
  | b + 1, i => stepB_lt (behN_lt h64 hi b) i
def rndN (ms : List Nat) : Nat → Nat
  | 0 => 0
  | k + 1 => rndN ms k ||| (ms.getD k 0 &&& 2 ^ k)
theorem rndN_bit (ms : List Nat) : ∀ k i, (rndN ms k).testBit i = true ↔ i < k ∧ (ms.getD i 0).testBit i = true
  | 0, i => by simp [rndN]
  | k + 1, i => by
    simp only [rndN, Nat.testBit_or, Bool.or_eq_true, Nat.testBit_and, Nat.testBit_two_pow, Bool.and_eq_true, decide_eq_true_eq, rndN_bit ms k i]
    constructor
    · rintro (⟨h1, h2⟩ | ⟨h1, rfl⟩)
      · exact ⟨by omega, h2⟩
      · exact ⟨by omega, h1⟩
    · rintro ⟨h1, h2⟩
      by_cases e : k = i
      · subst e; exact .inr ⟨h2, rfl⟩
      · exact .inl ⟨by omega, h2⟩
theorem rndN_lt {ms : List Nat} (h : ∀ i, ms.getD i 0 < 2 ^ 64) : ∀ k, rndN ms k < 2 ^ 64
  | 0 => by show 0 < 2 ^ 64; omega
  | k + 1 => Nat.or_lt_two_pow (rndN_lt h k) (Nat.lt_of_le_of_lt Nat.and_le_left (h k))
theorem and_ne_zero {a b : Nat} : (a &&& b) ≠ 0 ↔ ∃ j, a.testBit j = true ∧ b.testBit j = true := by
  constructor
  · intro h
    apply Classical.byContradiction
    intro hn
    apply h
    apply Nat.eq_of_testBit_eq
    intro j
    rw [Nat.testBit_and, Nat.zero_testBit]
    cases h1 : a.testBit j <;> cases h2 : b.testBit j <;> simp
    exact hn ⟨j, h1, h2⟩
  · rintro ⟨j, h1, h2⟩ h
    have : (a &&& b).testBit j = true := by rw [Nat.testBit_and, h1, h2]; rfl
    rw [h, Nat.zero_testBit] at this; cases this
def cycB (es : List (List Int)) (i : Nat) : Bool := ((behN es es.length).getD i 0 &&& rndN (behN es es.length) es.length) != 0
theorem cyc_iff {N : Nat} {es : List (List Int)} (hl : es.length = N) (hi : Inn N es) {i : Nat} : cycB es i = true ↔ ∃ j, Way es i j ∧ Way es j j := by
  unfold cycB
  rw [bne_iff_ne, and_ne_zero, hl]
  constructor
  · rintro ⟨j, h1, h2⟩
    have h2' := (rndN_bit _ N j).1 h2
    exact ⟨j, (behN_way hl hi i j).1 h1, (behN_way hl hi j j).1 h2'.2⟩
  · rintro ⟨j, h1, h2⟩
    exact ⟨j, (behN_way hl hi i j).2 h1, (rndN_bit _ N j).2 ⟨h2.lt hi, (behN_way hl hi j j).2 h2⟩⟩
theorem cyc_up {N : Nat} {es : List (List Int)} (hl : es.length = N) (hi : Inn N es) {i k : Nat} (he : Ed es i k) (h : cycB es k = true) : cycB es i = true := by
  obtain ⟨j, h1, h2⟩ := (cyc_iff hl hi).1 h
  exact (cyc_iff hl hi).2 ⟨j, .cons he h1, h2⟩
theorem cyc_down {N : Nat} {es : List (List Int)} (hl : es.length = N) (hi : Inn N es) {i : Nat} (h : cycB es i = true) : ∃ k, Ed es i k ∧ cycB es k = true := by
  obtain ⟨j, h1, h2⟩ := (cyc_iff hl hi).1 h
  cases h1 with
  | one e => exact ⟨j, e, (cyc_iff hl hi).2 ⟨j, h2, h2⟩⟩
  | cons e h => exact ⟨_, e, (cyc_iff hl hi).2 ⟨j, h, h2⟩⟩
/-! what a task becomes -/
def vst (c v : Int) : Int := if v = 6 then 6 else if v = 0 ∧ c = 5 then 0 else c
def verF (es : List (List Int)) (own : List Int) : Nat → Nat → Int
  | 0, _ => 7
  | m + 1, i => bif cycB es i then 7 else (es.getD i []).foldl (fun c x => vst c (verF es own m x.toNat)) (own.getD i 0)
def ver (es : List (List Int)) (own : List Int) (i : Nat) : Int := verF es own (es.length + 1) i
def rk (es : List (List Int)) (i : Nat) : Nat := (List.range es.length).countP fun j => ((behN es es.length).getD i 0).testBit j
theorem countP_lt' {p q : Nat → Bool} {l : List Nat} (h : ∀ x, p x = true → q x = true) {a : Nat} (ha : a ∈ l) (hq : q a = true) (hp : p a = false) : l.countP p < l.countP q := by
  induction l with
  | nil => cases ha
  | cons x l ih =>
    have hle : ∀ l : List Nat, l.countP p ≤ l.countP q := fun l => List.countP_mono_left (fun x _ hx => h x hx)
    rw [List.countP_cons, List.countP_cons]
    rcases List.mem_cons.1 ha with rfl | ha
    · rw [hq, hp]; have := hle l; simp; omega
    · have := ih ha
      cases hx : p x with
      | true => rw [h x hx]; simp; omega
      | false => cases q x <;> simp <;> omega
theorem rk_lt {N : Nat} {es : List (List Int)} (hl : es.length = N) (hi : Inn N es) {i k : Nat} (he : Ed es i k) (hc : cycB es i = false) : rk es k < rk es i := by
  unfold rk; rw [hl]
  refine countP_lt' (a := k) (fun x hx => ?_) (List.mem_range.2 (he.lt hi)) ((behN_way hl hi i k).2 (.one he)) ?_
  · exact (behN_way hl hi i x).2 (.cons he ((behN_way hl hi k x).1 hx))
  · cases hb : ((behN es N).getD k 0).testBit k with
    | false => rfl
    | true =>
      have hw := (behN_way hl hi k k).1 hb
      rw [(cyc_iff hl hi).2 ⟨k, .one he, hw⟩] at hc; cases hc
theorem rk_le (es : List (List Int)) (i : Nat) : rk es i ≤ es.length := by
  unfold rk; have := List.countP_le_length (p := fun j => ((behN es es.length).getD i 0).testBit j) (l := List.range es.length); simpa using this
theorem foldl_congr' {α β : Type} {f g : α → β → α} {l : List β} (h : ∀ x ∈ l, ∀ a, f a x = g a x) : ∀ a, l.foldl f a = l.foldl g a := by
  induction l with
  | nil => exact fun _ => rfl
  | cons x l ih =>
    intro a; rw [List.foldl_cons, List.foldl_cons, h x (List.mem_cons_self ..)]
    exact ih (fun y hy => h y (List.mem_cons_of_mem _ hy)) _
theorem edge_of {N : Nat} {es : List (List Int)} (hi : Inn N es) {i : Nat} {x : Int} (h : x ∈ es.getD i []) : Ed es i x.toNat := by
  have := hi i x h; unfold Ed; rw [Int.toNat_of_nonneg this.1]; exact h
theorem verF_eq {N : Nat} {es : List (List Int)} {own : List Int} (hl : es.length = N) (hi : Inn N es) : ∀ m m' i, rk es i < m → rk es i < m' → verF es own m i = verF es own m' i
  | 0, _, _, h, _ => absurd h (by omega)
  | _ + 1, 0, _, _, h => absurd h (by omega)
  | m + 1, m' + 1, i, h, h' => by
    simp only [verF]
    cases hc : cycB es i with
    | true => rfl
    | false =>
      simp only [cond_false]
      apply foldl_congr'
      intro x hx a
      have := rk_lt hl hi (edge_of hi hx) hc
      rw [verF_eq hl hi m m' x.toNat (by omega) (by omega)]
theorem ver_eq {N : Nat} {es : List (List Int)} {own : List Int} (hl : es.length = N) (hi : Inn N es) (i : Nat) :
    ver es own i = bif cycB es i then 7 else (es.getD i []).foldl (fun c x => vst c (ver es own x.toNat)) (own.getD i 0) := by
  show verF es own (es.length + 1) i = _
  simp only [verF]
  cases hc : cycB es i with
  | true => rfl
  | false =>
    simp only [cond_false]
    apply foldl_congr'
    intro x hx a
    have := rk_lt hl hi (edge_of hi hx) hc
    have := rk_le es i
    show vst a (verF es own es.length x.toNat) = vst a (verF es own (es.length + 1) x.toNat)
    rw [verF_eq hl hi _ (es.length + 1) x.toNat (by omega) (by omega)]
theorem ver_cyc {N : Nat} {es : List (List Int)} {own : List Int} (hl : es.length = N) (hi : Inn N es) {i : Nat} (h : cycB es i = true) : ver es own i = 7 := by rw [ver_eq hl hi, h]; rfl
/-- so many edges are told -/
def verP (es : List (List Int)) (own : List Int) (i k : Nat) : Int := ((es.getD i []).take k).foldl (fun c x => vst c (ver es own x.toNat)) (own.getD i 0)
theorem verP_zero (es : List (List Int)) (own : List Int) (i : Nat) : verP es own i 0 = own.getD i 0 := by simp [verP]
theorem verP_succ {es : List (List Int)} {own : List Int} {i k : Nat} (h : k < (es.getD i []).length) : verP es own i (k + 1) = vst (verP es own i k) (ver es own ((es.getD i []).getD k 0).toNat) := by
  unfold verP
  rw [take_succ_i h, List.foldl_append]; rfl
theorem verP_end {N : Nat} {es : List (List Int)} {own : List Int} (hl : es.length = N) (hi : Inn N es) {i k : Nat} (hc : cycB es i = false) (h : (es.getD i []).length ≤ k) : verP es own i k = ver es own i := by
  rw [ver_eq hl hi, hc]; unfold verP; rw [List.take_of_length_le h]; rfl
theorem vst_in {c v : Int} (h : c = 0 ∨ c = 5 ∨ c = 6) : vst c v = 0 ∨ vst c v = 5 ∨ vst c v = 6 := by unfold vst; split; exact .inr (.inr rfl); split; exact .inl rfl; exact h
theorem fold_in {f : Int → Int} : ∀ {l : List Int} {c : Int}, (c = 0 ∨ c = 5 ∨ c = 6) → (l.foldl (fun c x => vst c (f x)) c = 0 ∨ l.foldl (fun c x => vst c (f x)) c = 5 ∨ l.foldl (fun c x => vst c (f x)) c = 6)
  | [], _, h => h
  | x :: l, c, h => fold_in (l := l) (vst_in h)
theorem fold_val {f : Int → Int} : ∀ {l : List Int} {c : Int}, (c = 0 ∨ c = 5 ∨ c = 6) → (∀ x ∈ l, f x = 0 ∨ f x = 5 ∨ f x = 6) →
    ((l.foldl (fun c x => vst c (f x)) c = 6 ↔ c = 6 ∨ ∃ x ∈ l, f x = 6) ∧ (l.foldl (fun c x => vst c (f x)) c = 5 ↔ c = 5 ∧ ∀ x ∈ l, f x = 5))
  | [], c, h, _ => by simp
  | x :: l, c, h, hx => by
    have ih := fold_val (l := l) (f := f) (vst_in (v := f x) h) (fun y hy => hx y (List.mem_cons_of_mem _ hy))
    have h0 := hx x (List.mem_cons_self ..)
    simp only [List.foldl_cons]
    rw [ih.1, ih.2]
    constructor
    · constructor
      · rintro (h1 | ⟨y, hy, hy'⟩)
        · unfold vst at h1
          split at h1
          · exact .inr ⟨x, List.mem_cons_self .., by assumption⟩
          · split at h1
            · cases h1
            · exact .inl h1
        · exact .inr ⟨y, List.mem_cons_of_mem _ hy, hy'⟩
      · rintro (h1 | ⟨y, hy, hy'⟩)
        · left; unfold vst; split
          · rfl
          · rw [if_neg (by omega)]; exact h1
        · rcases List.mem_cons.1 hy with rfl | hy
          · left; unfold vst; rw [if_pos hy']
          · exact .inr ⟨y, hy, hy'⟩
    · constructor
      · rintro ⟨h1, h2⟩
        unfold vst at h1
        split at h1
        · cases h1
        · split at h1
          · cases h1
          · refine ⟨h1, fun y hy => ?_⟩
            rcases List.mem_cons.1 hy with rfl | hy
            · omega
            · exact h2 y hy
      · rintro ⟨h1, h2⟩
        refine ⟨?_, fun y hy => h2 y (List.mem_cons_of_mem _ hy)⟩
        have := h2 x (List.mem_cons_self ..)
        unfold vst; rw [if_neg (by omega), if_neg (by omega)]; exact h1
theorem cyc_child {N : Nat} {es : List (List Int)} (hl : es.length = N) (hi : Inn N es) {i : Nat} (hc : cycB es i = false) {x : Int} (hx : x ∈ es.getD i []) : cycB es x.toNat = false := by
  cases h : cycB es x.toNat with
  | false => rfl
  | true => rw [cyc_up hl hi (edge_of hi hx) h] at hc; cases hc
theorem ver_in {N : Nat} {es : List (List Int)} {own : List Int} (h : FOk N es own) {i : Nat} (hN : i < N) (hc : cycB es i = false) : ver es own i = 0 ∨ ver es own i = 5 ∨ ver es own i = 6 := by
  rw [ver_eq h.le h.in_, hc]; exact fold_in (h.kinds i hN)
theorem verP_in {N : Nat} {es : List (List Int)} {own : List Int} (h : FOk N es own) {i : Nat} (hN : i < N) (k : Nat) : verP es own i k = 0 ∨ verP es own i k = 5 ∨ verP es own i k = 6 := fold_in (h.kinds i hN)
theorem ver_ne {N : Nat} {es : List (List Int)} {own : List Int} (h : FOk N es own) {i : Nat} (hN : i < N) : ver es own i ≠ -1 := by
  cases hc : cycB es i with
  | true => rw [ver_cyc h.le h.in_ hc]; decide
  | false => have := ver_in h hN hc; omega
theorem ver_7 {N : Nat} {es : List (List Int)} {own : List Int} (h : FOk N es own) {i : Nat} (hN : i < N) : ver es own i = 7 ↔ cycB es i = true := by
  cases hc : cycB es i with
  | true => simp [ver_cyc h.le h.in_ hc]
  | false => have := ver_in h hN hc; constructor; intro h'; omega; intro h'; cases h'
theorem ver_6 {N : Nat} {es : List (List Int)} {own : List Int} (h : FOk N es own) {i : Nat} (hN : i < N) (hc : cycB es i = false) : ver es own i = 6 ↔ own.getD i 0 = 6 ∨ ∃ x ∈ es.getD i [], ver es own x.toNat = 6 := by
  rw [ver_eq h.le h.in_, hc]
  exact (fold_val (f := fun x => ver es own x.toNat) (h.kinds i hN) (fun x hx => ver_in h (by have := h.in_ i x hx; omega) (cyc_child h.le h.in_ hc hx))).1
theorem ver_5 {N : Nat} {es : List (List Int)} {own : List Int} (h : FOk N es own) {i : Nat} (hN : i < N) (hc : cycB es i = false) : ver es own i = 5 ↔ own.getD i 0 = 5 ∧ ∀ x ∈ es.getD i [], ver es own x.toNat = 5 := by
  rw [ver_eq h.le h.in_, hc]
  exact (fold_val (f := fun x => ver es own x.toNat) (h.kinds i hN) (fun x hx => ver_in h (by have := h.in_ i x hx; omega) (cyc_child h.le h.in_ hc hx))).2
def verL (es : List (List Int)) (own : List Int) : List Int := (List.range es.length).map (ver es own)
theorem verL_len (es : List (List Int)) (own : List Int) : (verL es own).length = es.length := by simp [verL]
theorem verL_get {es : List (List Int)} {own : List Int} {i : Nat} (h : i < es.length) : (verL es own).getD i 0 = ver es own i := by simp [verL, List.getD, h]
end Go.Proofs.Ytljnaefaahphaaa.Sp
