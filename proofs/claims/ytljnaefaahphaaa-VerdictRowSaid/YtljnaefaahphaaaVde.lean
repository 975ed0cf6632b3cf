/- Verdicts: the plain laws of chapter 17: each verdict is what the verdicts behind it make it; rows. No program in it. -/
import Derived.Test.YtljnaefaahphaaaVdl
namespace Go.Proofs.Ytljnaefaahphaaa.Sp
open Go
/-! VerdictFixed -/
structure FixI (es : List (List Int)) (own : List Int) (i k : Nat) (d f c : Bool) : Prop where
  hd : d = ((es.getD i []).take k).all fun x => ver es own x.toNat == 5
  hf : f = ((es.getD i []).take k).any fun x => ver es own x.toNat == 6
  hc : c = ((es.getD i []).take k).any fun x => ver es own x.toNat == 7
theorem FixI.start (es : List (List Int)) (own : List Int) (i : Nat) : FixI es own i 0 true false false := ⟨by simp, by simp, by simp⟩
theorem FixI.next {es : List (List Int)} {own : List Int} {i k : Nat} {d f c : Bool} (h : FixI es own i k d f c) (hk : k < (es.getD i []).length) :
    FixI es own i (k + 1) (d && ver es own ((es.getD i []).getD k 0).toNat == 5) (f || ver es own ((es.getD i []).getD k 0).toNat == 6) (c || ver es own ((es.getD i []).getD k 0).toNat == 7) := by
  refine ⟨?_, ?_, ?_⟩
  · rw [take_succ_i hk, List.all_append, ← h.hd]; simp
  · rw [take_succ_i hk, List.any_append, ← h.hf]; simp
  · rw [take_succ_i hk, List.any_append, ← h.hc]; simp
theorem ver_at {N : Nat} {es : List (List Int)} {own : List Int} (h : FOk N es own) {i : Nat} (hN : i < N) :
    ver es own i = if ((es.getD i []).any fun x => ver es own x.toNat == 7) = true then 7 else if own.getD i 0 = 6 ∨ ((es.getD i []).any fun x => ver es own x.toNat == 6) = true then 6
      else if own.getD i 0 = 5 ∧ ((es.getD i []).all fun x => ver es own x.toNat == 5) = true then 5 else 0 := by
  have hl := h.le; have hi := h.in_
  cases hc : cycB es i with
  | true =>
    obtain ⟨k, he, hk⟩ := cyc_down hl hi hc
    rw [if_pos, ver_cyc hl hi hc]
    rw [List.any_eq_true]
    exact ⟨(k : Int), he, by rw [Int.toNat_natCast, ver_cyc hl hi hk]; rfl⟩
  | false =>
    have hch : ∀ x ∈ es.getD i [], x.toNat < N ∧ cycB es x.toNat = false := fun x hx => ⟨by have := hi i x hx; omega, cyc_child hl hi hc hx⟩
    rw [if_neg (by
      rw [List.any_eq_true]; rintro ⟨x, hx, h7⟩
      have := ver_in h (hch x hx).1 (hch x hx).2; rw [beq_iff_eq] at h7; omega)]
    have h6 := ver_6 h hN hc; have h5 := ver_5 h hN hc; have hin := ver_in h hN hc
    have e6 : ((es.getD i []).any fun x => ver es own x.toNat == 6) = true ↔ ∃ x ∈ es.getD i [], ver es own x.toNat = 6 := by rw [List.any_eq_true]; simp
    have e5 : ((es.getD i []).all fun x => ver es own x.toNat == 5) = true ↔ ∀ x ∈ es.getD i [], ver es own x.toNat = 5 := by rw [List.all_eq_true]; simp
    have o6 : (own.getD i 0 = 6 ∨ ((es.getD i []).any fun x => ver es own x.toNat == 6) = true) ↔ ver es own i = 6 := by rw [e6, ← h6]
    have o5 : (own.getD i 0 = 5 ∧ ((es.getD i []).all fun x => ver es own x.toNat == 5) = true) ↔ ver es own i = 5 := by rw [e5, ← h5]
    by_cases a6 : ver es own i = 6
    · rw [if_pos (o6.2 a6)]; exact a6
    · rw [if_neg (fun q => a6 (o6.1 q))]
      by_cases a5 : ver es own i = 5
      · rw [if_pos (o5.2 a5)]; exact a5
      · rw [if_neg (fun q => a5 (o5.1 q))]
        rcases hin with h | h | h
        · exact h
        · exact absurd h a5
        · exact absurd h a6
theorem fix_want {N : Nat} {es : List (List Int)} {own : List Int} (h : FOk N es own) {i k : Nat} (hN : i < N) {d f c : Bool} (hF : FixI es own i k d f c) (hk : (es.getD i []).length ≤ k) :
    (verL es own).getD i 0 = if c = true then 7 else if own.getD i 0 = 6 ∨ f = true then 6 else if own.getD i 0 = 5 ∧ d = true then 5 else 0 := by
  have h1 := hF.hd; have h2 := hF.hf; have h3 := hF.hc
  rw [List.take_of_length_le hk] at h1 h2 h3
  rw [verL_get (by have := h.le; omega), ver_at h hN, h1, h2, h3]
/-! VerdictRow -/
def rowE (n k : Nat) : List (List Int) := (List.range n).map fun j => if j < k then [((j + 1 : Nat) : Int)] else []
theorem rowE_len (n k : Nat) : (rowE n k).length = n := by simp [rowE]
theorem rowE_get {n k j : Nat} (h : j < n) : (rowE n k).getD j [] = if j < k then [((j + 1 : Nat) : Int)] else [] := by simp [rowE, List.getD, h]
theorem rowE_big {n k j : Nat} (h : n ≤ j) : (rowE n k).getD j [] = [] := by simp [List.getD, Nat.not_lt.2 h, rowE]
theorem getD_extL {l m : List (List Int)} (h : l.length = m.length) (k : ∀ i, i < l.length → l.getD i [] = m.getD i []) : l = m := by
  apply List.ext_getElem h
  intro i h1 h2
  have := k i h1
  simpa [List.getD, h1, h2] using this
theorem rowE_zero (n : Nat) (k : Nat) : madeG n (([] : List (Int × Int)).take k) = rowE n 0 := by
  rw [List.take_nil]
  refine getD_extL (by simp [madeG, rowE]) fun i hi => ?_
  rw [madeG_len] at hi
  rw [rowE_get hi, if_neg (by omega)]; exact repL n i
theorem rowE_succ {n k : Nat} (h : k < n) : (rowE n k).set k [((k + 1 : Nat) : Int)] = rowE n (k + 1) := by
  refine getD_extL (by simp [rowE]) fun i hi => ?_
  rw [List.length_set, rowE_len] at hi
  rw [setL (by rw [rowE_len]; exact h), rowE_get hi, rowE_get hi]
  by_cases e : i = k
  · subst e; rw [if_pos rfl, if_pos (by omega)]
  · rw [if_neg e]
    by_cases e2 : i < k
    · rw [if_pos e2, if_pos (by omega)]
    · rw [if_neg e2, if_neg (by omega)]
theorem rowE_ed {n i j : Nat} (h : Ed (rowE n (n - 1)) i j) : j = i + 1 ∧ j < n := by
  unfold Ed at h
  by_cases hi : i < n
  · rw [rowE_get hi] at h
    split at h
    · rw [List.mem_singleton] at h; omega
    · cases h
  · rw [rowE_big (by omega)] at h; cases h
theorem rowE_fok {n : Nat} (h : n ≤ 64) (ow : List Int) : FOk n (rowE n (n - 1)) (madeO n ow) := by
  refine ⟨h, rowE_len _ _, madeO_len _ _, rows_of_getD fun i hi x hx => ?_, fun _ hi => madeO_in hi⟩
  rw [rowE_len] at hi
  rw [rowE_get hi] at hx
  split at hx
  · rw [List.mem_singleton] at hx; omega
  · cases hx
theorem rowE_rows (n k : Nat) : ∀ l ∈ rowE n k, l.length ≤ 1000000 := rows_of_getD fun i hi => by
  rw [rowE_len] at hi
  rw [rowE_get hi]; split <;> simp
theorem rowE_way {n i j : Nat} (h : Way (rowE n (n - 1)) i j) : i < j := by
  induction h with
  | one e => have := rowE_ed e; omega
  | cons e _ ih => have := rowE_ed e; omega
theorem rowE_cyc {n : Nat} (h : n ≤ 64) (i : Nat) : cycB (rowE n (n - 1)) i = false := by
  cases hc : cycB (rowE n (n - 1)) i with
  | false => rfl
  | true =>
    have hf := rowE_fok h []
    obtain ⟨j, _, hj⟩ := (cyc_iff hf.le hf.in_).1 hc
    exact absurd (rowE_way hj) (by omega)
def nowR (n : Nat) (own : List Int) (m : Nat) : Int := if m < n then ver (rowE n (n - 1)) own m else 5
theorem row_ver {n m : Nat} (h : n ≤ 64) (ow : List Int) (hm : m < n) : ver (rowE n (n - 1)) (madeO n ow) m = vst ((madeO n ow).getD m 0) (nowR n (madeO n ow) (m + 1)) := by
  have hf := rowE_fok h ow
  rw [ver_eq hf.le hf.in_, rowE_cyc h, rowE_get hm]
  unfold nowR
  by_cases e : m < n - 1
  · rw [if_pos e, if_pos (by omega)]; simp only [cond_false, List.foldl_cons, List.foldl_nil, Int.toNat_natCast]
  · rw [if_neg e, if_neg (by omega)]; simp only [cond_false, List.foldl_nil]; unfold vst; simp
theorem nowR_in {n : Nat} (h : n ≤ 64) (ow : List Int) (m : Nat) : nowR n (madeO n ow) m = 0 ∨ nowR n (madeO n ow) m = 5 ∨ nowR n (madeO n ow) m = 6 := by
  unfold nowR
  split
  · exact ver_in (rowE_fok h ow) ‹_› (rowE_cyc h m)
  · exact .inr (.inl rfl)
theorem row_6 {n m : Nat} (h : n ≤ 64) (ow : List Int) (hm : m < n) (h6 : (madeO n ow).getD m 0 = 6 ∨ nowR n (madeO n ow) (m + 1) = 6) : (verL (rowE n (n - 1)) (madeO n ow)).getD m 0 = 6 := by
  rw [verL_get (by rw [rowE_len]; exact hm), row_ver h ow hm]
  unfold vst
  by_cases e : nowR n (madeO n ow) (m + 1) = 6
  · rw [if_pos e]
  · rw [if_neg e]; rcases h6 with h6 | h6
    · rw [if_neg (by omega)]; exact h6
    · exact absurd h6 e
theorem row_0 {n m : Nat} (h : n ≤ 64) (ow : List Int) (hm : m < n) (h6 : ¬ nowR n (madeO n ow) (m + 1) = 6) (h0 : (madeO n ow).getD m 0 = 0) : (verL (rowE n (n - 1)) (madeO n ow)).getD m 0 = 0 := by
  rw [verL_get (by rw [rowE_len]; exact hm), row_ver h ow hm]
  unfold vst; rw [if_neg h6, if_neg (by omega)]; exact h0
theorem row_5 {n m : Nat} (h : n ≤ 64) (ow : List Int) (hm : m < n) (h6 : ¬ nowR n (madeO n ow) (m + 1) = 6) (h6' : ¬ (madeO n ow).getD m 0 = 6) (h0 : ¬ (madeO n ow).getD m 0 = 0) : (verL (rowE n (n - 1)) (madeO n ow)).getD m 0 = nowR n (madeO n ow) (m + 1) := by
  rw [verL_get (by rw [rowE_len]; exact hm), row_ver h ow hm]
  have h1 := madeO_in (N := n) (ow := ow) hm
  have h2 := nowR_in h ow (m + 1)
  unfold vst; rw [if_neg h6]; split <;> omega
theorem nowR_ver {n m : Nat} (h : m < n) (own : List Int) : nowR n own m = (verL (rowE n (n - 1)) own).getD m 0 := by
  unfold nowR; rw [if_pos h, verL_get (by rw [rowE_len]; exact h)]
end Go.Proofs.Ytljnaefaahphaaa.Sp
