/- Heaps: what the laws ask. No program in it. -/
import Derived.Test.YtombnfgkgcjihaaHpm
set_option linter.unusedVariables false
set_option linter.unusedSimpArgs false
namespace Go.Proofs.Ytombnfgkgcjihaa.Sp
open Go
/-! how many -/
theorem cntK_count (ks : Ks) : cntK ks = ks.countP Option.isSome := by unfold cntK; rw [List.countP_eq_length_filter]
theorem getD_some_lt {ks : Ks} {i : Nat} {k : Int} (h : ks.getD i none = some k) : i < ks.length := by
  by_cases hi : i < ks.length
  · exact hi
  · simp [List.getD, show ks.length ≤ i by omega] at h
theorem getK {ks : Ks} {i : Nat} (h : i < ks.length) : ks[i] = ks.getD i none := by simp [List.getD, h]
theorem cnt_none {ks : Ks} {i : Nat} {k : Int} (h : ks.getD i none = some k) : cntK (ks.set i none) + 1 = cntK ks := by
  have hi := getD_some_lt h
  have h1 : 0 < ks.countP Option.isSome := List.countP_pos_iff.2 ⟨ks[i], List.getElem_mem hi, by rw [getK hi, h]; rfl⟩
  rw [cntK_count, cntK_count, List.countP_set hi, getK hi, h]; simp; omega
theorem cnt_new {ks : Ks} {i : Nat} {k : Int} (hi : i < ks.length) (h : ks.getD i none = none) : cntK (ks.set i (some k)) = cntK ks + 1 := by
  rw [cntK_count, cntK_count, List.countP_set hi, getK hi, h]; simp
theorem cnt_same {ks : Ks} {i : Nat} {k k' : Int} (h : ks.getD i none = some k') : cntK (ks.set i (some k)) = cntK ks := by
  have hi := getD_some_lt h
  have h1 : 0 < ks.countP Option.isSome := List.countP_pos_iff.2 ⟨ks[i], List.getElem_mem hi, by rw [getK hi, h]; rfl⟩
  rw [cntK_count, cntK_count, List.countP_set hi, getK hi, h]; simp; omega
theorem cnt_zero {ks : Ks} (h : cntK ks = 0) (i : Nat) : ks.getD i none = none := by
  cases hi : ks.getD i none with
  | none => rfl
  | some k => have := cnt_none hi; omega
theorem cnt_none_iff {ks : Ks} : minK ks 0 = none ↔ cntK ks = 0 := by
  constructor
  · intro h
    rw [cntK_count]
    refine List.countP_eq_zero.2 fun o ho => ?_
    obtain ⟨i, hi, rfl⟩ := List.mem_iff_getElem.1 ho
    rw [getK hi, minK_none h]; simp
  · intro h
    cases hm : minK ks 0 with
    | none => rfl
    | some x => obtain ⟨i, k⟩ := x; have := (minK_some hm).2.1; rw [cnt_zero h] at this; cases this
theorem cnt_rep (n : Nat) : cntK (List.replicate n none) = 0 := by
  rw [cntK_count]; exact List.countP_eq_zero.2 fun o ho => by rw [(List.mem_replicate.1 ho).2]; simp
/-! the least one -/
theorem fst_none {ks : Ks} (h : cntK ks = 0) : fstI ks = 0 ∧ fstV ks = 0 ∧ fstB ks = false ∧ popK ks = ks := by
  have := cnt_none_iff.2 h
  unfold fstI fstV fstB popK; rw [this]; exact ⟨rfl, rfl, rfl, rfl⟩
/-- what Pop tells: a place i, its key k -/
structure IsMin (ks : Ks) (i : Nat) (k : Int) : Prop where
  at_ : ks.getD i none = some k
  le : ∀ (j : Nat) (k' : Int), ks.getD j none = some k' → k < k' ∨ (k = k' ∧ i ≤ j)
  fi : fstI ks = (i : Int)
  fv : fstV ks = k
  fb : fstB ks = true
  pop : popK ks = ks.set i none
theorem fst_some {ks : Ks} (h : 0 < cntK ks) : ∃ i k, IsMin ks i k := by
  cases hm : minK ks 0 with
  | none => have := cnt_none_iff.1 hm; omega
  | some x =>
    obtain ⟨i, k⟩ := x
    obtain ⟨_, h2, h3⟩ := minK_some hm
    refine ⟨i, k, ⟨by simpa using h2, fun j k' e => by have := h3 j k' e; omega, ?_, ?_, ?_, ?_⟩⟩
    · unfold fstI; rw [hm]
    · unfold fstV; rw [hm]
    · unfold fstB; rw [hm]; rfl
    · unfold popK; rw [hm]
theorem fst_cnt (ks : Ks) : fstB ks = decide (((cntK ks : Nat) : Int) > 0) := by
  rcases Nat.eq_zero_or_pos (cntK ks) with h | h
  · rw [(fst_none h).2.2.1, h]; rfl
  · obtain ⟨i, k, hm⟩ := fst_some h
    rw [hm.fb]; symm; rw [decide_eq_true_iff]; omega
theorem has_key {ks : Ks} {x : Int} (h : hasK ks x = true) : 0 ≤ x ∧ ks.getD x.toNat none = some (keyK ks x) := by
  unfold keyK; rw [h, cond_true]
  unfold hasK at h
  simp only [Bool.and_eq_true, decide_eq_true_eq] at h
  refine ⟨h.1, ?_⟩
  cases hg : ks.getD x.toNat none with
  | none => rw [hg] at h; exact absurd h.2 (by simp)
  | some k => rfl
theorem has_of {ks : Ks} {x : Int} {k : Int} (h0 : 0 ≤ x) (h : ks.getD x.toNat none = some k) : hasK ks x = true ∧ keyK ks x = k := by
  have : hasK ks x = true := by unfold hasK; rw [h, decide_eq_true h0]; rfl
  refine ⟨this, ?_⟩
  unfold keyK; rw [this, h]; rfl
theorem has_not {ks : Ks} {x : Int} (h : ks.getD x.toNat none = none) : hasK ks x = false := by unfold hasK; rw [h]; simp
theorem has_cnt {ks : Ks} {x : Int} (h : hasK ks x = true) : 0 < cntK ks := by
  rcases Nat.eq_zero_or_pos (cntK ks) with h0 | h0
  · have := (has_key h).2; rw [cnt_zero h0] at this; cases this
  · exact h0
theorem first_le {ks : Ks} {x : Int} (h : hasK ks x = true) : fstB ks = true ∧ ¬ keyK ks x < fstV ks ∧ ¬ (keyK ks x = fstV ks ∧ x < fstI ks) := by
  obtain ⟨i, k, hm⟩ := fst_some (has_cnt h)
  obtain ⟨h0, h1⟩ := has_key h
  have := hm.le _ _ h1
  rw [hm.fb, hm.fv, hm.fi]
  exact ⟨rfl, by omega, by omega⟩
theorem pop_gone (ks : Ks) (h : fstB ks = true) : hasK (popK ks) (fstI ks) = false := by
  rcases Nat.eq_zero_or_pos (cntK ks) with h0 | h0
  · rw [(fst_none h0).2.2.1] at h; cases h
  · obtain ⟨i, k, hm⟩ := fst_some h0
    rw [hm.pop, hm.fi]
    refine has_not ?_
    rw [Int.toNat_natCast, setK (getD_some_lt hm.at_), if_pos rfl]
theorem pop_len (ks : Ks) : (popK ks).length = ks.length := by unfold popK; split <;> simp
/-! an empty one -/
theorem emp_has (n : Nat) (x : Int) : hasK (List.replicate n none) x = false := has_not (cnt_zero (cnt_rep n) _)
theorem emp_key (n : Nat) (x : Int) : keyK (List.replicate n none) x = 0 := by unfold keyK; rw [emp_has]; rfl
theorem emp_low (n : Nat) (x k : Int) : lowE (List.replicate n none) x k = (bif known n x then 6 else 1) ∧ lowK (List.replicate n none) x k = List.replicate n none := by
  have h : lowE (List.replicate n none) x k = (bif known n x then 6 else 1) := by unfold lowE; rw [emp_has, List.length_replicate]; rfl
  refine ⟨h, ?_⟩
  unfold lowK; rw [h]; cases known n x <;> rfl
theorem emp_rem (n : Nat) (x : Int) : remE (List.replicate n none) x = (bif known n x then 6 else 1) ∧ remK (List.replicate n none) x = List.replicate n none := by
  refine ⟨by unfold remE; rw [emp_has, List.length_replicate]; rfl, by unfold remK; rw [emp_has]; rfl⟩
theorem emp_fst (n : Nat) : fstI (List.replicate n none) = 0 ∧ fstV (List.replicate n none) = 0 ∧ fstB (List.replicate n none) = false ∧ popK (List.replicate n none) = List.replicate n none := fst_none (cnt_rep n)
theorem emp_push (n : Nat) (x k : Int) : pushE (List.replicate n none) x = (bif known n x then 0 else 1) := by unfold pushE; rw [emp_has, List.length_replicate]; rfl
theorem emp_pushed {n : Nat} {x : Int} (h : 0 ≤ x ∧ x < n) (k : Int) : fstI (pushK (List.replicate n none) x k) = x ∧ fstV (pushK (List.replicate n none) x k) = k ∧ fstB (pushK (List.replicate n none) x k) = true ∧ cntK (popK (pushK (List.replicate n none) x k)) = 0 := by
  have hl : x.toNat < (List.replicate n (none : Option Int)).length := by rw [List.length_replicate]; omega
  have hp : pushK (List.replicate n none) x k = (List.replicate n none).set x.toNat (some k) := by
    unfold pushK; rw [emp_push n x k, known_iff.2 h]; rfl
  rw [hp]
  have hc : cntK ((List.replicate n none).set x.toNat (some k)) = 1 := by rw [cnt_new hl (cnt_zero (cnt_rep n) _), cnt_rep]
  obtain ⟨i, k', hm⟩ := fst_some (ks := (List.replicate n none).set x.toNat (some k)) (by omega)
  have hi := hm.at_
  rw [setK hl] at hi
  have e : i = x.toNat := by
    by_cases e : i = x.toNat
    · exact e
    · rw [if_neg e, cnt_zero (cnt_rep n)] at hi; cases hi
  rw [if_pos e] at hi
  simp only [Option.some.injEq] at hi
  refine ⟨by rw [hm.fi]; omega, by rw [hm.fv]; exact hi.symm, hm.fb, ?_⟩
  have := cnt_none hm.at_
  rw [hm.pop]; omega
theorem emp_pushN {n : Nat} {x : Int} (h : ¬ (0 ≤ x ∧ x < n)) (k : Int) : pushK (List.replicate n none) x k = List.replicate n none := by
  have hk : known n x = false := by cases hq : known n x with | false => rfl | true => exact absurd (known_iff.1 hq) h
  unfold pushK; rw [emp_push n x k, hk]; rfl
/-! what is pushed, one behind the other -/
/-- the first i of these keys, of the ids from 0 on -/
def prtK (keys : List Int) (n i : Nat) : Ks := (keys.take i).map some ++ List.replicate (n - i) none
theorem prtK_zero (keys : List Int) (n : Nat) : prtK keys n 0 = List.replicate n none := by simp [prtK]
theorem prtK_len {keys : List Int} {n i : Nat} (hn : n ≤ keys.length) (hi : i ≤ n) : (prtK keys n i).length = n := by unfold prtK; simp; omega
theorem prtK_get {keys : List Int} {n i x : Nat} (hn : n ≤ keys.length) (hi : i ≤ n) : (prtK keys n i).getD x none = if x < i then some (keys.getD x 0) else none := by
  unfold prtK
  by_cases h : x < i
  · rw [if_pos h, List.getD_eq_getElem?_getD, List.getElem?_append_left (by simp; omega), List.getElem?_map, List.getElem?_take, if_pos h]
    simp [List.getD, show x < keys.length by omega]
  · rw [if_neg h, List.getD_eq_getElem?_getD, List.getElem?_append_right (by simp; omega), List.getElem?_replicate]; split <;> rfl
theorem prtK_push {keys : List Int} {n i : Nat} (hn : n ≤ keys.length) (hi : i < n) : pushE (prtK keys n i) (i : Int) = 0 ∧ pushK (prtK keys n i) (i : Int) (keys.getD i 0) = prtK keys n (i + 1) := by
  have hl := prtK_len hn (Nat.le_of_lt hi)
  have h1 : hasK (prtK keys n i) (i : Int) = false := has_not (by rw [Int.toNat_natCast, prtK_get hn (Nat.le_of_lt hi), if_neg (by omega)])
  have h2 : pushE (prtK keys n i) (i : Int) = 0 := by unfold pushE; rw [h1, hl, known_iff.2 ⟨by omega, by omega⟩]; rfl
  refine ⟨h2, ?_⟩
  unfold pushK; rw [h2]
  show (prtK keys n i).set (i : Int).toNat (some (keys.getD i 0)) = _
  refine ks_ext (n := n) (by rw [List.length_set]; exact hl) (prtK_len hn hi) fun x hx => ?_
  rw [setK (by omega), prtK_get hn (Nat.le_of_lt hi), prtK_get hn hi, Int.toNat_natCast]
  by_cases e : x = i
  · subst e; rw [if_pos rfl, if_pos (by omega)]
  · rw [if_neg e]
    by_cases e2 : x < i
    · rw [if_pos e2, if_pos (by omega)]
    · rw [if_neg e2, if_neg (by omega)]
/-- all but some -/
def selK (keys : List Int) (gone : List Bool) (n : Nat) : Ks := (List.range n).map fun x => if gone.getD x false then none else some (keys.getD x 0)
theorem selK_len (keys : List Int) (gone : List Bool) (n : Nat) : (selK keys gone n).length = n := by simp [selK]
theorem selK_get {keys : List Int} {gone : List Bool} {n x : Nat} (h : x < n) : (selK keys gone n).getD x none = if gone.getD x false then none else some (keys.getD x 0) := by
  unfold selK; rw [List.getD_eq_getElem?_getD, List.getElem?_map, List.getElem?_range h]; rfl
theorem selK_all {keys : List Int} {n : Nat} (hn : n ≤ keys.length) : prtK keys n n = selK keys (List.replicate n false) n := by
  refine ks_ext (n := n) (prtK_len hn (Nat.le_refl _)) (selK_len ..) fun x hx => ?_
  rw [prtK_get hn (Nat.le_refl _), selK_get hx, if_pos hx, rep_at hx]; rfl
theorem selK_has {keys : List Int} {gone : List Bool} {n : Nat} {x : Int} (h : 0 ≤ x ∧ x < n) : hasK (selK keys gone n) x = !gone.getD x.toNat false ∧ (gone.getD x.toNat false = false → keyK (selK keys gone n) x = keys.getD x.toNat 0) := by
  cases hg : gone.getD x.toNat false with
  | true => exact ⟨has_not (by rw [selK_get (by omega), hg]; rfl), fun h => by cases h⟩
  | false =>
    have := has_of (ks := selK keys gone n) (x := x) (k := keys.getD x.toNat 0) h.1 (by rw [selK_get (by omega), hg]; rfl)
    exact ⟨this.1, fun _ => this.2⟩
theorem bset {l : List Bool} {i j : Nat} {x : Bool} (h : i < l.length) : (l.set i x).getD j false = if j = i then x else l.getD j false := by
  simp only [List.getD_eq_getElem?_getD, List.getElem?_set]
  by_cases e : i = j
  · subst e; simp [h]
  · rw [if_neg e, if_neg (fun h => e h.symm)]
theorem selK_set {keys : List Int} {gone : List Bool} {n x : Nat} (hl : gone.length = n) (h : x < n) : (selK keys gone n).set x none = selK keys (gone.set x true) n := by
  refine ks_ext (n := n) (by rw [List.length_set]; exact selK_len ..) (selK_len ..) fun y hy => ?_
  rw [setK (by rw [selK_len]; exact h), selK_get hy, selK_get hy, bset (by omega)]
  by_cases e : y = x
  · rw [if_pos e, if_pos e, if_pos rfl]
  · rw [if_neg e, if_neg e]
theorem selK_rem {keys : List Int} {gone : List Bool} {n : Nat} (hl : gone.length = n) {x : Int} (h : 0 ≤ x ∧ x < n) : remK (selK keys gone n) x = selK keys (gone.set x.toNat true) n ∧ remE (selK keys gone n) x = (bif gone.getD x.toNat false then 6 else 0) := by
  have hh := (selK_has (keys := keys) (gone := gone) h).1
  constructor
  · unfold remK; rw [hh]
    cases hg : gone.getD x.toNat false with
    | true =>
      show selK keys gone n = _
      congr 1
      refine List.ext_getElem (by simp) fun i h1 h2 => ?_
      rw [List.getElem_set]
      split
      · rename_i e; subst e; simpa [List.getD, h1] using hg
      · rfl
    | false => exact selK_set hl (by omega)
  · unfold remE; rw [hh, selK_len, known_iff.2 h]; cases gone.getD x.toNat false <;> rfl
/-- they come by their keys -/
structure PopOk (keys : List Int) (n : Nat) (seen : List Bool) (last : Int) (j : Nat) : Prop where
  len : seen.length = n
  cnt : cntK (selK keys seen n) + j = n
  last_ : (last = -1 ∧ j = 0) ∨ ((0 ≤ last ∧ last < n) ∧ ∀ x : Nat, x < n → seen.getD x false = false → keys.getD last.toNat 0 < keys.getD x 0 ∨ (keys.getD last.toNat 0 = keys.getD x 0 ∧ last < x))
theorem sel_full (keys : List Int) (n : Nat) : cntK (selK keys (List.replicate n false) n) = n := by
  rw [cntK_count, List.countP_eq_length.2, selK_len]
  intro o ho
  obtain ⟨x, hx, rfl⟩ := List.mem_map.1 ho
  rw [rep_at (List.mem_range.1 hx)]; rfl
theorem PopOk.start (keys : List Int) (n : Nat) : PopOk keys n (List.replicate n false) (-1) 0 := ⟨List.length_replicate, by rw [sel_full]; omega, .inl ⟨rfl, rfl⟩⟩
theorem sel_min {keys : List Int} {seen : List Bool} {n i : Nat} {k : Int} (h : IsMin (selK keys seen n) i k) : i < n ∧ seen.getD i false = false ∧ k = keys.getD i 0 := by
  have hi := getD_some_lt h.at_
  rw [selK_len] at hi
  have := h.at_
  rw [selK_get hi] at this
  cases hs : seen.getD i false with
  | true => rw [hs] at this; cases this
  | false => rw [hs] at this; simp only [Bool.false_eq_true, if_false, Option.some.injEq] at this; exact ⟨hi, rfl, this.symm⟩
theorem PopOk.next {keys : List Int} {n : Nat} {seen : List Bool} {last : Int} {j : Nat} (h : PopOk keys n seen last j) (hj : j < n) : ∃ i : Nat, i < n ∧ fstI (selK keys seen n) = (i : Int) ∧ fstV (selK keys seen n) = keys.getD i 0 ∧ fstB (selK keys seen n) = true ∧ seen.getD i false = false ∧
    popK (selK keys seen n) = selK keys (seen.set i true) n ∧ (last < 0 ∨ ((0 ≤ last ∧ last < n) ∧ (keys.getD last.toNat 0 < keys.getD i 0 ∨ (keys.getD last.toNat 0 = keys.getD i 0 ∧ last < i)))) ∧ PopOk keys n (seen.set i true) (i : Int) (j + 1) := by
  obtain ⟨i, k, hm⟩ := fst_some (ks := selK keys seen n) (by have := h.cnt; omega)
  obtain ⟨hi, hs, hk⟩ := sel_min hm
  have hl := h.len
  have hset := selK_set (keys := keys) hl hi
  refine ⟨i, hi, hm.fi, by rw [hm.fv, hk], hm.fb, hs, by rw [hm.pop]; exact hset, ?_, ⟨by rw [List.length_set]; exact hl, ?_, .inr ⟨⟨by omega, by omega⟩, fun x hx hx2 => ?_⟩⟩⟩
  · rcases h.last_ with ⟨h1, _⟩ | ⟨h1, h2⟩
    · exact .inl (by omega)
    · exact .inr ⟨h1, h2 i hi hs⟩
  · have := cnt_none hm.at_
    rw [hset] at this; have := h.cnt; omega
  · rw [bset (by omega)] at hx2
    by_cases e : x = i
    · rw [if_pos e] at hx2; cases hx2
    · rw [if_neg e] at hx2
      have := hm.le x (keys.getD x 0) (by rw [selK_get hx, hx2]; rfl)
      rw [Int.toNat_natCast]; omega
theorem PopOk.end_ {keys : List Int} {n : Nat} {seen : List Bool} {last : Int} (h : PopOk keys n seen last n) : fstB (selK keys seen n) = false ∧ cntK (popK (selK keys seen n)) = 0 := by
  have h0 : cntK (selK keys seen n) = 0 := by have := h.cnt; omega
  obtain ⟨_, _, h3, h4⟩ := fst_none h0
  exact ⟨h3, by rw [h4]; exact h0⟩
end Go.Proofs.Ytombnfgkgcjihaa.Sp
