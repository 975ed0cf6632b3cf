/- Timers: setting, and who is due, in order. No program in it. -/
import Derived.Test.YtombnfgkgcjihaaTm
set_option linter.unusedVariables false
set_option linter.unusedSimpArgs false
namespace Go.Proofs.Ytombnfgkgcjihaa.Sp
open Go
theorem IsMin.of {ks : Ks} {i : Nat} {k : Int} (h : ks.getD i none = some k) (hl : ∀ (j : Nat) (k' : Int), ks.getD j none = some k' → k < k' ∨ (k = k' ∧ i ≤ j)) : IsMin ks i k := by
  obtain ⟨i', k', hm⟩ := fst_some (ks := ks) (has_cnt (x := (i : Int)) (has_of (by omega) (by rw [Int.toNat_natCast]; exact h)).1)
  have h1 := hm.le i k h
  have h2 := hl i' k' hm.at_
  obtain rfl : i = i' := by omega
  obtain rfl : k = k' := by have := hm.at_; rw [h] at this; cases this; rfl
  exact hm
/-- set anew -/
theorem tset {ks : Ks} {x : Int} (h : 0 ≤ x ∧ x < ks.length) (k : Int) : pushE (remK ks x) x = 0 ∧ pushK (remK ks x) x k = ks.set x.toNat (some k) := by
  have hl := remK_len ks x
  have hx : x.toNat < ks.length := by omega
  have hn : (remK ks x).getD x.toNat none = none := by
    unfold remK
    cases hh : hasK ks x with
    | true => show (ks.set x.toNat none).getD x.toNat none = none; simp [List.getD, hx]
    | false =>
      show ks.getD x.toNat none = none
      cases hg : ks.getD x.toNat none with
      | none => rfl
      | some k => rw [(has_of h.1 hg).1] at hh; cases hh
  have h1 : hasK (remK ks x) x = false := has_not hn
  have h2 : pushE (remK ks x) x = 0 := by unfold pushE; rw [h1, hl, known_iff.2 h]; rfl
  refine ⟨h2, ?_⟩
  unfold pushK; rw [h2]
  show (remK ks x).set x.toNat (some k) = _
  unfold remK
  cases hasK ks x
  · rfl
  · show (ks.set x.toNat none).set x.toNat (some k) = _; rw [List.set_set]
theorem prt_tset {keys : List Int} {n i : Nat} (hn : n ≤ keys.length) (hi : i < n) : pushE (remK (prtK keys n i) (i : Int)) (i : Int) = 0 ∧ pushK (remK (prtK keys n i) (i : Int)) (i : Int) (keys.getD i 0) = prtK keys n (i + 1) := by
  have h0 : remK (prtK keys n i) (i : Int) = prtK keys n i := by
    unfold remK; rw [has_not (by rw [Int.toNat_natCast, prtK_get hn (Nat.le_of_lt hi), if_neg (by omega)])]; rfl
  rw [h0]; exact prtK_push hn hi
theorem shr_two (a : Int) : bShr .i64 a 2 = a / 4 := by
  unfold bShr
  show a.fdiv (2 ^ (min 2 64)) = a / 4
  rw [Int.fdiv_eq_ediv_of_nonneg _ (by decide)]; rfl
/-! nine, all but one at a far time -/
def anK (d i : Nat) : Ks := (List.range 9).map fun x => if x < i ∧ x ≠ d then some 4611686018427387904 else none
theorem anK_len (d i : Nat) : (anK d i).length = 9 := by simp [anK]
theorem anK_get {d i x : Nat} (h : x < 9) : (anK d i).getD x none = if x < i ∧ x ≠ d then some 4611686018427387904 else none := by
  simp [anK, List.getD, h]
theorem anK_zero (d : Nat) : List.replicate 9 none = anK d 0 := ks_ext (n := 9) List.length_replicate (anK_len ..) fun x hx => by rw [anK_get hx, cnt_zero (cnt_rep 9)]; simp
theorem anK_skip {d i : Nat} (h : i = d) : anK d (i + 1) = anK d i := ks_ext (n := 9) (anK_len ..) (anK_len ..) fun x hx => by
  rw [anK_get hx, anK_get hx]
  by_cases e : x = d
  · rw [if_neg (by omega), if_neg (by omega)]
  · by_cases e2 : x < i
    · rw [if_pos (by omega), if_pos (by omega)]
    · rw [if_neg (by omega), if_neg (by omega)]
theorem anK_next {d i : Nat} (hi : i < 9) (h : i ≠ d) : pushE (remK (anK d i) (i : Int)) (i : Int) = 0 ∧ pushK (remK (anK d i) (i : Int)) (i : Int) 4611686018427387904 = anK d (i + 1) := by
  have ht := tset (ks := anK d i) (x := (i : Int)) (by rw [anK_len]; omega) 4611686018427387904
  refine ⟨ht.1, ht.2.trans ?_⟩
  rw [Int.toNat_natCast]
  refine ks_ext (n := 9) (by rw [List.length_set]; exact anK_len ..) (anK_len ..) fun x hx => ?_
  rw [setK (by rw [anK_len]; omega), anK_get hx, anK_get hx]
  by_cases e : x = i
  · rw [if_pos e, if_pos (by omega)]
  · rw [if_neg e]
    by_cases e2 : x < i ∧ x ≠ d
    · rw [if_pos e2, if_pos (by omega)]
    · rw [if_neg e2, if_neg (by omega)]
theorem anK_cnt : ∀ d, d < 9 → cntK (anK d 9) = 8 := by decide
theorem anK_none {d : Nat} (h : d < 9) : (anK d 9).getD d none = none := by rw [anK_get h, if_neg (by omega)]
/-- what the one's own entry is -/
def anO (d : Nat) (o : Option Int) : Ks := (anK d 9).set d o
theorem anO_len (d : Nat) (o : Option Int) : (anO d o).length = 9 := by unfold anO; rw [List.length_set]; exact anK_len ..
theorem anO_none {d : Nat} (h : d < 9) : anO d none = anK d 9 := ks_ext (n := 9) (anO_len ..) (anK_len ..) fun x hx => by
  unfold anO; rw [setK (by rw [anK_len]; omega)]
  by_cases e : x = d
  · subst e; rw [if_pos rfl, anK_none h]
  · rw [if_neg e]
theorem anO_get {d : Nat} (h : d < 9) (o : Option Int) : (anO d o).getD d none = o := by unfold anO; rw [setK (by rw [anK_len]; omega), if_pos rfl]
theorem anO_set {d : Nat} (h : d < 9) (o : Option Int) (k : Int) : pushE (remK (anO d o) (d : Int)) (d : Int) = 0 ∧ pushK (remK (anO d o) (d : Int)) (d : Int) k = anO d (some k) := by
  have ht := tset (ks := anO d o) (x := (d : Int)) (by rw [anO_len]; omega) k
  refine ⟨ht.1, ht.2.trans ?_⟩
  rw [Int.toNat_natCast]; unfold anO; rw [List.set_set]
theorem anO_at {d : Nat} (h : d < 9) (k : Int) : keyK (anO d (some k)) (d : Int) = k ∧ hasK (anO d (some k)) (d : Int) = true := by
  have := has_of (ks := anO d (some k)) (x := (d : Int)) (by omega) (by rw [Int.toNat_natCast]; exact anO_get h _)
  exact ⟨this.2, this.1⟩
theorem anO_cnt {d : Nat} (h : d < 9) (k : Int) : cntK (anO d (some k)) = 9 := by
  have := cnt_new (ks := anK d 9) (i := d) (k := k) (by rw [anK_len]; exact h) (anK_none h)
  unfold anO; rw [this, anK_cnt d h]
theorem anO_min {d : Nat} (h : d < 9) {k : Int} (hk : k < 4611686018427387904) : IsMin (anO d (some k)) d k := by
  refine IsMin.of (anO_get h _) fun j k' e => ?_
  have hj := getD_some_lt e
  rw [anO_len] at hj
  unfold anO at e
  rw [setK (by rw [anK_len]; omega)] at e
  by_cases e2 : j = d
  · rw [if_pos e2] at e; cases e; right; exact ⟨rfl, by omega⟩
  · rw [if_neg e2, anK_get hj] at e
    left; split at e
    · cases e; exact hk
    · cases e
theorem anK_fst {d : Nat} (h : d < 9) : fstV (anK d 9) = 4611686018427387904 := by
  have hc := anK_cnt d h
  obtain ⟨i, k, hm⟩ := fst_some (ks := anK d 9) (by omega)
  have hi := getD_some_lt hm.at_
  rw [anK_len] at hi
  have e := hm.at_
  rw [anK_get hi] at e
  rw [hm.fv]
  split at e
  · cases e; rfl
  · cases e
theorem anO_early {d : Nat} (h : d < 9) {k : Int} (hk : k < 4611686018427387904) : dueL (anO d (some k)) (k - 1) = [] ∧ duR (anO d (some k)) (k - 1) = anO d (some k) :=
  due_no fun hh => by have := (anO_min h hk).fv; omega
theorem anO_due {d : Nat} (h : d < 9) {k : Int} (hk : k < 4611686018427387904) : dueL (anO d (some k)) k = [(d : Int)] ∧ duR (anO d (some k)) k = anK d 9 := by
  have hm := anO_min h hk
  have hy := due_yes (ks := anO d (some k)) (t := k) ⟨hm.fb, by rw [hm.fv]; omega⟩
  have hp : popK (anO d (some k)) = anK d 9 := by rw [hm.pop, ← anO_none h]; unfold anO; rw [List.set_set]
  have hn := due_no (ks := anK d 9) (t := k) (fun hh => by have := anK_fst h; omega)
  rw [hy.1, hy.2, hp, hn.1, hn.2, hm.fi]; exact ⟨rfl, rfl⟩
theorem anK_stop {d : Nat} (h : d < 9) : stopB (anK d 9) (d : Int) = false := by
  unfold stopB remE
  rw [has_not (by rw [Int.toNat_natCast]; exact anK_none h), anK_len, known_iff.2 ⟨by omega, by omega⟩]; rfl
/-! who is due, in order -/
structure DueOk (ks : Ks) (t : Int) (l : List Int) : Prop where
  at_ : ∀ j, j < l.length → ∃ (x : Nat) (k : Int), l.getD j 0 = (x : Int) ∧ ks.getD x none = some k ∧ k ≤ t
  ord : ∀ j, j + 1 < l.length → ∀ (x y : Nat) (k k' : Int), l.getD j 0 = (x : Int) → l.getD (j + 1) 0 = (y : Int) → ks.getD x none = some k → ks.getD y none = some k' → k < k' ∨ (k = k' ∧ x < y)
theorem due_ok (ks : Ks) (t : Int) : DueOk ks t (dueL ks t) := by
  refine due_ind (P := fun ks => DueOk ks t (dueL ks t)) t (fun ks h => ?_) (fun ks h ih => ?_) ks
  · rw [(due_no h).1]; exact ⟨fun j hj => by simp at hj, fun j hj => by simp at hj⟩
  · rw [(due_yes h).1]
    obtain ⟨i, k, hm⟩ := fst_some (fstB_pos.1 h.1)
    have hv := hm.fv
    have hi := getD_some_lt hm.at_
    have hset : ∀ (x : Nat) (k' : Int), (popK ks).getD x none = some k' → x ≠ i ∧ ks.getD x none = some k' := fun x k' e => by
      rw [hm.pop, setK hi] at e
      by_cases e2 : x = i
      · rw [if_pos e2] at e; cases e
      · rw [if_neg e2] at e; exact ⟨e2, e⟩
    refine ⟨fun j hj => ?_, fun j hj x y a a' e1 e2 e3 e4 => ?_⟩
    · cases j with
      | zero => exact ⟨i, k, by rw [hm.fi]; rfl, hm.at_, by rw [← hv]; exact h.2⟩
      | succ j =>
        obtain ⟨x, k', h1, h2, h3⟩ := ih.at_ j (by simpa using hj)
        exact ⟨x, k', by simpa [List.getD] using h1, (hset x k' h2).2, h3⟩
    · have e2' : (dueL (popK ks) t).getD j 0 = (y : Int) := by simpa [List.getD] using e2
      have hj' : j < (dueL (popK ks) t).length := by simpa using hj
      obtain ⟨y', k2, h1, h2, h3⟩ := ih.at_ j hj'
      obtain rfl : y' = y := by omega
      obtain ⟨hne, h4⟩ := hset _ _ h2
      rw [h4] at e4; cases e4
      cases j with
      | zero =>
        have hx : x = i := by have : fstI ks = (x : Int) := by simpa [List.getD] using e1
                              rw [hm.fi] at this; omega
        subst hx
        rw [hm.at_] at e3; cases e3
        rcases hm.le _ _ h4 with h5 | h5
        · exact .inl h5
        · exact .inr ⟨h5.1, by omega⟩
      | succ j =>
        have e1' : (dueL (popK ks) t).getD j 0 = (x : Int) := by simpa [List.getD] using e1
        obtain ⟨x', k1, g1, g2, g3⟩ := ih.at_ j (by omega)
        obtain rfl : x' = x := by omega
        have g4 := (hset _ _ g2).2
        rw [g4] at e3; cases e3
        exact ih.ord j hj' x' y' _ _ g1 h1 g2 h2
/-- at the end of time all are due -/
theorem due_all {ks : Ks} {t : Int} (h : ∀ (x : Nat) (k : Int), ks.getD x none = some k → k ≤ t) : cntK (duR ks t) = 0 := by
  refine due_ind (P := fun ks => (∀ (x : Nat) (k : Int), ks.getD x none = some k → k ≤ t) → cntK (duR ks t) = 0) t (fun ks h0 h => ?_) (fun ks h0 ih h => ?_) ks h
  · rw [(due_no h0).2]
    rcases Nat.eq_zero_or_pos (cntK ks) with h1 | h1
    · exact h1
    · obtain ⟨i, k, hm⟩ := fst_some h1
      exact absurd ⟨hm.fb, by rw [hm.fv]; exact h i k hm.at_⟩ h0
  · rw [(due_yes h0).2]
    refine ih fun x k e => ?_
    obtain ⟨i, k0, hm⟩ := fst_some (fstB_pos.1 h0.1)
    rw [hm.pop, setK (getD_some_lt hm.at_)] at e
    split at e
    · cases e
    · exact h x k e
theorem sel_at {keys : List Int} {gone : List Bool} {n x : Nat} {k M : Int} (e : (selK keys gone n).getD x none = some k) (h : ∀ x : Nat, x < n → keys.getD x 0 ≤ M) : x < n ∧ gone.getD x false = false ∧ keys.getD x 0 = k ∧ k ≤ M := by
  have hx := getD_some_lt e
  rw [selK_len] at hx
  rw [selK_get hx] at e
  cases hg : gone.getD x false with
  | true => rw [hg] at e; cases e
  | false => rw [hg] at e; cases e; exact ⟨hx, rfl, rfl, h x hx⟩
theorem set_same {gone : List Bool} {n x : Nat} (hl : gone.length = n) (h : x < n) (hg : gone.getD x false = true) : gone.set x true = gone := by
  refine List.ext_getElem (by simp) fun i h1 h2 => ?_
  rw [List.getElem_set]
  split
  · rename_i e; subst e; simpa [List.getD, h2] using hg.symm
  · rfl
end Go.Proofs.Ytombnfgkgcjihaa.Sp
