/- Heaps: what the laws ask, the second half. No program in it. -/
import Derived.Test.YtombnfgkgcjihaaHpl
import Derived.Test.YtombnfgkgcjihaaPln
set_option linter.unusedVariables false
set_option linter.unusedSimpArgs false
namespace Go.Proofs.Ytombnfgkgcjihaa.Sp
open Go
/-! pushed in any order -/
def idP (n i : Nat) : List Int := (List.range i).map (fun x : Nat => (x : Int)) ++ List.replicate (n - i) 0
theorem idP_zero (n : Nat) : List.replicate n (0 : Int) = idP n 0 := by simp [idP]
theorem idP_len {n i : Nat} (h : i ≤ n) : (idP n i).length = n := by unfold idP; simp; omega
theorem idP_next {n i : Nat} (h : i < n) : (idP n i).set i (i : Int) = idP n (i + 1) := by
  unfold idP
  rw [List.set_append, if_neg (by simp), List.length_map, List.length_range, Nat.sub_self, show n - i = (n - (i + 1)) + 1 by omega, List.replicate_succ, List.set_cons_zero, List.range_succ, List.map_append, List.append_assoc]; rfl
theorem idP_get {n x : Nat} (h : x < n) : (idP n n).getD x 0 = (x : Int) := by
  unfold idP; rw [Nat.sub_self, List.replicate_zero, List.append_nil]; simp [List.getD, h]
theorem idP_HI (n : Nat) : HI n (idP n n) := by
  have hl := idP_len (Nat.le_refl n)
  refine ⟨fun i hi => ?_, fun i j hi hj e => ?_⟩
  · rw [hl] at hi; rw [idP_get hi]; omega
  · rw [hl] at hi hj; rw [idP_get hi, idP_get hj] at e; omega
def pshK (keys ids : List Int) (n i : Nat) : Ks := (List.range n).map fun x : Nat => if (x : Int) ∈ ids.take i then some (keys.getD x 0) else none
theorem pshK_len (keys ids : List Int) (n i : Nat) : (pshK keys ids n i).length = n := by simp [pshK]
theorem pshK_get {keys ids : List Int} {n i x : Nat} (h : x < n) : (pshK keys ids n i).getD x none = if (x : Int) ∈ ids.take i then some (keys.getD x 0) else none := by
  unfold pshK; rw [List.getD_eq_getElem?_getD, List.getElem?_map, List.getElem?_range h]; rfl
theorem pshK_zero (keys ids : List Int) (n : Nat) : List.replicate n none = pshK keys ids n 0 :=
  ks_ext (n := n) List.length_replicate (pshK_len ..) fun x hx => by rw [pshK_get hx, rep_at hx, List.take_zero, if_neg (by simp)]
theorem mem_take {l : List Int} {i : Nat} {y : Int} : y ∈ l.take i ↔ ∃ j, j < i ∧ j < l.length ∧ l.getD j 0 = y := by
  rw [mem_iff_at, List.length_take]
  constructor
  · rintro ⟨j, hj, e⟩
    have g : (l.take i).getD j 0 = l.getD j 0 := by simp only [List.getD_eq_getElem?_getD, List.getElem?_take]; rw [if_pos (by omega)]
    exact ⟨j, by omega, by omega, by rw [← g]; exact e⟩
  · rintro ⟨j, h1, h2, e⟩
    have g : (l.take i).getD j 0 = l.getD j 0 := by simp only [List.getD_eq_getElem?_getD, List.getElem?_take]; rw [if_pos (by omega)]
    exact ⟨j, by omega, by rw [g]; exact e⟩
theorem psh_swap {keys ids : List Int} {n i k : Nat} (hi : i < ids.length) (hk : k < ids.length) (hik : i ≤ k) : pshK keys (swapL ids i k) n i = pshK keys ids n i := by
  refine ks_ext (n := n) (pshK_len ..) (pshK_len ..) fun x hx => ?_
  rw [pshK_get hx, pshK_get hx]
  have : ((x : Int) ∈ (swapL ids i k).take i) ↔ ((x : Int) ∈ ids.take i) := by
    rw [mem_take, mem_take, swapL_len]
    constructor
    · rintro ⟨j, h1, h2, e⟩; rw [swapL_get hi hk, if_neg (by omega), if_neg (by omega)] at e; exact ⟨j, h1, h2, e⟩
    · rintro ⟨j, h1, h2, e⟩; exact ⟨j, h1, h2, by rw [swapL_get hi hk, if_neg (by omega), if_neg (by omega)]; exact e⟩
  simp only [this]
theorem psh_push {keys ids : List Int} {n i : Nat} (h : HI n ids) (hi : i < ids.length) : pushE (pshK keys ids n i) (ids.getD i 0) = 0 ∧ pushK (pshK keys ids n i) (ids.getD i 0) (keys.getD (ids.getD i 0).toNat 0) = pshK keys ids n (i + 1) := by
  have hb := h.bd i hi
  have e1 : ((ids.getD i 0).toNat : Int) = ids.getD i 0 := by omega
  have hn : ¬ (((ids.getD i 0).toNat : Nat) : Int) ∈ ids.take i := by
    rw [e1, mem_take]; rintro ⟨j, h1, h2, e⟩; have := h.inj j i h2 hi e; omega
  have h1 : hasK (pshK keys ids n i) (ids.getD i 0) = false := has_not (by rw [pshK_get (by omega), if_neg hn])
  have h2 : pushE (pshK keys ids n i) (ids.getD i 0) = 0 := by unfold pushE; rw [h1, pshK_len, known_iff.2 hb]; rfl
  refine ⟨h2, ?_⟩
  unfold pushK; rw [h2]
  show (pshK keys ids n i).set (ids.getD i 0).toNat (some _) = _
  refine ks_ext (n := n) (by rw [List.length_set]; exact pshK_len ..) (pshK_len ..) fun x hx => ?_
  rw [setK (by rw [pshK_len]; omega), pshK_get hx, pshK_get hx]
  by_cases e : x = (ids.getD i 0).toNat
  · rw [if_pos e, if_pos (mem_take.2 ⟨i, by omega, hi, by omega⟩), e]
  · rw [if_neg e]
    have : ((x : Int) ∈ ids.take (i + 1)) ↔ ((x : Int) ∈ ids.take i) := by
      rw [mem_take, mem_take]
      constructor
      · rintro ⟨j, h3, h4, e2⟩
        by_cases e3 : j = i
        · subst e3; omega
        · exact ⟨j, by omega, h4, e2⟩
      · rintro ⟨j, h3, h4, e2⟩; exact ⟨j, by omega, h4, e2⟩
    simp only [this]
theorem HI_all {n : Nat} {ids : List Int} (h : HI n ids) (hl : ids.length = n) {x : Nat} (hx : x < n) : (x : Int) ∈ ids := by
  refine Classical.byContradiction fun hn => ?_
  have := (h.push (x := (x : Int)) ⟨by omega, by omega⟩ hn).le
  rw [List.length_append, List.length_singleton] at this; omega
theorem psh_end {keys ids : List Int} {n : Nat} (h : HI n ids) (hl : ids.length = n) : pshK keys ids n n = selK keys (List.replicate n false) n := by
  refine ks_ext (n := n) (pshK_len ..) (selK_len ..) fun x hx => ?_
  rw [pshK_get hx, selK_get hx, rep_at hx, if_pos (by rw [List.take_of_length_le (by omega)]; exact HI_all h hl hx)]; rfl
/-! lowered -/
theorem shr_one (a : Int) : bShr .i64 a 1 = a / 2 := by
  unfold bShr
  show a.fdiv (2 ^ (min 1 64)) = a / 2
  rw [Int.fdiv_eq_ediv_of_nonneg _ (by decide)]; rfl
theorem low_ok {keys : List Int} {n i : Nat} (hl : keys.length = n) (hi : i < n) {k : Int} (hk : k ≤ keys.getD i 0) : lowE (prtK keys n n) (i : Int) k = 0 ∧ lowK (prtK keys n n) (i : Int) k = prtK (keys.set i k) n n := by
  have hpl := prtK_len (keys := keys) (n := n) (i := n) (by omega) (Nat.le_refl _)
  have hg := prtK_get (keys := keys) (n := n) (i := n) (x := i) (by omega) (Nat.le_refl _)
  rw [if_pos hi] at hg
  have hh := has_of (ks := prtK keys n n) (x := (i : Int)) (k := keys.getD i 0) (by omega) (by rw [Int.toNat_natCast]; exact hg)
  have h1 : lowE (prtK keys n n) (i : Int) k = 0 := by unfold lowE; rw [hh.1, hh.2, hpl, known_iff.2 ⟨by omega, by omega⟩, decide_eq_false (by omega)]; rfl
  refine ⟨h1, ?_⟩
  unfold lowK; rw [h1]
  show (prtK keys n n).set (i : Int).toNat (some k) = _
  refine ks_ext (n := n) (by rw [List.length_set]; exact hpl) (prtK_len (by rw [List.length_set]; omega) (Nat.le_refl _)) fun x hx => ?_
  rw [setK (by rw [hpl]; omega), prtK_get (by omega) (Nat.le_refl _), prtK_get (by rw [List.length_set]; omega) (Nat.le_refl _), if_pos hx, if_pos hx, Int.toNat_natCast, set_getD (by omega)]
  split <;> rfl
theorem low_no {keys : List Int} {n i : Nat} (hl : keys.length = n) (hi : i < n) {k : Int} (hk : k > keys.getD i 0) : lowE (prtK keys n n) (i : Int) k = 3 ∧ lowK (prtK keys n n) (i : Int) k = prtK keys n n := by
  have hpl := prtK_len (keys := keys) (n := n) (i := n) (by omega) (Nat.le_refl _)
  have hg := prtK_get (keys := keys) (n := n) (i := n) (x := i) (by omega) (Nat.le_refl _)
  rw [if_pos hi] at hg
  have hh := has_of (ks := prtK keys n n) (x := (i : Int)) (k := keys.getD i 0) (by omega) (by rw [Int.toNat_natCast]; exact hg)
  have h1 : lowE (prtK keys n n) (i : Int) k = 3 := by unfold lowE; rw [hh.1, hh.2, hpl, known_iff.2 ⟨by omega, by omega⟩, decide_eq_true (by omega)]; rfl
  exact ⟨h1, by unfold lowK; rw [h1]; rfl⟩
theorem prt_cnt {keys : List Int} {n : Nat} (hn : n ≤ keys.length) : cntK (prtK keys n n) = n := by rw [selK_all hn]; exact sel_full ..
/-- some of them popped: they are told, whoever they are -/
theorem cnt_pop {ks : Ks} (h : 0 < cntK ks) : fstB ks = true ∧ cntK (popK ks) + 1 = cntK ks := by
  obtain ⟨i, k, hm⟩ := fst_some h
  exact ⟨hm.fb, by rw [hm.pop]; exact cnt_none hm.at_⟩
/-- all but some, the first i of them -/
def selI (keys : List Int) (gone : List Bool) (n i : Nat) : Ks := (List.range n).map fun x => if x < i ∧ gone.getD x false = false then some (keys.getD x 0) else none
theorem selI_len (keys : List Int) (gone : List Bool) (n i : Nat) : (selI keys gone n i).length = n := by simp [selI]
theorem selI_get {keys : List Int} {gone : List Bool} {n i x : Nat} (h : x < n) : (selI keys gone n i).getD x none = if x < i ∧ gone.getD x false = false then some (keys.getD x 0) else none := by
  unfold selI; rw [List.getD_eq_getElem?_getD, List.getElem?_map, List.getElem?_range h]; rfl
theorem selI_zero (keys : List Int) (gone : List Bool) (n : Nat) : List.replicate n none = selI keys gone n 0 :=
  ks_ext (n := n) List.length_replicate (selI_len ..) fun x hx => by rw [selI_get hx, rep_at hx, if_neg (by omega)]
theorem selI_end (keys : List Int) (gone : List Bool) (n : Nat) : selI keys gone n n = selK keys gone n :=
  ks_ext (n := n) (selI_len ..) (selK_len ..) fun x hx => by
    rw [selI_get hx, selK_get hx]
    cases gone.getD x false with
    | true => rw [if_neg (by simp), if_pos rfl]
    | false => rw [if_pos ⟨hx, rfl⟩, if_neg (by simp)]
theorem selI_skip {keys : List Int} {gone : List Bool} {n i : Nat} (h : gone.getD i false = true) : selI keys gone n (i + 1) = selI keys gone n i :=
  ks_ext (n := n) (selI_len ..) (selI_len ..) fun x hx => by
    rw [selI_get hx, selI_get hx]
    by_cases e : x = i
    · subst e; rw [if_neg (by rw [h]; simp), if_neg (by rw [h]; simp)]
    · by_cases e2 : x < i ∧ gone.getD x false = false
      · rw [if_pos e2, if_pos ⟨by omega, e2.2⟩]
      · rw [if_neg e2, if_neg (fun h => e2 ⟨by omega, h.2⟩)]
theorem selI_push {keys : List Int} {gone : List Bool} {n i : Nat} (hi : i < n) (h : gone.getD i false = false) : pushE (selI keys gone n i) (i : Int) = 0 ∧ pushK (selI keys gone n i) (i : Int) (keys.getD i 0) = selI keys gone n (i + 1) ∧ cntK (selI keys gone n (i + 1)) = cntK (selI keys gone n i) + 1 := by
  have hg : (selI keys gone n i).getD i none = none := by rw [selI_get hi, if_neg (by omega)]
  have h1 : hasK (selI keys gone n i) (i : Int) = false := has_not (by rw [Int.toNat_natCast]; exact hg)
  have h2 : pushE (selI keys gone n i) (i : Int) = 0 := by unfold pushE; rw [h1, selI_len, known_iff.2 ⟨by omega, by omega⟩]; rfl
  have h3 : (selI keys gone n i).set i (some (keys.getD i 0)) = selI keys gone n (i + 1) := by
    refine ks_ext (n := n) (by rw [List.length_set]; exact selI_len ..) (selI_len ..) fun x hx => ?_
    rw [setK (by rw [selI_len]; exact hi), selI_get hx, selI_get hx]
    by_cases e : x = i
    · subst e; rw [if_pos rfl, if_pos ⟨by omega, h⟩]
    · rw [if_neg e]
      by_cases e2 : x < i ∧ gone.getD x false = false
      · rw [if_pos e2, if_pos ⟨by omega, e2.2⟩]
      · rw [if_neg e2, if_neg (fun h => e2 ⟨by omega, h.2⟩)]
  refine ⟨h2, ?_, ?_⟩
  · unfold pushK; rw [h2]; exact h3
  · rw [← h3]; exact cnt_new (by rw [selI_len]; exact hi) hg
theorem push_zero {ks : Ks} {n : Nat} (hl : ks.length = n) (h : cntK ks = 0) (hn : 0 < n) : pushE ks 0 = 0 := by
  have h1 : hasK ks 0 = false := has_not (cnt_zero h _)
  unfold pushE; rw [h1, hl, known_iff.2 ⟨by omega, by omega⟩]; rfl
/-! lowered below all -/
def leaK (keys at_ : List Int) (n : Nat) : Ks := (List.range n).map fun x => some (if at_.getD x 0 > 0 then -4611686018427387904 - at_.getD x 0 else keys.getD x 0 / 2)
theorem leaK_len (keys at_ : List Int) (n : Nat) : (leaK keys at_ n).length = n := by simp [leaK]
theorem leaK_get {keys at_ : List Int} {n x : Nat} (h : x < n) : (leaK keys at_ n).getD x none = some (if at_.getD x 0 > 0 then -4611686018427387904 - at_.getD x 0 else keys.getD x 0 / 2) := by
  unfold leaK; rw [List.getD_eq_getElem?_getD, List.getElem?_map, List.getElem?_range h]; rfl
/-- at is when each was lowered -/
structure AtN (n : Nat) (at_ : List Int) (t : Nat) : Prop where
  len : at_.length = n
  bd : ∀ x : Nat, x < n → 0 ≤ at_.getD x 0 ∧ at_.getD x 0 ≤ t
  inj : ∀ x y : Nat, x < n → y < n → at_.getD x 0 = at_.getD y 0 → 0 < at_.getD x 0 → x = y
theorem AtN.zero (n : Nat) : AtN n (List.replicate n 0) 0 := ⟨List.length_replicate, fun x hx => by rw [rep_at hx]; omega, fun x y hx hy _ h => by rw [rep_at hx] at h; omega⟩
theorem AtN.next {n t : Nat} {at_ : List Int} (h : AtN n at_ t) {i : Nat} (hi : i < n) : AtN n (at_.set i ((t : Int) + 1)) (t + 1) := by
  have hl := h.len
  refine ⟨by rw [List.length_set]; exact hl, fun x hx => ?_, fun x y hx hy e h0 => ?_⟩
  · rw [set_getD (by omega)]; have := h.bd x hx; split <;> omega
  · rw [set_getD (by omega), set_getD (by omega)] at e
    rw [set_getD (by omega)] at h0
    have b1 := h.bd x hx; have b2 := h.bd y hy
    by_cases e1 : x = i <;> by_cases e2 : y = i
    · omega
    · rw [if_pos e1, if_neg e2] at e; omega
    · rw [if_neg e1, if_pos e2] at e; omega
    · rw [if_neg e1, if_neg e2] at e; rw [if_neg e1] at h0; exact h.inj x y hx hy e h0
theorem lea_low {keys at_ : List Int} {n t i : Nat} (h : AtN n at_ t) (hb : ∀ x : Nat, x < n → -9223372036854775808 ≤ keys.getD x 0) (hi : i < n) :
    lowE (leaK keys at_ n) (i : Int) (-4611686018427387904 - ((t : Int) + 1)) = 0 ∧ lowK (leaK keys at_ n) (i : Int) (-4611686018427387904 - ((t : Int) + 1)) = leaK keys (at_.set i ((t : Int) + 1)) n := by
  have hg := leaK_get (keys := keys) (at_ := at_) hi
  have hh := has_of (ks := leaK keys at_ n) (x := (i : Int)) (by omega) (by rw [Int.toNat_natCast]; exact hg)
  have hbi := hb i hi
  have hai := h.bd i hi
  have h1 : lowE (leaK keys at_ n) (i : Int) (-4611686018427387904 - ((t : Int) + 1)) = 0 := by
    unfold lowE; rw [hh.1, hh.2, leaK_len, known_iff.2 ⟨by omega, by omega⟩, decide_eq_false (by split <;> omega)]; rfl
  refine ⟨h1, ?_⟩
  unfold lowK; rw [h1]
  show (leaK keys at_ n).set (i : Int).toNat (some _) = _
  have hl := h.len
  refine ks_ext (n := n) (by rw [List.length_set]; exact leaK_len ..) (leaK_len ..) fun x hx => ?_
  rw [setK (by rw [leaK_len]; omega), leaK_get hx, leaK_get hx, Int.toNat_natCast, set_getD (by omega)]
  by_cases e : x = i
  · rw [if_pos e, if_pos e, if_pos (by omega)]
  · rw [if_neg e, if_neg e]
theorem lea_first {keys at_ : List Int} {n t i : Nat} (h : AtN n at_ t) (hb : ∀ x : Nat, x < n → -9223372036854775808 ≤ keys.getD x 0) (hi : i < n) :
    fstI (leaK keys (at_.set i ((t : Int) + 1)) n) = (i : Int) ∧ fstV (leaK keys (at_.set i ((t : Int) + 1)) n) = -4611686018427387904 - ((t : Int) + 1) ∧ fstB (leaK keys (at_.set i ((t : Int) + 1)) n) = true := by
  have hl := h.len
  have hg := leaK_get (keys := keys) (at_ := at_.set i ((t : Int) + 1)) hi
  rw [set_getD (by omega), if_pos rfl, if_pos (by omega)] at hg
  have hm : minK (leaK keys (at_.set i ((t : Int) + 1)) n) 0 = some (i, -4611686018427387904 - ((t : Int) + 1)) := by
    refine minK_eq hg fun j k' e => ?_
    have hj := getD_some_lt e
    rw [leaK_len] at hj
    rw [leaK_get hj, set_getD (by omega)] at e
    simp only [Option.some.injEq] at e
    have := hb j hj; have := h.bd j hj
    by_cases e2 : j = i
    · subst e2; rw [if_pos rfl] at e; right; exact ⟨by rw [if_pos (by omega)] at e; exact e, Nat.le_refl _⟩
    · rw [if_neg e2] at e; left; split at e <;> omega
  unfold fstI fstV fstB; rw [hm]; exact ⟨rfl, rfl, rfl⟩
def lesK (keys at_ : List Int) (seen : List Bool) (n : Nat) : Ks := (List.range n).map fun x => if seen.getD x false then none else some (if at_.getD x 0 > 0 then -4611686018427387904 - at_.getD x 0 else keys.getD x 0 / 2)
theorem lesK_len (keys at_ : List Int) (seen : List Bool) (n : Nat) : (lesK keys at_ seen n).length = n := by simp [lesK]
theorem lesK_get {keys at_ : List Int} {seen : List Bool} {n x : Nat} (h : x < n) : (lesK keys at_ seen n).getD x none = if seen.getD x false then none else some (if at_.getD x 0 > 0 then -4611686018427387904 - at_.getD x 0 else keys.getD x 0 / 2) := by
  unfold lesK; rw [List.getD_eq_getElem?_getD, List.getElem?_map, List.getElem?_range h]; rfl
structure LesOk (keys at_ : List Int) (n t : Nat) (seen : List Bool) (last : Int) (j : Nat) : Prop where
  atn : AtN n at_ t
  len : seen.length = n
  cnt : cntK (lesK keys at_ seen n) + j = n
  last_ : (0 < last ∧ ∀ x : Nat, x < n → seen.getD x false = false → at_.getD x 0 < last) ∨ (last = 0 ∧ ∀ x : Nat, x < n → seen.getD x false = false → at_.getD x 0 = 0)
theorem LesOk.start {keys at_ : List Int} {n t : Nat} (h : AtN n at_ t) : LesOk keys at_ n t (List.replicate n false) ((t : Int) + 1) 0 := by
  refine ⟨h, List.length_replicate, ?_, .inl ⟨by omega, fun x hx _ => by have := h.bd x hx; omega⟩⟩
  rw [cntK_count, Nat.add_zero, List.countP_eq_length.2, lesK_len]
  intro o ho
  obtain ⟨x, hx, rfl⟩ := List.mem_map.1 ho
  rw [rep_at (List.mem_range.1 hx)]; rfl
theorem les_start {keys at_ : List Int} {n : Nat} : leaK keys at_ n = lesK keys at_ (List.replicate n false) n :=
  ks_ext (n := n) (leaK_len ..) (lesK_len ..) fun x hx => by rw [leaK_get hx, lesK_get hx, rep_at hx]; rfl
theorem LesOk.next {keys at_ : List Int} {n t : Nat} {seen : List Bool} {last : Int} {j : Nat} (h : LesOk keys at_ n t seen last j) (hb : ∀ x : Nat, x < n → -9223372036854775808 ≤ keys.getD x 0) (hj : j < n) :
    ∃ i : Nat, i < n ∧ fstI (lesK keys at_ seen n) = (i : Int) ∧ fstB (lesK keys at_ seen n) = true ∧ popK (lesK keys at_ seen n) = lesK keys at_ (seen.set i true) n ∧
      ¬ (at_.getD i 0 ≥ last ∧ last > 0) ∧ ¬ (last = 0 ∧ at_.getD i 0 ≠ 0) ∧ LesOk keys at_ n t (seen.set i true) (at_.getD i 0) (j + 1) := by
  obtain ⟨i, k, hm⟩ := fst_some (ks := lesK keys at_ seen n) (by have := h.cnt; omega)
  have hi := getD_some_lt hm.at_
  rw [lesK_len] at hi
  have hk := hm.at_
  rw [lesK_get hi] at hk
  have hs : seen.getD i false = false := by
    cases hs : seen.getD i false with
    | false => rfl
    | true => rw [hs] at hk; cases hk
  rw [hs] at hk
  simp only [Bool.false_eq_true, if_false, Option.some.injEq] at hk
  have hl := h.len
  have hset : (lesK keys at_ seen n).set i none = lesK keys at_ (seen.set i true) n := by
    refine ks_ext (n := n) (by rw [List.length_set]; exact lesK_len ..) (lesK_len ..) fun y hy => ?_
    rw [setK (by rw [lesK_len]; exact hi), lesK_get hy, lesK_get hy, bset (by omega)]
    by_cases e : y = i
    · rw [if_pos e, if_pos e, if_pos rfl]
    · rw [if_neg e, if_neg e]
  have hai := h.atn.bd i hi
  refine ⟨i, hi, hm.fi, hm.fb, by rw [hm.pop]; exact hset, ?_, ?_, ⟨h.atn, by rw [List.length_set]; exact hl, ?_, ?_⟩⟩
  · rintro ⟨h1, h2⟩
    rcases h.last_ with ⟨_, h3⟩ | ⟨h3, _⟩
    · have := h3 i hi hs; omega
    · omega
  · rintro ⟨h1, h2⟩
    rcases h.last_ with ⟨h3, _⟩ | ⟨_, h3⟩
    · omega
    · exact h2 (h3 i hi hs)
  · have := cnt_none hm.at_
    rw [hset] at this; have := h.cnt; omega
  · have key : ∀ x : Nat, x < n → (seen.set i true).getD x false = false → x ≠ i ∧ seen.getD x false = false := fun x hx h2 => by
      rw [bset (by omega)] at h2
      by_cases e : x = i
      · rw [if_pos e] at h2; cases h2
      · rw [if_neg e] at h2; exact ⟨e, h2⟩
    by_cases h0 : at_.getD i 0 > 0
    · refine .inl ⟨h0, fun x hx h2 => ?_⟩
      obtain ⟨hne, h3⟩ := key x hx h2
      have h4 := hm.le x _ (by rw [lesK_get hx, h3]; rfl)
      rw [if_pos h0] at hk
      have hax := h.atn.bd x hx
      have hinj := h.atn.inj i x hi hx
      by_cases h5 : at_.getD x 0 > 0
      · rw [if_pos h5] at h4
        by_cases h6 : at_.getD i 0 = at_.getD x 0
        · exact absurd (hinj h6 h0).symm hne
        · omega
      · omega
    · refine .inr ⟨by omega, fun x hx h2 => ?_⟩
      obtain ⟨hne, h3⟩ := key x hx h2
      have h4 := hm.le x _ (by rw [lesK_get hx, h3]; rfl)
      rw [if_neg h0] at hk
      have hax := h.atn.bd x hx
      have := hb i hi
      by_cases h5 : at_.getD x 0 > 0
      · rw [if_pos h5] at h4; omega
      · omega
end Go.Proofs.Ytombnfgkgcjihaa.Sp
