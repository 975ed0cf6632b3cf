/- Verdicts: bits in memory, results that are cells, and what the walk of chapter 17 needs. No program in it. -/
import Derived.Test.YtljnaefaahphaaaVd
import Derived.Laws.ResultCell
namespace Go.Proofs.Ytljnaefaahphaaa.Sp
open Go
section
variable {P : Program} {W : World} {N : Nat} {E : List (Nat × Value)} {L M : List HP}
theorem q_retc {fn : Func} {t T b : Nat} {cs : List Value} {Post : Value → List HP → Prop} (hr : fn.results = #[.cell t T]) (hv : look t E = some (.pointer (some ⟨b, 0, none⟩)))
    (hag : ∀ w, (isAgg T).run P w = .ok true w) (hsz : ∀ w, (sizeOf T).run P w = .ok cs.length w) (hg : ∀ j v, cs[j]? = some v → Gives L ⟨b, 0 + j, none⟩ v) (hs : ∀ w, Sat L w → Sat M w) (hp : Post (.agg cs.toArray) M) :
    Tri (bodyPost P fn (retR W Post) .ret) W N E L := fun a w s => by
  have hp' : a.tmps[t]?.getD undef = .pointer (some ⟨b, 0, none⟩) := by simp [s.env t _ hv]
  have hl := run_loadCells_list (P := P) w ⟨b, 0, none⟩ cs (fun j v hv => by rw [add_plain]; exact hg j v hv w s.sat)
  refine bodyPost_ret (v := .agg cs.toArray) ?_ s.defers ⟨_, _, hp, rfl, hs w s.sat, s.ext⟩
  simp [results, hr, hp', asAddr, loadVar, hag, hsz, hl]
end
/-! natural numbers as cells -/
def nI (ms : List Nat) : List Int := ms.map fun m : Nat => (m : Int)
theorem nI_len (ms : List Nat) : (nI ms).length = ms.length := by simp [nI]
theorem nI_get (ms : List Nat) (i : Nat) : (nI ms).getD i 0 = ((ms.getD i 0 : Nat) : Int) := by
  by_cases h : i < ms.length
  · simp [nI, List.getD, h]
  · simp [nI, List.getD, Nat.le_of_not_lt h]
theorem nI_set (ms : List Nat) (i x : Nat) : (nI ms).set i (x : Int) = nI (ms.set i x) := by simp [nI]
theorem nI_rep (n : Nat) : nI (List.replicate n 0) = List.replicate n 0 := by simp [nI]
/-- the rows' bits, so many rows, and so many of the next one -/
def m0 (N : Nat) (es : List (List Int)) (i k : Nat) : List Nat := (List.range N).map fun j => if j < i then maskL (es.getD j []) else if j = i then maskL ((es.getD i []).take k) else 0
theorem m0_len (N : Nat) (es : List (List Int)) (i k : Nat) : (m0 N es i k).length = N := by simp [m0]
theorem m0_get {N : Nat} {es : List (List Int)} {i k j : Nat} (h : j < N) : (m0 N es i k).getD j 0 = if j < i then maskL (es.getD j []) else if j = i then maskL ((es.getD i []).take k) else 0 := by simp [m0, List.getD, h]
theorem getD_ext {l m : List Nat} (h : l.length = m.length) (k : ∀ i, i < l.length → l.getD i 0 = m.getD i 0) : l = m := by
  apply List.ext_getElem h
  intro i h1 h2
  have := k i h1
  simpa [List.getD, h1, h2] using this
theorem setN {l : List Nat} {i j x : Nat} (h : i < l.length) : (l.set i x).getD j 0 = if j = i then x else l.getD j 0 := by
  by_cases e : j = i
  · subst e; simp [List.getD, h]
  · rw [if_neg e]; simp [List.getD, Ne.symm e]
theorem m0_start (N : Nat) (es : List (List Int)) : m0 N es 0 0 = List.replicate N 0 := by
  refine getD_ext (by simp [m0]) fun i hi => ?_
  rw [m0_len] at hi
  rw [m0_get hi, if_neg (by omega)]
  have : (List.replicate N 0).getD i 0 = 0 := by simp [List.getD, hi]
  rw [this]; split <;> simp [maskL]
theorem m0_succ {N : Nat} {es : List (List Int)} {i k : Nat} (hi : i < N) (h : k < (es.getD i []).length) : (m0 N es i k).set i (maskL ((es.getD i []).take k) ||| 2 ^ ((es.getD i []).getD k 0).toNat) = m0 N es i (k + 1) := by
  refine getD_ext (by simp [m0]) fun j hj => ?_
  rw [List.length_set, m0_len] at hj
  rw [setN (by rw [m0_len]; exact hi), m0_get hj, m0_get hj]
  by_cases e : j = i
  · subst e; rw [if_pos rfl, if_neg (by omega), if_pos rfl, take_succ_i h, maskL_snoc]
  · simp only [if_neg e]
theorem m0_row {N : Nat} {es : List (List Int)} {i k : Nat} (h : (es.getD i []).length ≤ k) : m0 N es i k = m0 N es (i + 1) 0 := by
  refine getD_ext (by simp [m0]) fun j hj => ?_
  rw [m0_len] at hj
  rw [m0_get hj, m0_get hj, List.take_of_length_le h]
  by_cases e : j = i
  · subst e; rw [if_neg (by omega), if_pos rfl, if_pos (by omega)]
  · by_cases e2 : j < i
    · rw [if_pos e2, if_pos (by omega)]
    · rw [if_neg e2, if_neg e, if_neg (by omega)]; split <;> simp [maskL]
theorem m0_end {N : Nat} {es : List (List Int)} (hl : es.length = N) : m0 N es N 0 = behN es 0 := by
  refine getD_ext (by simp [m0, behN, hl]) fun j hj => ?_
  rw [m0_len] at hj
  rw [m0_get hj, if_pos hj]; exact map_mask_get.symm
/-- so many rows of a pass -/
def partB (b k : Nat) (ms : List Nat) : List Nat := (List.range ms.length).map fun j => if j < k then (stepB b ms).getD j 0 else ms.getD j 0
theorem partB_len (b k : Nat) (ms : List Nat) : (partB b k ms).length = ms.length := by simp [partB]
theorem partB_get {b k j : Nat} {ms : List Nat} (h : j < ms.length) : (partB b k ms).getD j 0 = if j < k then (stepB b ms).getD j 0 else ms.getD j 0 := by simp [partB, List.getD, h]
theorem partB_at {b k : Nat} {ms : List Nat} (h : k < ms.length) : (partB b k ms).getD k 0 = ms.getD k 0 := by rw [partB_get h, if_neg (by omega)]
theorem partB_by {b k : Nat} {ms : List Nat} (h : b < ms.length) : (partB b k ms).getD b 0 = ms.getD b 0 := by
  rw [partB_get h]
  split
  · rw [stepB_get h]; cases (ms.getD b 0).testBit b <;> simp
  · rfl
theorem partB_zero (b : Nat) (ms : List Nat) : partB b 0 ms = ms := getD_ext (partB_len _ _ _) fun i hi => by rw [partB_len] at hi; rw [partB_get hi, if_neg (by omega)]
theorem partB_end {b k : Nat} {ms : List Nat} (h : ms.length ≤ k) : partB b k ms = stepB b ms := getD_ext (by simp [partB, stepB]) fun i hi => by rw [partB_len] at hi; rw [partB_get hi, if_pos (by omega)]
theorem partB_yes {b k : Nat} {ms : List Nat} (hk : k < ms.length) (h : (ms.getD k 0).testBit b = true) : (partB b k ms).set k (ms.getD k 0 ||| ms.getD b 0) = partB b (k + 1) ms := by
  refine getD_ext (by simp [partB]) fun j hj => ?_
  rw [List.length_set, partB_len] at hj
  rw [setN (by rw [partB_len]; exact hk), partB_get hj, partB_get hj]
  by_cases e : j = k
  · subst e; rw [if_pos rfl, if_pos (by omega), stepB_get hj, h]; rfl
  · rw [if_neg e]
    by_cases e2 : j < k
    · rw [if_pos e2, if_pos (by omega)]
    · rw [if_neg e2, if_neg (by omega)]
theorem partB_no {b k : Nat} {ms : List Nat} (hk : k < ms.length) (h : (ms.getD k 0).testBit b = false) : partB b k ms = partB b (k + 1) ms := by
  refine getD_ext (by simp [partB]) fun j hj => ?_
  rw [partB_len] at hj
  rw [partB_get hj, partB_get hj]
  by_cases e : j = k
  · subst e; rw [if_neg (by omega), if_pos (by omega), stepB_get hj, h]; rfl
  · by_cases e2 : j < k
    · rw [if_pos e2, if_pos (by omega)]
    · rw [if_neg e2, if_neg (by omega)]
theorem behN_len' {N : Nat} {es : List (List Int)} (h : es.length = N) (b : Nat) : (nI (behN es b)).length = N := by rw [nI_len, behN_len]; exact h
theorem shl_nat {m : Nat} {x : Int} (h0 : 0 ≤ x) (h : x < 64) (hm : m < 2 ^ 64) : bOr .u64 (m : Int) (bShl .u64 1 x) = ((m ||| 2 ^ x.toNat : Nat) : Int) := by
  have e : x = ((x.toNat : Nat) : Int) := by omega
  rw [e]; exact with_bit m x.toNat (by omega) hm
theorem shl_one {x : Int} (h0 : 0 ≤ x) (h : x < 64) : bShl .u64 1 x = ((2 ^ x.toNat : Nat) : Int) := by
  have e : x = ((x.toNat : Nat) : Int) := by omega
  rw [e]; exact bShl_one x.toNat (by omega)
theorem cyc_and {es : List (List Int)} {N i : Nat} (hl : es.length = N) (h64 : N ≤ 64) (hi : Inn N es) : (bAnd .u64 (((behN es N).getD i 0 : Nat) : Int) ((rndN (behN es N) N : Nat) : Int) != 0) = cycB es i := by
  rw [bAnd_nat _ _ (behN_lt h64 hi N i) (rndN_lt (behN_lt h64 hi N) N)]
  unfold cycB; rw [hl, Bool.eq_iff_iff, bne_iff_ne, bne_iff_ne]; omega
/-! what may be -/
def kindB (x : Int) : Bool := x == 0 || x == 5 || x == 6
def strB (n x : Int) : Bool := decide (x < 0) || decide (x ≥ n)
def goodI (n : Int) (es : List (List Int)) (own : List Int) (i : Nat) : Bool := kindB (own.getD i 0) && !(es.getD i []).any (strB n)
def rightB (n : Int) (es : List (List Int)) (own : List Int) : Bool := decide (0 ≤ n) && decide (n ≤ 64) && decide ((es.length : Int) = n) && decide ((own.length : Int) = n) && (List.range es.length).all (goodI n es own)
theorem right_iff {n : Int} {es : List (List Int)} {own : List Int} : rightB n es own = true ↔ 0 ≤ n ∧ n ≤ 64 ∧ (es.length : Int) = n ∧ (own.length : Int) = n ∧ ∀ i, i < es.length → goodI n es own i = true := by
  unfold rightB
  simp only [Bool.and_eq_true, decide_eq_true_eq, List.all_eq_true, List.mem_range]
  constructor
  · rintro ⟨⟨⟨⟨a, b⟩, c⟩, d⟩, e⟩; exact ⟨a, b, c, d, e⟩
  · rintro ⟨a, b, c, d, e⟩; exact ⟨⟨⟨⟨a, b⟩, c⟩, d⟩, e⟩
theorem right_f {n : Int} {es : List (List Int)} {own : List Int} (h : ¬ (0 ≤ n ∧ n ≤ 64 ∧ (es.length : Int) = n ∧ (own.length : Int) = n)) : rightB n es own = false := by
  cases hb : rightB n es own with
  | false => rfl
  | true => have := right_iff.1 hb; exact absurd ⟨this.1, this.2.1, this.2.2.1, this.2.2.2.1⟩ h
theorem right_fi {n : Int} {es : List (List Int)} {own : List Int} {i : Nat} (hi : i < es.length) (h : goodI n es own i = false) : rightB n es own = false := by
  cases hb : rightB n es own with
  | false => rfl
  | true => rw [(right_iff.1 hb).2.2.2.2 i hi] at h; cases h
theorem good_all {n : Int} {es : List (List Int)} {own : List Int} {k : Nat} (ha : ∀ j, j < k → goodI n es own j = true) (h : goodI n es own k = true) : ∀ j, j < k + 1 → goodI n es own j = true := fun j hj => by
  by_cases e : j = k
  · exact e ▸ h
  · exact ha j (by omega)
theorem kindB_iff {x : Int} : kindB x = true ↔ x = 0 ∨ x = 5 ∨ x = 6 := by
  unfold kindB; simp only [Bool.or_eq_true, beq_iff_eq]; constructor
  · rintro ((h | h) | h); exact .inl h; exact .inr (.inl h); exact .inr (.inr h)
  · rintro (h | h | h); exact .inl (.inl h); exact .inl (.inr h); exact .inr h
theorem right_ok {n : Int} {es : List (List Int)} {own : List Int} (h : rightB n es own = true) : FOk n.toNat es own ∧ n = ((n.toNat : Nat) : Int) := by
  obtain ⟨h1, h2, h3, h4, h5⟩ := right_iff.1 h
  have hg : ∀ i, i < es.length → (own.getD i 0 = 0 ∨ own.getD i 0 = 5 ∨ own.getD i 0 = 6) ∧ ∀ x ∈ es.getD i [], 0 ≤ x ∧ x < n := fun i hi => by
    have := h5 i hi
    unfold goodI at this
    simp only [Bool.and_eq_true, Bool.not_eq_true', List.any_eq_false] at this
    refine ⟨kindB_iff.1 this.1, fun x hx => ?_⟩
    have := this.2 x hx
    unfold strB at this
    simp only [Bool.or_eq_true, decide_eq_true_eq, not_or] at this
    omega
  refine ⟨⟨by omega, by omega, by omega, fun l hl x hx => ?_, fun i hi => (hg i (by omega)).1⟩, by omega⟩
  obtain ⟨i, hi, rfl⟩ := List.getElem_of_mem hl
  have := (hg i hi).2 x (by simpa [List.getD, hi] using hx)
  omega
theorem ok_right {N : Nat} {es : List (List Int)} {own : List Int} (h : FOk N es own) : rightB (N : Int) es own = true := by
  refine right_iff.2 ⟨by omega, by have := h.small; omega, by rw [h.le], by rw [h.lo], fun i hi => ?_⟩
  unfold goodI
  simp only [Bool.and_eq_true, Bool.not_eq_true', List.any_eq_false]
  refine ⟨kindB_iff.2 (h.kinds i (by have := h.le; omega)), fun x hx => ?_⟩
  have := h.in_ i x hx
  unfold strB
  simp only [Bool.or_eq_true, decide_eq_true_eq, not_or]
  omega
/-! the closure -/
/-- what is written may only be what it must be -/
def Fit (es : List (List Int)) (own : List Int) (i : Nat) (o : List Int) : Prop := ∀ j, (j = i ∨ Way es i j) → o.getD j 0 = -1 ∨ o.getD j 0 = ver es own j
def Grew (es : List (List Int)) (own : List Int) (i : Nat) (o o' : List Int) : Prop := ∀ j, o'.getD j 0 = o.getD j 0 ∨ (o.getD j 0 = -1 ∧ o'.getD j 0 = ver es own j ∧ (j = i ∨ Way es i j))
theorem setI' {l : List Int} {i j : Nat} {x : Int} (h : i < l.length) : (l.set i x).getD j 0 = if j = i then x else l.getD j 0 := by
  by_cases e : j = i
  · subst e; simp [List.getD, h]
  · rw [if_neg e]; simp [List.getD, Ne.symm e]
/-- within the loop: what i is so far, all else as it was, or what it must be -/
structure Mid (es : List (List Int)) (own : List Int) (i k : Nat) (o0 o : List Int) : Prop where
  len : o.length = o0.length
  here : o.getD i 0 = verP es own i k
  other : ∀ j, j ≠ i → o.getD j 0 = o0.getD j 0 ∨ (o0.getD j 0 = -1 ∧ o.getD j 0 = ver es own j ∧ Way es i j)
theorem Mid.start {es : List (List Int)} {own : List Int} {i : Nat} {o : List Int} (hi : i < o.length) : Mid es own i 0 o (o.set i (own.getD i 0)) :=
  ⟨by simp, by rw [setI' hi, if_pos rfl, verP_zero], fun j hj => .inl (by rw [setI' hi, if_neg hj])⟩
theorem noway {N : Nat} {es : List (List Int)} (hl : es.length = N) (hi : Inn N es) {i j : Nat} (hc : cycB es i = false) (h : Way es i j) : ¬ (i = j ∨ Way es j i) := by
  rintro (rfl | h')
  · rw [(cyc_iff hl hi).2 ⟨i, h, h⟩] at hc; cases hc
  · have := h.trans h'; rw [(cyc_iff hl hi).2 ⟨i, this, this⟩] at hc; cases hc
theorem Mid.fit {N : Nat} {es : List (List Int)} {own : List Int} {i k x : Nat} {o0 o : List Int} (h : Mid es own i k o0 o) (hl : es.length = N) (hi : Inn N es) (hc : cycB es i = false) (hf : Fit es own i o0) (he : Ed es i x) : Fit es own x o := fun j hj => by
  have hw : Way es i j := by
    rcases hj with rfl | hj
    · exact .one he
    · exact .cons he hj
  have hne : j ≠ i := fun e => noway hl hi hc hw (.inl e.symm)
  rcases h.other j hne with h1 | h1
  · rw [h1]; exact hf j (.inr hw)
  · exact .inr h1.2.1
theorem Mid.grow {N : Nat} {es : List (List Int)} {own : List Int} {i k x : Nat} {o0 o o' : List Int} (h : Mid es own i k o0 o) (hl : es.length = N) (hi : Inn N es) (hc : cycB es i = false) (he : Ed es i x) (hg : Grew es own x o o') (hlen : o'.length = o.length) : Mid es own i k o0 o' := by
  refine ⟨hlen.trans h.len, ?_, fun j hj => ?_⟩
  · rcases hg i with h1 | ⟨_, _, h1⟩
    · rw [h1]; exact h.here
    · exact absurd h1 (noway hl hi hc (.one he))
  · rcases hg j with h1 | ⟨h1, h2, h3⟩
    · rw [h1]; exact h.other j hj
    · have hw : Way es i j := by
        rcases h3 with rfl | h3
        · exact .one he
        · exact .cons he h3
      rcases h.other j hj with h4 | h4
      · exact .inr ⟨by rw [← h4]; exact h1, h2, hw⟩
      · rw [h1] at h4; exact .inr ⟨h4.1, h2, hw⟩
theorem Mid.step {es : List (List Int)} {own : List Int} {i k : Nat} {o0 o : List Int} (h : Mid es own i k o0 o) (hi : i < o.length) (hk : k < (es.getD i []).length) {v : Int} (hv : v = ver es own ((es.getD i []).getD k 0).toNat) : Mid es own i (k + 1) o0 (o.set i (vst (verP es own i k) v)) :=
  ⟨by simp [h.len], by rw [setI' hi, if_pos rfl, verP_succ hk, hv], fun j hj => by rw [setI' hi, if_neg hj]; exact h.other j hj⟩
theorem Mid.skip {es : List (List Int)} {own : List Int} {i k : Nat} {o0 o : List Int} (h : Mid es own i k o0 o) (hk : k < (es.getD i []).length) {v : Int} (hv : v = ver es own ((es.getD i []).getD k 0).toNat) (he : vst (verP es own i k) v = verP es own i k) : Mid es own i (k + 1) o0 o :=
  ⟨h.len, by rw [h.here, verP_succ hk, ← hv, he], h.other⟩
theorem Mid.step6 {es : List (List Int)} {own : List Int} {i k : Nat} {o0 o : List Int} (h : Mid es own i k o0 o) (hi : i < o.length) (hk : k < (es.getD i []).length) (h6 : ver es own ((es.getD i []).getD k 0).toNat = 6) : Mid es own i (k + 1) o0 (o.set i 6) := by
  have := h.step hi hk rfl; rw [h6] at this; exact this
theorem Mid.step0 {es : List (List Int)} {own : List Int} {i k : Nat} {o0 o : List Int} (h : Mid es own i k o0 o) (hi : i < o.length) (hk : k < (es.getD i []).length) (h0 : ver es own ((es.getD i []).getD k 0).toNat = 0) (h5 : o.getD i 0 = 5) : Mid es own i (k + 1) o0 (o.set i 0) := by
  have := h.step hi hk rfl; rw [h0, ← h.here, h5] at this; exact this
theorem Mid.stepN {es : List (List Int)} {own : List Int} {i k : Nat} {o0 o : List Int} (h : Mid es own i k o0 o) (hk : k < (es.getD i []).length) (h6 : ¬ ver es own ((es.getD i []).getD k 0).toNat = 6) (hn : ¬ (ver es own ((es.getD i []).getD k 0).toNat = 0 ∧ o.getD i 0 = 5)) : Mid es own i (k + 1) o0 o :=
  h.skip hk rfl (by unfold vst; rw [if_neg h6, if_neg (by rw [← h.here]; exact hn)])
theorem Mid.end_ {N : Nat} {es : List (List Int)} {own : List Int} {i k : Nat} {o0 o : List Int} (h : Mid es own i k o0 o) (hl : es.length = N) (hi : Inn N es) (hc : cycB es i = false) (hk : (es.getD i []).length ≤ k) (h0 : o0.getD i 0 = -1) : o.getD i 0 = ver es own i ∧ Grew es own i o0 o := by
  have e : o.getD i 0 = ver es own i := by rw [h.here, verP_end hl hi hc hk]
  refine ⟨e, fun j => ?_⟩
  by_cases hj : j = i
  · subst hj; exact .inr ⟨h0, e, .inl rfl⟩
  · rcases h.other j hj with h1 | ⟨h1, h2, h3⟩
    · exact .inl h1
    · exact .inr ⟨h1, h2, .inr h3⟩
theorem grew_cyc {N : Nat} {es : List (List Int)} {own : List Int} {i : Nat} {o : List Int} {x : Int} (hl : es.length = N) (hi : Inn N es) (hc : cycB es i = true) (hlen : i < o.length) (h0 : o.getD i 0 = -1) : ((o.set i x).set i 7).getD i 0 = ver es own i ∧ Grew es own i o ((o.set i x).set i 7) := by
  have e : ((o.set i x).set i 7).getD i 0 = ver es own i := by rw [setI' (by simpa using hlen), if_pos rfl, ver_cyc hl hi hc]
  refine ⟨e, fun j => ?_⟩
  by_cases hj : j = i
  · subst hj; exact .inr ⟨h0, e, .inl rfl⟩
  · rw [setI' (by simpa using hlen), if_neg hj, setI' hlen, if_neg hj]; exact .inl rfl
theorem grew_refl (es : List (List Int)) (own : List Int) (i : Nat) (o : List Int) : Grew es own i o o := fun _ => .inl rfl
/-- all the tasks below k are told, the others not yet or as they must be -/
structure ToldV (es : List (List Int)) (own : List Int) (k : Nat) (o : List Int) : Prop where
  len : o.length = es.length
  done : ∀ j, j < k → o.getD j 0 = ver es own j
  fit : ∀ j, j < es.length → o.getD j 0 = -1 ∨ o.getD j 0 = ver es own j
theorem ToldV.start (es : List (List Int)) (own : List Int) : ToldV es own 0 (List.replicate es.length (-1)) :=
  ⟨by simp, fun j hj => absurd hj (by omega), fun j hj => .inl (by simp [List.getD, hj])⟩
theorem ToldV.fit_ {N : Nat} {es : List (List Int)} {own : List Int} {k i : Nat} {o : List Int} (h : ToldV es own k o) (hl : es.length = N) (hi : Inn N es) (hk : i < N) : Fit es own i o := fun j hj => h.fit j (by rcases hj with rfl | hj; omega; have := hj.lt hi; omega)
theorem ToldV.next {N : Nat} {es : List (List Int)} {own : List Int} {k : Nat} {o o' : List Int} (h : ToldV es own k o) (hf : FOk N es own) (hk : k < N) (hlen : o'.length = N) (h1 : o'.getD k 0 = ver es own k) (hg : Grew es own k o o') : ToldV es own (k + 1) o' := by
  have hne := fun (j : Nat) (hj : j < N) => ver_ne hf hj
  refine ⟨hlen.trans hf.le.symm, fun j hj => ?_, fun j hj => ?_⟩
  · by_cases e : j = k
    · exact e ▸ h1
    · rcases hg j with h2 | h2
      · rw [h2]; exact h.done j (by omega)
      · exact h2.2.1
  · rcases hg j with h2 | h2
    · rw [h2]; exact h.fit j hj
    · exact .inr h2.2.1
theorem ToldV.end_ {es : List (List Int)} {own : List Int} {k : Nat} {o : List Int} (h : ToldV es own k o) (hk : es.length ≤ k) : o = verL es own := by
  apply List.ext_getElem (by rw [h.len, verL_len])
  intro i h1 h2
  have := h.done i (by have := h.len; omega)
  rw [← verL_get (by have := h.len; omega)] at this
  simpa [List.getD, h1, h2] using this
end Go.Proofs.Ytljnaefaahphaaa.Sp
