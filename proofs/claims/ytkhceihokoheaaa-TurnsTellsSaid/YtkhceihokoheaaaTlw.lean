/- What the laws of turns want: plain facts. No program in it. -/
import Derived.Test.YtkhceihokoheaaaTrm
import Derived.Test.YtkhceihokoheaaaPln
set_option linter.unusedVariables false
set_option linter.unusedSimpArgs false
namespace Go.Proofs.Ytkhceihokoheaaa.Sp
open Go
theorem and_3ff (n : Int) : bAnd .i64 n 1023 = n % 1024 := and_pow 10 (by omega) n
theorem and_1f (n : Int) : bAnd .i64 n 31 = n % 32 := and_pow 5 (by omega) n
theorem rem_nat (x y : Nat) : ((x : Nat) : Int).tmod ((y : Nat) : Int) = ((x % y : Nat) : Int) := by
  rw [Int.tmod_eq_emod_of_nonneg (by omega)]; exact (Int.natCast_emod x y).symm
theorem wrT {x y : Int} (h : x = y) (h1 : -9223372036854775808 ≤ y) (h2 : y ≤ 9223372036854775807) : IntKind.i64.wrap x = y := by subst h; exact wr_i64 h1 h2
/-- members by number -/
def memL (f : Nat → Int) (n : Nat) : List M3 := (List.range n).map fun i : Nat => ⟨(i : Int), f i, 0⟩
theorem memL_len (f : Nat → Int) (n : Nat) : (memL f n).length = n := by simp [memL]
theorem memL_get {f : Nat → Int} {n i : Nat} (h : i < n) : (memL f n).getD i M3.z = ⟨(i : Int), f i, 0⟩ := by simp [memL, List.getD, h]
theorem memL_succ (f : Nat → Int) (n : Nat) : memL f (n + 1) = memL f n ++ [⟨(n : Int), f n, 0⟩] := by simp [memL, List.range_succ]
theorem placeM_memL {f : Nat → Int} {n : Nat} {x : Int} (h : ∀ i : Nat, i < n → (i : Int) ≠ x) : placeM (memL f n) x = -1 := by
  rcases placeM_cases (memL f n) x with ⟨k, h1, h2, h3⟩ | ⟨h1, _⟩
  · rw [memL_len] at h2; rw [memL_get h2] at h3; exact absurd h3 (h k h2)
  · exact h1
theorem join_mem {f : Nat → Int} {k : Nat} (hw : 1 ≤ f k ∧ f k ≤ 100) : joinEr (memL f k) (k : Int) (f k) = 0 ∧ joinM (memL f k) (k : Int) (f k) = memL f (k + 1) := by
  have h0 : joinEr (memL f k) (k : Int) (f k) = 0 := by
    unfold joinEr; rw [if_neg (by omega), if_neg (by rw [placeM_memL (fun i hi => by omega)]; omega)]
  exact ⟨h0, by unfold joinM; rw [if_pos h0, memL_succ]⟩
/-- what all want -/
def wantL (c : Nat → Int) (n : Nat) : List (Int × Int) := (List.range n).map fun k : Nat => ((k : Int), c k)
theorem wantL_len (c : Nat → Int) (n : Nat) : (wantL c n).length = n := by simp [wantL]
theorem wantL_get {c : Nat → Int} {n k : Nat} (h : k < n) : (wantL c n).getD k (0, 0) = ((k : Int), c k) := by simp [wantL, List.getD, h]
theorem wantL_succ (c : Nat → Int) (n : Nat) : wantL c n ++ [((n : Int), c n)] = wantL c (n + 1) := by simp [wantL, List.range_succ]
theorem costOf_none {c : Nat → Int} {n : Nat} {x : Int} (h : ∀ i : Nat, i < n → (i : Int) ≠ x) : costOf (wantL c n) x = 0 := by
  unfold costOf
  have : (wantL c n).find? (fun e => e.1 == x && okCost e.2) = none := by
    rw [List.find?_eq_none]; intro e he
    unfold wantL at he
    obtain ⟨k, hk, rfl⟩ := List.mem_map.1 he
    have := h k (List.mem_range.1 hk)
    simp [this]
  rw [this]
theorem costOf_want {c : Nat → Int} : ∀ {n i : Nat}, i < n → (1 ≤ c i ∧ c i ≤ 1048576) → costOf (wantL c n) (i : Int) = c i := by
  intro n
  induction n with
  | zero => intro i h; omega
  | succ n ih =>
    intro i h hc
    rw [← wantL_succ, costOf_snoc]
    by_cases e : i = n
    · subst e
      rw [costOf_none (fun j hj => by omega), if_pos rfl, if_pos ⟨rfl, hc⟩]
    · rw [ih (by omega) hc, if_neg (by omega)]
/-- members 0 .. n-1 with these weights -/
structure Std (f : Nat → Int) (n : Nat) (ms : List M3) : Prop where
  len : ms.length = n
  id : ∀ i, i < n → (ms.getD i M3.z).id = (i : Int)
  w : ∀ i, i < n → (ms.getD i M3.z).w = f i
theorem Std.mem (f : Nat → Int) (n : Nat) : Std f n (memL f n) := ⟨memL_len f n, fun i h => by rw [memL_get h], fun i h => by rw [memL_get h]⟩
theorem Std.cost {f : Nat → Int} {n : Nat} {ms : List M3} (h : Std f n ms) {c : Nat → Int} (hc : ∀ k, k < n → 1 ≤ c k ∧ c k ≤ 1048576) {i : Nat} (hi : i < n) : (costsL ms (wantL c n)).getD i 0 = c i := by
  rw [costsL_get (by rw [h.len]; exact hi), h.id i hi, costOf_want hi (hc i hi)]
theorem Std.any {f : Nat → Int} {n : Nat} {ms : List M3} (h : Std f n ms) {c : Nat → Int} (hc : ∀ k, k < n → 1 ≤ c k ∧ c k ≤ 1048576) (hn : 0 < n) : anyPos (costsL ms (wantL c n)) = true :=
  anyPos_iff.2 ⟨0, by rw [costsL_len, h.len]; exact hn, by rw [h.cost hc hn]; have := hc 0 hn; omega⟩
theorem Std.set {f : Nat → Int} {n : Nat} {ms : List M3} (h : Std f n ms) {i : Nat} (hi : i < n) (c : Int) : Std f n (setC ms i c) := by
  have hl := h.len
  refine ⟨by rw [setC_len]; exact hl, fun j hj => ?_, fun j hj => ?_⟩
  · rw [setC_get (by omega)]; split
    · rename_i e; rw [e]; exact h.id i hi
    · exact h.id j hj
  · rw [setC_get (by omega)]; split
    · rename_i e; rw [e]; exact h.w i hi
    · exact h.w j hj
theorem Std.step {f : Nat → Int} {n : Nat} {ms : List M3} (h : Std f n ms) {q : Int} {cs : List Int} {a : Nat} (ha : a < n) : Std f n (stepT q cs (ms, a)).1 := by
  have hl := h.len
  refine ⟨by rw [stepT_len]; exact hl, fun j hj => ?_, fun j hj => ?_⟩
  · rw [step_get (by omega) (by omega)]; exact h.id j hj
  · rw [step_get (by omega) (by omega)]; exact h.w j hj
/-! what each got, by weight -/
def turnN (a j : Nat) : Int := if 1 ≤ j ∧ j ≤ a then 1 else 0
structure FairI (q : Int) (f : Nat → Int) (n : Nat) (most : Int) (got : List Int) (ms : List M3) (a : Nat) : Prop where
  std : Std f n ms
  al : a < n
  tot : ∃ R : Int, ∀ j, j < n → got.getD j 0 + (ms.getD j M3.z).c = q * f j * (R + turnN a j)
  lo : ∀ j, j < n → 0 ≤ (ms.getD j M3.z).c
  hi : ∀ j, j < n → (ms.getD j M3.z).c ≤ most + (if j = a then q * f j else 0)
theorem FairI.start {q : Int} {f : Nat → Int} {n : Nat} (hn : 0 < n) (hg : ∀ j, j < n → 0 ≤ q * f j) : FairI q f n 0 (List.replicate 10 0) (memL f n) 0 := by
  refine ⟨.mem f n, hn, ⟨0, fun j hj => ?_⟩, fun j hj => by rw [memL_get hj]; exact Int.le_refl _, fun j hj => ?_⟩
  · rw [memL_get hj]
    have h1 : turnN 0 j = 0 := by unfold turnN; rw [if_neg (by omega)]
    have h2 : (List.replicate 10 (0 : Int)).getD j 0 = 0 := by rw [List.getD, List.getElem?_replicate]; split <;> rfl
    rw [h1, h2]; simp
  · rw [memL_get hj]; have := hg j hj; show (0 : Int) ≤ _; split <;> omega
theorem FairI.step {q : Int} {f : Nat → Int} {n : Nat} {most m : Int} {got : List Int} {ms : List M3} {a : Nat} (h : FairI q f n m got ms a) {cs : List Int} (hcs : ∀ j, j < n → 1 ≤ cs.getD j 0 ∧ cs.getD j 0 ≤ m) (hg : ∀ j, j < n → 0 ≤ q * f j)
    (hr : rdyT cs (ms, a) = false) : FairI q f n m got (stepT q cs (ms, a)).1 (nxt a n) := by
  have hl := h.std.len; have hal := h.al; have hnl := nxt_lt hal
  have hrd := rdyT_false.1 hr; simp only at hrd
  have hga : ∀ j, j < n → (stepT q cs (ms, a)).1.getD j M3.z = ⟨(ms.getD j M3.z).id, (ms.getD j M3.z).w, (ms.getD j M3.z).c + (if j = nxt a n then q * f j else 0)⟩ := fun j hj => by
    have hc := hcs j hj
    rw [step_get (by omega) (by omega), hl, h.std.w j hj]
    have c1 : ¬ (j = a ∧ cs.getD j 0 = 0) := fun h => by omega
    simp only [if_neg c1]
    by_cases e : j = nxt a n
    · rw [if_pos ⟨e, by omega⟩, if_pos e]
    · rw [if_neg (fun h => e h.1), if_neg e]
  refine ⟨h.std.step hal, hnl, ?_, fun j hj => ?_, fun j hj => ?_⟩
  · obtain ⟨R, hR⟩ := h.tot
    by_cases e : a + 1 = n
    · refine ⟨R + 1, fun j hj => ?_⟩
      rw [hga j hj]
      have h1 := hR j hj
      have hn0 : nxt a n = 0 := by unfold nxt; rw [if_pos e]
      have h2 : turnN (nxt a n) j = 0 := by unfold turnN; rw [hn0, if_neg (by omega)]
      show got.getD j 0 + ((ms.getD j M3.z).c + (if j = nxt a n then q * f j else 0)) = _
      rw [h2, hn0]
      by_cases ej : j = 0
      · have h3 : turnN a j = 0 := by unfold turnN; rw [if_neg (by omega)]
        rw [h3] at h1; rw [if_pos ej, ← Int.add_assoc, h1]; grind
      · have h3 : turnN a j = 1 := by unfold turnN; rw [if_pos (by omega)]
        rw [h3] at h1; rw [if_neg ej, ← Int.add_assoc, h1]; grind
    · refine ⟨R, fun j hj => ?_⟩
      rw [hga j hj]
      have h1 := hR j hj
      have hn0 : nxt a n = a + 1 := by unfold nxt; rw [if_neg e]
      show got.getD j 0 + ((ms.getD j M3.z).c + (if j = nxt a n then q * f j else 0)) = _
      rw [hn0]
      by_cases ej : j = a + 1
      · have h3 : turnN a j = 0 := by unfold turnN; rw [if_neg (by omega)]
        have h4 : turnN (a + 1) j = 1 := by unfold turnN; rw [if_pos (by omega)]
        rw [h3] at h1; rw [h4, if_pos ej, ← Int.add_assoc, h1]; grind
      · have h3 : turnN a j = turnN (a + 1) j := by
          unfold turnN
          by_cases h5 : 1 ≤ j ∧ j ≤ a
          · rw [if_pos h5, if_pos (by omega)]
          · rw [if_neg h5, if_neg (by omega)]
        rw [if_neg ej, Int.add_zero, h1, h3]
  · rw [hga j hj]; have h1 := h.lo j hj; have h2 := hg j hj
    show 0 ≤ (ms.getD j M3.z).c + (if j = nxt a n then q * f j else 0)
    split <;> omega
  · rw [hga j hj]; have h1 := h.hi j hj; have h2 := hg j hj; have h3 := hcs j hj
    show (ms.getD j M3.z).c + (if j = nxt a n then q * f j else 0) ≤ m + (if j = nxt a n then q * f j else 0)
    have h4 : (ms.getD j M3.z).c ≤ m := by
      by_cases e : j = a
      · subst e; have := hrd (by omega); omega
      · rw [if_neg e] at h1; omega
    omega
theorem FairI.take {q : Int} {f : Nat → Int} {n : Nat} {most m : Int} {got : List Int} {ms : List M3} {a : Nat} (h : FairI q f n most got ms a) (hm : most ≤ m) {c : Nat → Int} (hc : ∀ k, k < n → 1 ≤ c k ∧ c k ≤ m) (hm2 : m ≤ 1048576) (hg : ∀ j, j < n → 0 ≤ q * f j) (hgl : n ≤ got.length)
    {tm : List M3} {ta : Nat} (ht : TakeR q (costsL ms (wantL c n)) (ms, a) (tm, ta)) :
    ta < n ∧ (tm.getD ta M3.z).id = (ta : Int) ∧ (costsL ms (wantL c n)).getD ta 0 = c ta ∧ FairI q f n m (got.set ta (got.getD ta 0 + c ta)) (setC tm ta ((tm.getD ta M3.z).c - c ta)) ta := by
  have hcb : ∀ k, k < n → 1 ≤ c k ∧ c k ≤ 1048576 := fun k hk => by have := hc k hk; omega
  have hcs : ∀ j, j < n → (costsL ms (wantL c n)).getD j 0 = c j := fun j hj => h.std.cost hcb hj
  have h0 : FairI q f n m got ms a := ⟨h.std, h.al, h.tot, h.lo, fun j hj => by have := h.hi j hj; omega⟩
  obtain ⟨hI, hr⟩ := ht.inv (I := fun s => FairI q f n m got s.1 s.2) h0 (fun s hs hr => by
    have := FairI.step (most := most) (ms := s.1) (a := s.2) hs (cs := costsL ms (wantL c n)) (fun j hj => by rw [hcs j hj]; exact hc j hj) hg hr
    have e : (stepT q (costsL ms (wantL c n)) s).2 = nxt s.2 n := by unfold stepT; rw [hs.std.len]
    rw [e]; exact this)
  simp only at hI
  have hta := hI.al
  have hr := rdyT_true.1 hr; simp only at hr
  rw [hcs ta hta] at hr
  have hl := hI.std.len
  refine ⟨hta, hI.std.id ta hta, hcs ta hta, hI.std.set hta _, hta, ?_, fun j hj => ?_, fun j hj => ?_⟩
  · obtain ⟨R, hR⟩ := hI.tot
    refine ⟨R, fun j hj => ?_⟩
    have h1 := hR j hj
    rw [setC_get (by omega)]
    by_cases e : j = ta
    · subst e; rw [if_pos rfl]
      have : (got.set j (got.getD j 0 + c j)).getD j 0 = got.getD j 0 + c j := by simp [List.getD, show j < got.length by omega]
      rw [this]; show got.getD j 0 + c j + ((tm.getD j M3.z).c - c j) = _; omega
    · rw [if_neg e, getD_set_ne _ (fun h => e h.symm)]; exact h1
  · rw [setC_get (by omega)]; split
    · show 0 ≤ (tm.getD ta M3.z).c - c ta; omega
    · exact hI.lo j hj
  · have h1 := hI.hi j hj; have h2 := hc ta hta
    rw [setC_get (by omega)]; by_cases e : j = ta
    · subst e; rw [if_pos rfl] at h1 ⊢; rw [if_pos rfl]; show (tm.getD j M3.z).c - c j ≤ _; omega
    · rw [if_neg e]; exact h1
theorem mul_bd {x y a b : Int} (h1 : 0 ≤ x ∧ x ≤ a) (h2 : 0 ≤ y ∧ y ≤ b) : 0 ≤ x * y ∧ x * y ≤ a * b :=
  ⟨Int.mul_nonneg h1.1 h2.1, Int.mul_le_mul h1.2 h2.2 h2.1 (by omega)⟩
theorem FairI.ok {q : Int} {f : Nat → Int} {n : Nat} {m : Int} {got : List Int} {ms : List M3} {a : Nat} (h : FairI q f n m got ms a) (hq : 0 ≤ q) (hm : 0 ≤ m) (hf : ∀ j, j < n → 1 ≤ f j) {x y : Nat} (hx : x < n) (hy : y < n) :
    ¬ got.getD x 0 * f y - got.getD y 0 * f x > (2 * q + m) * f x * f y := by
  obtain ⟨R, hR⟩ := h.tot
  have h1 := hR x hx; have h2 := hR y hy
  have hlx := h.lo x hx; have hhy := h.hi y hy
  have hfx := hf x hx; have hfy := hf y hy
  have ht : turnN a x - turnN a y ≤ 1 ∧ -1 ≤ turnN a x - turnN a y := by unfold turnN; split <;> split <;> omega
  have hyc : (ms.getD y M3.z).c ≤ m + q * f y := by
    have : 0 ≤ q * f y := Int.mul_nonneg hq (by omega)
    split at hhy <;> omega
  generalize (ms.getD x M3.z).c = cx at *
  generalize (ms.getD y M3.z).c = cy at *
  generalize got.getD x 0 = gx at *
  generalize got.getD y 0 = gy at *
  generalize turnN a x = tx at *
  generalize turnN a y = ty at *
  have e1 : gx * f y - gy * f x = q * f x * f y * (tx - ty) - cx * f y + cy * f x := by
    have : gx = q * f x * (R + tx) - cx := by omega
    have : gy = q * f y * (R + ty) - cy := by omega
    subst gx; subst gy; grind
  have p1 : 0 ≤ q * f x * f y := Int.mul_nonneg (Int.mul_nonneg hq (by omega)) (by omega)
  have p2 : q * f x * f y * (tx - ty) ≤ q * f x * f y * 1 := Int.mul_le_mul_of_nonneg_left ht.1 p1
  have p3 : 0 ≤ cx * f y := Int.mul_nonneg hlx (by omega)
  have p4 : cy * f x ≤ (m + q * f y) * f x := Int.mul_le_mul_of_nonneg_right hyc (by omega)
  have p5 : m * f x * 1 ≤ m * f x * f y := Int.mul_le_mul_of_nonneg_left hfy (Int.mul_nonneg hm (by omega))
  have e2 : (2 * q + m) * f x * f y = q * f x * f y + q * f x * f y + m * f x * f y := by grind
  have e3 : (m + q * f y) * f x = m * f x + q * f x * f y := by grind
  omega
/-! rows of ten -/
def wL (f : Nat → Int) (k : Nat) : List Int := (List.range 10).map fun i => if i < k then f i else 0
theorem wL_len (f : Nat → Int) (k : Nat) : (wL f k).length = 10 := by simp [wL]
theorem wL_get {f : Nat → Int} {k i : Nat} (h : i < k) (h10 : i < 10) : (wL f k).getD i 0 = f i := by simp [wL, List.getD, h10, h]
theorem wL_zero (f : Nat → Int) : List.replicate 10 0 = wL f 0 := by simp [wL]; decide
theorem wL_set {f : Nat → Int} {k : Nat} (h : k < 10) : (wL f k).set k (f k) = wL f (k + 1) := by
  refine List.ext_getElem (by simp [wL]) fun i h1 h2 => ?_
  have hi : i < 10 := by simpa [wL] using h1
  rw [List.getElem_set]
  by_cases e : k = i
  · subst e; simp [wL]
  · rw [if_neg e]; simp only [wL, List.getElem_map, List.getElem_range]
    by_cases h3 : i < k
    · rw [if_pos h3, if_pos (by omega)]
    · rw [if_neg h3, if_neg (by omega)]
def wtF (xs : List Int) (m : Int) (i : Nat) : Int := 1 + xs.getD i 0 % 65536 % m
theorem wtF_bd (xs : List Int) {m : Int} (hm : 0 < m) (i : Nat) : 1 ≤ wtF xs m i ∧ wtF xs m i ≤ m := by
  unfold wtF
  have h1 := Int.emod_nonneg (xs.getD i 0 % 65536) (show m ≠ 0 by omega)
  have h2 := Int.emod_lt_of_pos (xs.getD i 0 % 65536) hm
  omega
def cF (ys : List Int) (i k : Nat) : Int := 1 + ys.getD ((i + k) % ys.length) 0 % 1024
theorem cF_bd (ys : List Int) (i k : Nat) : 1 ≤ cF ys i k ∧ cF ys i k ≤ 1024 := by unfold cF; omega
theorem gain_bd {q w a b : Int} (h1 : 1 ≤ q ∧ q ≤ a) (h2 : 1 ≤ w ∧ w ≤ b) : 0 ≤ q * w ∧ q * w ≤ a * b := mul_bd (by omega) (by omega)
/-! only one wants -/
theorem one_take {f : Nat → Int} {n : Nat} {ms : List M3} (h : Std f n ms) {q c : Int} {a who : Nat} (ha : a < n) (hw : who < n) (hc : 1 ≤ c ∧ c ≤ 1048576) :
    anyPos (costsL ms [((who : Int), c)]) = true ∧ ∀ {tm : List M3} {ta : Nat}, TakeR q (costsL ms [((who : Int), c)]) (ms, a) (tm, ta) → ta = who ∧ (tm.getD ta M3.z).id = (who : Int) ∧ ∀ x, Std f n (setC tm ta x) := by
  have hl := h.len
  have hcs : ∀ i, i < n → (costsL ms [((who : Int), c)]).getD i 0 = if i = who then c else 0 := fun i hi => by
    rw [costsL_get (by omega), h.id i hi]
    have := costOf_snoc [] ((who : Int), c) (i : Int)
    rw [List.nil_append] at this
    rw [this]
    have h0 : costOf [] (i : Int) = 0 := rfl
    rw [if_pos h0]
    by_cases e : i = who
    · rw [if_pos e, if_pos ⟨by omega, hc⟩]
    · rw [if_neg e, if_neg (fun h => e (by have := h.1; simp only at this; omega))]
  refine ⟨anyPos_iff.2 ⟨who, by rw [costsL_len, hl]; exact hw, by rw [hcs who hw, if_pos rfl]; omega⟩, fun {tm ta} ht => ?_⟩
  obtain ⟨⟨hI, hta⟩, hr⟩ := ht.inv (I := fun s => Std f n s.1 ∧ s.2 < n) ⟨h, ha⟩ (fun s hs hr => ⟨hs.1.step hs.2, by show nxt s.2 s.1.length < n; rw [hs.1.len]; exact nxt_lt hs.2⟩)
  simp only at hI hta
  have hr := (rdyT_true.1 hr).1; simp only at hr
  rw [hcs ta hta] at hr
  have e : ta = who := by
    by_cases e : ta = who
    · exact e
    · rw [if_neg e] at hr; omega
  exact ⟨e, by rw [hI.id ta hta, e], fun x => hI.set hta x⟩
/-! each gets just what it wants -/
theorem round_take {q w : Int} {n a : Nat} (ha : a < n) (hg : 1 ≤ q * w ∧ q * w ≤ 1048576) {tm : List M3} {ta : Nat} (ht : TakeR q (costsL (memL (fun _ => w) n) (wantL (fun _ => q * w) n)) (memL (fun _ => w) n, a) (tm, ta)) :
    ta = nxt a n ∧ (tm.getD ta M3.z).id = ((nxt a n : Nat) : Int) ∧ setC tm ta ((tm.getD ta M3.z).c - (costsL (memL (fun _ => w) n) (wantL (fun _ => q * w) n)).getD ta 0) = memL (fun _ => w) n := by
  have hl := memL_len (fun _ => w) n
  have hnl := nxt_lt ha
  have hcs : ∀ j, j < n → (costsL (memL (fun _ => w) n) (wantL (fun _ => q * w) n)).getD j 0 = q * w := fun j hj => (Std.mem (fun _ => w) n).cost (c := fun _ => q * w) (fun _ _ => hg) hj
  generalize hcse : costsL (memL (fun _ => w) n) (wantL (fun _ => q * w) n) = cs at *
  have hst : ∀ j, j < n → (stepT q cs (memL (fun _ => w) n, a)).1.getD j M3.z = ⟨(j : Int), w, if j = nxt a n then q * w else 0⟩ := fun j hj => by
    have hc := hcs j hj
    rw [step_get (by omega) (by omega), hl, memL_get hj]
    have c1 : ¬ (j = a ∧ cs.getD j 0 = 0) := fun h => by omega
    simp only [if_neg c1]
    by_cases e : j = nxt a n
    · simp only [if_pos (show j = nxt a n ∧ 0 < cs.getD j 0 from ⟨e, by omega⟩), if_pos e, Int.zero_add]
    · simp only [if_neg (show ¬ (j = nxt a n ∧ 0 < cs.getD j 0) from fun h => e h.1), if_neg e, Int.zero_add]
  have h2 : (stepT q cs (memL (fun _ => w) n, a)).2 = nxt a n := by unfold stepT; rw [hl]
  have hlen : (stepT q cs (memL (fun _ => w) n, a)).1.length = n := by rw [stepT_len]; exact hl
  have hr0 : rdyT cs (memL (fun _ => w) n, a) = false := rdyT_false.2 (fun _ => by show ((memL (fun _ => w) n).getD a M3.z).c < _; rw [memL_get ha, hcs a ha]; show (0 : Int) < _; omega)
  have hr1 : rdyT cs (stepT q cs (memL (fun _ => w) n, a)) = true := rdyT_true.2 (by rw [h2, hst _ hnl, hcs _ hnl, if_pos rfl]; exact ⟨by omega, Int.le_refl _⟩)
  have := ht.det (.next hr0 (.here hr1))
  obtain ⟨e1, e2⟩ := Prod.ext_iff.1 this
  simp only at e1 e2
  rw [h2] at e2
  subst e1; subst e2
  refine ⟨rfl, by rw [hst _ hnl], ?_⟩
  refine ms_ext (by rw [setC_len, hlen, hl]) fun j hj => ?_
  rw [setC_len, hlen] at hj
  rw [setC_get (by omega), memL_get hj, hst _ hnl, hcs _ hnl, hst _ hj]
  by_cases e : j = nxt a n
  · rw [if_pos e, if_pos rfl, e]; simp
  · rw [if_neg e, if_neg e]
/-! one who never wants, at the end -/
theorem getD_snoc_l {ms : List M3} {m : M3} {i : Nat} (h : i < ms.length) : (ms ++ [m]).getD i M3.z = ms.getD i M3.z := by
  simp only [List.getD]; rw [List.getElem?_append_left h]
theorem getD_snoc_r {ms : List M3} {m : M3} : (ms ++ [m]).getD ms.length M3.z = m := by simp [List.getD]
theorem setC_snoc {ms : List M3} {m : M3} {i : Nat} (h : i < ms.length) (c : Int) : setC (ms ++ [m]) i c = setC ms i c ++ [m] := by
  unfold setC; rw [getD_snoc_l h, List.set_append_left _ _ h]
theorem idle_take {q : Int} {cs : List Int} {m : M3} (hm : m.c = 0) : ∀ (k : Nat) {ms : List M3} {a : Nat} {tm : List M3} {ta : Nat}, cs.length = ms.length → a < ms.length → runN q cs k (ms, a) = some (tm, ta) → TakeR q (cs ++ [0]) (ms ++ [m], a) (tm ++ [m], ta) ∧ ta < ms.length ∧ tm.length = ms.length := by
  intro k
  induction k with
  | zero => intro ms a tm ta _ _ h; cases h
  | succ k ih =>
    intro ms a tm ta hcl ha h
    have hcg : ∀ i, i < ms.length → (cs ++ [0]).getD i 0 = cs.getD i 0 := fun i hi => by simp only [List.getD]; rw [List.getElem?_append_left (by omega)]
    have hcl0 : (cs ++ [0]).getD ms.length 0 = 0 := by simp [List.getD, ← hcl]
    have hrs : rdyT (cs ++ [0]) (ms ++ [m], a) = rdyT cs (ms, a) := by unfold rdyT; simp only; rw [hcg a ha, getD_snoc_l ha]
    unfold runN at h
    cases hr : rdyT cs (ms, a) with
    | true => rw [hr, cond_true] at h; cases h; exact ⟨.here (by rw [hrs]; exact hr), ha, rfl⟩
    | false =>
      rw [hr, cond_false] at h
      have hz : zeroT (cs ++ [0]) (ms ++ [m]) a = zeroT cs ms a ++ [m] := by
        unfold zeroT; rw [hcg a ha]; split
        · exact setC_snoc ha 0
        · rfl
      have hzl := zeroT_len cs ms a
      have hgs : ∀ i, i < ms.length → gainT q (cs ++ [0]) (zeroT cs ms a ++ [m]) i = gainT q cs (zeroT cs ms a) i ++ [m] := fun i hi => by
        unfold gainT; rw [hcg i hi]; split
        · rw [getD_snoc_l (by omega)]; exact setC_snoc (by omega) _
        · rfl
      have hnl := nxt_lt ha
      have hgo : TakeR q (cs ++ [0]) ((stepT q cs (ms, a)).1 ++ [m], nxt a ms.length) (tm ++ [m], ta) ∧ ta < (stepT q cs (ms, a)).1.length ∧ tm.length = (stepT q cs (ms, a)).1.length := ih (by rw [stepT_len]; exact hcl) (by rw [stepT_len]; exact hnl) h
      rw [stepT_len] at hgo
      refine ⟨.next (by rw [hrs]; exact hr) ?_, hgo.2⟩
      by_cases e : a + 1 = ms.length
      · have hn0 : nxt a ms.length = 0 := by unfold nxt; rw [if_pos e]
        have e1 : stepT q (cs ++ [0]) (ms ++ [m], a) = (zeroT cs ms a ++ [m], ms.length) := by
          unfold stepT; simp only
          have : nxt a (ms ++ [m]).length = ms.length := by unfold nxt; rw [List.length_append]; simp only [List.length_cons, List.length_nil]; rw [if_neg (by omega)]; exact e
          rw [this, hz]; unfold gainT; rw [hcl0, if_neg (by omega)]
        rw [e1]
        refine .next (rdyT_false.2 (fun hw => by simp only at hw; rw [hcl0] at hw; omega)) ?_
        have e2 : stepT q (cs ++ [0]) (zeroT cs ms a ++ [m], ms.length) = ((stepT q cs (ms, a)).1 ++ [m], nxt a ms.length) := by
          have e3 : zeroT (cs ++ [0]) (zeroT cs ms a ++ [m]) ms.length = zeroT cs ms a ++ [m] := by
            unfold zeroT; rw [hcl0, if_pos rfl]
            have := setC_same (ms := zeroT cs ms a ++ [m]) (i := ms.length) (by simp [hzl])
            unfold zeroT at this hzl
            have e4 : ((if cs.getD a 0 = 0 then setC ms a 0 else ms) ++ [m]).getD ms.length M3.z = m := by rw [← hzl]; exact getD_snoc_r
            rw [e4, hm] at this; exact this
          unfold stepT; simp only
          have : nxt ms.length (zeroT cs ms a ++ [m]).length = 0 := by unfold nxt; simp [hzl]
          rw [this, e3, hn0, hgs 0 (by omega)]
        rw [e2]; exact hgo.1
      · have hn0 : nxt a ms.length = a + 1 := by unfold nxt; rw [if_neg e]
        have e1 : stepT q (cs ++ [0]) (ms ++ [m], a) = ((stepT q cs (ms, a)).1 ++ [m], nxt a ms.length) := by
          unfold stepT; simp only
          have : nxt a (ms ++ [m]).length = a + 1 := by unfold nxt; rw [List.length_append]; simp only [List.length_cons, List.length_nil]; rw [if_neg (by omega)]
          rw [this, hz, hn0, hgs (a + 1) (by omega)]
        rw [e1]; exact hgo.1
/-! each gets something -/
theorem FairI.mono {q : Int} {f : Nat → Int} {n : Nat} {most m : Int} {got : List Int} {ms : List M3} {a : Nat} (h : FairI q f n most got ms a) (hm : most ≤ m) : FairI q f n m got ms a :=
  ⟨h.std, h.al, h.tot, h.lo, fun j hj => by have := h.hi j hj; omega⟩
theorem set_bd {got : List Int} {b b' : Int} {t : Nat} {x : Int} (h : ∀ j, 0 ≤ got.getD j 0 ∧ got.getD j 0 ≤ b) (h1 : b ≤ b') (h2 : 0 ≤ x ∧ x ≤ b') (ht : t < got.length) : ∀ j, 0 ≤ (got.set t x).getD j 0 ∧ (got.set t x).getD j 0 ≤ b' := fun j => by
  by_cases e : j = t
  · subst e; rw [show (got.set j x).getD j 0 = x from by simp [List.getD, ht]]; exact h2
  · rw [getD_set_ne _ (fun h => e h.symm)]; have := h j; omega
def sumN (f : Nat → Nat) : Nat → Nat
  | 0 => 0
  | n + 1 => sumN f n + f n
theorem sumN_up {f g : Nat → Nat} {j : Nat} (hj : g j = f j + 1) (ho : ∀ i, i ≠ j → g i = f i) : ∀ n, sumN g n = sumN f n + (if j < n then 1 else 0) := by
  intro n
  induction n with
  | zero => rfl
  | succ n ih =>
    unfold sumN; rw [ih]
    by_cases e : n = j
    · subst e; rw [hj, if_neg (by omega), if_pos (by omega)]; omega
    · rw [ho n e]
      by_cases h : j < n
      · rw [if_pos h, if_pos (by omega)]; omega
      · rw [if_neg h, if_neg (by omega)]; omega
theorem sumN_le {f : Nat → Nat} {b : Nat} : ∀ {n : Nat}, (∀ j, j < n → f j ≤ b) → sumN f n ≤ n * b := by
  intro n
  induction n with
  | zero => intro _; exact Nat.zero_le _
  | succ n ih => intro h; unfold sumN; have h1 := ih (fun j hj => h j (by omega)); have h2 := h n (by omega); rw [Nat.succ_mul]; omega
def cntF (gb : List Bool) : Nat → Nat
  | 0 => 0
  | n + 1 => cntF gb n + (bif gb.getD n false then 0 else 1)
theorem cntF_rep (n : Nat) : cntF (List.replicate 10 false) n = n := by
  induction n with
  | zero => rfl
  | succ n ih =>
    unfold cntF; rw [ih, show (List.replicate 10 false).getD n false = false from by rw [List.getD, List.getElem?_replicate]; split <;> rfl]; rfl
theorem getD_set_b2 {gb : List Bool} {i j : Nat} (hj : j < gb.length) : (gb.set j true).getD i false = (if i = j then true else gb.getD i false) := by
  by_cases e : i = j
  · subst e; rw [if_pos rfl]; simp [List.getD, hj]
  · rw [if_neg e]; simp only [List.getD]; rw [List.getElem?_set_ne (fun h => e h.symm)]
theorem cntF_set {gb : List Bool} {j : Nat} (hj : j < gb.length) (hb : gb.getD j false = false) : ∀ n, cntF (gb.set j true) n + (if j < n then 1 else 0) = cntF gb n := by
  intro n
  induction n with
  | zero => rfl
  | succ n ih =>
    unfold cntF
    rw [← ih, getD_set_b2 hj]
    by_cases e : n = j
    · subst e; rw [if_pos rfl, hb, if_pos (show n < n + 1 by omega), if_neg (Nat.lt_irrefl n)]; simp
    · rw [if_neg e]
      by_cases h : j < n
      · rw [if_pos h, if_pos (by omega)]; omega
      · rw [if_neg h, if_neg (by omega)]; omega
theorem cntF_pos {gb : List Bool} : ∀ {n : Nat}, 0 < cntF gb n → ∃ j, j < n ∧ gb.getD j false = false := by
  intro n
  induction n with
  | zero => intro h; cases h
  | succ n ih =>
    intro h; unfold cntF at h
    cases hb : gb.getD n false with
    | false => exact ⟨n, by omega, hb⟩
    | true => rw [hb] at h; obtain ⟨j, h1, h2⟩ := ih (by simpa using h); exact ⟨j, by omega, h2⟩
structure AllI (q : Int) (f : Nat → Int) (n : Nat) (c : Int) (i lf : Nat) (gb : List Bool) (gl : List Int) (ms : List M3) (a : Nat) : Prop where
  fair : FairI q f n c gl ms a
  len : gl.length = 10 ∧ gb.length = 10
  cnt : ∃ cn : Nat → Nat, (∀ j, j < n → gl.getD j 0 = c * (cn j : Int)) ∧ (∀ j, j < n → gb.getD j false = decide (0 < cn j)) ∧ sumN cn n = i
  left : lf = cntF gb n
theorem AllI.start {q : Int} {f : Nat → Int} {n : Nat} {c : Int} (hn : 0 < n) (hc : 0 ≤ c) (hg : ∀ j, j < n → 0 ≤ q * f j) : AllI q f n c 0 n (List.replicate 10 false) (List.replicate 10 0) (memL f n) 0 := by
  refine ⟨(FairI.start hn hg).mono hc, by simp, ⟨fun _ => 0, fun j hj => ?_, fun j hj => ?_, ?_⟩, (cntF_rep n).symm⟩
  · rw [show (List.replicate 10 (0 : Int)).getD j 0 = 0 from by rw [List.getD, List.getElem?_replicate]; split <;> rfl]; simp
  · rw [show (List.replicate 10 false).getD j false = false from by rw [List.getD, List.getElem?_replicate]; split <;> rfl]; simp
  · clear hn hg; induction n with
    | zero => rfl
    | succ n ih => unfold sumN; rw [ih]
theorem AllI.take {q : Int} {f : Nat → Int} {n : Nat} {c : Int} {i lf : Nat} {gb : List Bool} {gl : List Int} {ms : List M3} {a : Nat} (h : AllI q f n c i lf gb gl ms a) (hn : n ≤ 10) (hc : 1 ≤ c ∧ c ≤ 1048576) (hg : ∀ j, j < n → 0 ≤ q * f j)
    {tm : List M3} {ta : Nat} (ht : TakeR q (costsL ms (wantL (fun _ => c) n)) (ms, a) (tm, ta)) :
    ta < n ∧ (tm.getD ta M3.z).id = (ta : Int) ∧ (costsL ms (wantL (fun _ => c) n)).getD ta 0 = c ∧
    (gb.getD ta false = false → 1 ≤ lf ∧ AllI q f n c (i + 1) (lf - 1) (gb.set ta true) (gl.set ta (gl.getD ta 0 + c)) (setC tm ta ((tm.getD ta M3.z).c - c)) ta) ∧
    (gb.getD ta false = true → AllI q f n c (i + 1) lf gb (gl.set ta (gl.getD ta 0 + c)) (setC tm ta ((tm.getD ta M3.z).c - c)) ta) := by
  obtain ⟨h1, h2, h3, h4⟩ := h.fair.take (Int.le_refl _) (c := fun _ => c) (fun k _ => ⟨hc.1, Int.le_refl _⟩) hc.2 hg (by have := h.len; omega) ht
  obtain ⟨cn, c1, c2, c3⟩ := h.cnt
  have hgl := h.len
  have hs : ∀ j, (fun j => if j = ta then cn j + 1 else cn j) j = if j = ta then cn j + 1 else cn j := fun j => rfl
  have hsum : sumN (fun j => if j = ta then cn j + 1 else cn j) n = i + 1 := by
    rw [sumN_up (f := cn) (j := ta) (by rw [if_pos rfl]) (fun i hi => by rw [if_neg hi]), if_pos h1, c3]
  have hgl2 : ∀ j, j < n → (gl.set ta (gl.getD ta 0 + c)).getD j 0 = c * ((if j = ta then cn j + 1 else cn j : Nat) : Int) := fun j hj => by
    by_cases e : j = ta
    · subst e
      rw [if_pos rfl, show (gl.set j (gl.getD j 0 + c)).getD j 0 = gl.getD j 0 + c from by simp [List.getD, show j < gl.length by omega], c1 j hj]; grind
    · rw [if_neg e, getD_set_ne _ (fun h => e h.symm)]; exact c1 j hj
  refine ⟨h1, h2, h3, fun hb => ?_, fun hb => ?_⟩
  · have hcs := cntF_set (gb := gb) (j := ta) (by omega) hb n
    rw [if_pos h1] at hcs
    have hl := h.left
    refine ⟨by omega, h4, by simp; omega, ⟨_, hgl2, fun j hj => ?_, hsum⟩, by omega⟩
    rw [getD_set_b2 (by omega)]
    by_cases e : j = ta
    · rw [if_pos e, if_pos e]; simp
    · rw [if_neg e, if_neg e]; exact c2 j hj
  · refine ⟨h4, by simp; omega, ⟨_, hgl2, fun j hj => ?_, hsum⟩, h.left⟩
    by_cases e : j = ta
    · subst e; rw [if_pos rfl, hb]; simp
    · rw [if_neg e]; exact c2 j hj
theorem AllI.done {q : Int} {f : Nat → Int} {n : Nat} {c : Int} {i lf : Nat} {gb : List Bool} {gl : List Int} {ms : List M3} {a : Nat} (h : AllI q f n c i lf gb gl ms a) (hq : 1 ≤ q) (hc : 1 ≤ c) (hf : ∀ j, j < n → 1 ≤ f j ∧ f j ≤ 10)
    (hi : (n : Int) * (10 * q * (c / q + 2) / c + 1) ≤ (i : Int)) : lf = 0 := by
  rcases Nat.eq_zero_or_pos lf with h0 | h0
  · exact h0
  exfalso
  rw [h.left] at h0
  obtain ⟨k, hk, hkb⟩ := cntF_pos h0
  obtain ⟨cn, c1, c2, c3⟩ := h.cnt
  obtain ⟨R, hR⟩ := h.fair.tot
  have hal := h.fair.al
  have hk0 : cn k = 0 := by have := c2 k hk; rw [hkb] at this; have := of_decide_eq_false this.symm; omega
  have hck := hR k hk
  rw [c1 k hk, hk0] at hck
  have hhk := h.fair.hi k hk
  have hfk := hf k hk
  have hqf : 1 ≤ q * f k := by have := Int.mul_le_mul (a := 1) (b := 1) (c := q) (d := f k) hq hfk.1 (by omega) (by omega); omega
  -- how many turns k has had
  have hT : R + turnN a k ≤ c / q + (if k = a then 1 else 0) := by
    have e : (R + turnN a k - (if k = a then 1 else 0)) * q ≤ c := by
      have h1 : q * f k * (R + turnN a k - (if k = a then 1 else 0)) ≤ c := by
        by_cases e : k = a
        · rw [if_pos e] at hhk ⊢
          have : q * f k * (R + turnN a k - 1) = q * f k * (R + turnN a k) - q * f k := by grind
          omega
        · rw [if_neg e] at hhk ⊢; rw [Int.sub_zero]; omega
      rcases Int.lt_or_le (R + turnN a k - (if k = a then 1 else 0)) 0 with hneg | hpos
      · have : (R + turnN a k - (if k = a then 1 else 0)) * q ≤ 0 := Int.mul_nonpos_of_nonpos_of_nonneg (by omega) (by omega)
        omega
      · have h2 : q * (R + turnN a k - (if k = a then 1 else 0)) * 1 ≤ q * (R + turnN a k - (if k = a then 1 else 0)) * f k := Int.mul_le_mul_of_nonneg_left hfk.1 (Int.mul_nonneg (by omega) hpos)
        have h3 : q * (R + turnN a k - (if k = a then 1 else 0)) * f k = q * f k * (R + turnN a k - (if k = a then 1 else 0)) := by grind
        have h4 : (R + turnN a k - (if k = a then 1 else 0)) * q = q * (R + turnN a k - (if k = a then 1 else 0)) * 1 := by grind
        omega
    have := (Int.le_ediv_iff_mul_le (show 0 < q by omega)).2 e
    omega
  have hTj : ∀ j, j < n → R + turnN a j ≤ c / q + 2 := fun j hj => by
    have h1 : turnN a j ≤ turnN a k + (if k = a then 0 else 1) := by
      unfold turnN; split <;> split <;> split <;> omega
    split at hT <;> split at h1 <;> omega
  have hcn : ∀ j, j < n → (cn j : Int) ≤ 10 * q * (c / q + 2) / c := fun j hj => by
    have h1 := hR j hj; have h2 := h.fair.lo j hj; have h3 := hf j hj; have h4 := hTj j hj
    rw [c1 j hj] at h1
    have hz : 0 ≤ c / q := Int.ediv_nonneg (by omega) (by omega)
    refine (Int.le_ediv_iff_mul_le (show 0 < c by omega)).2 ?_
    have h5 : q * f j * (R + turnN a j) ≤ q * f j * (c / q + 2) := Int.mul_le_mul_of_nonneg_left h4 (Int.mul_nonneg (by omega) (by omega))
    have h6 : (q * (c / q + 2)) * f j ≤ (q * (c / q + 2)) * 10 := Int.mul_le_mul_of_nonneg_left h3.2 (Int.mul_nonneg (by omega) (by omega))
    have h7 : q * f j * (c / q + 2) = (q * (c / q + 2)) * f j := by grind
    have h8 : 10 * q * (c / q + 2) = (q * (c / q + 2)) * 10 := by grind
    have h9 : (cn j : Int) * c = c * (cn j : Int) := Int.mul_comm _ _
    omega
  obtain ⟨e, he⟩ : ∃ e : Nat, 10 * q * (c / q + 2) / c = (e : Int) := ⟨_, (Int.toNat_of_nonneg (by have := hcn k hk; omega)).symm⟩
  rw [he] at hcn hi
  have := sumN_le (f := cn) (b := e) (n := n) (fun j hj => by have := hcn j hj; omega)
  rw [c3] at this
  have h1 : (n : Int) * ((e : Int) + 1) = ((n * e + n : Nat) : Int) := by push_cast; grind
  rw [h1] at hi
  omega
theorem nxt_succ {i n : Nat} (hn : 0 < n) : nxt (i % n) n = (i + 1) % n := by
  have h1 := Nat.mod_lt i hn
  unfold nxt
  split
  · rename_i e
    rw [Nat.add_mod, show i % n + 1 % n = i % n + 1 % n from rfl]
    rcases Nat.lt_or_ge 1 n with h | h
    · rw [Nat.mod_eq_of_lt h, e, Nat.mod_self]
    · have : n = 1 := by omega
      subst this; simp [Nat.mod_one]
  · rename_i e
    have h : 1 < n := by omega
    have e2 : (i + 1) % n = i % n + 1 := by rw [Nat.add_mod, Nat.mod_eq_of_lt h]; exact Nat.mod_eq_of_lt (by omega)
    exact e2.symm
def c3 (ys : List Int) (i k : Nat) : Int := 1 + ys.getD ((i * 3 + k) % ys.length) 0 % 1024
theorem c3_bd (ys : List Int) (i k : Nat) : 1 ≤ c3 ys i k ∧ c3 ys i k ≤ 1024 := by unfold c3; omega
def idleM : M3 := ⟨99, 50, 0⟩
theorem idle_join {f : Nat → Int} {n : Nat} (hn : n ≤ 9) : joinM (memL f n) 99 50 = memL f n ++ [idleM] ∧ joinEr (memL f n) 99 50 = 0 := by
  have h0 : joinEr (memL f n) 99 50 = 0 := by unfold joinEr; rw [if_neg (by omega), if_neg (by rw [placeM_memL (fun i hi => by omega)]; omega)]
  exact ⟨by unfold joinM; rw [if_pos h0]; rfl, h0⟩
theorem idle_costs {f : Nat → Int} {n : Nat} {ms : List M3} (hn : n ≤ 9) {c : Nat → Int} : costsL (ms ++ [idleM]) (wantL c n) = costsL ms (wantL c n) ++ [0] := by
  unfold costsL; rw [List.map_append]; simp only [List.map_cons, List.map_nil]
  rw [costOf_none (x := idleM.id) (fun i hi => by show (i : Int) ≠ 99; omega)]
theorem idle_any {cs : List Int} (h : anyPos cs = true) : anyPos (cs ++ [0]) = true := by unfold anyPos at h ⊢; rw [List.any_append, h]; rfl
theorem idle_cred {f : Nat → Int} {n : Nat} {ms : List M3} (h : Std f n ms) (hn : n ≤ 9) : credV (ms ++ [idleM]) 99 = 0 ∧ decide (placeM (ms ++ [idleM]) 99 ≥ 0) = true := by
  have hl := h.len
  rcases placeM_cases (ms ++ [idleM]) 99 with ⟨k, h1, h2, h3⟩ | ⟨_, h2⟩
  · rw [List.length_append] at h2
    simp only [List.length_cons, List.length_nil] at h2
    have : k = ms.length := by
      rcases Nat.lt_or_ge k ms.length with h4 | h4
      · rw [getD_snoc_l h4, h.id k (by omega)] at h3; omega
      · omega
    refine ⟨?_, by rw [h1]; exact decide_eq_true (by omega)⟩
    unfold credV; rw [h1, if_pos (by omega), Int.toNat_natCast, this, getD_snoc_r]; rfl
  · exact absurd rfl (h2 idleM (by simp))
end Go.Proofs.Ytkhceihokoheaaa.Sp
