/- Verdicts: what the document's own answer does (chapter 17): a queue of tasks, and passes until nothing changes. No program in it. -/
import Derived.Test.YtljnaefaahphaaaVrd
namespace Go.Proofs.Ytljnaefaahphaaa.Sp
open Go
def wayb (es : List (List Int)) (i j : Nat) : Bool := ((behN es es.length).getD i 0).testBit j
theorem wayb_iff {N : Nat} {es : List (List Int)} (hl : es.length = N) (hi : Inn N es) {i j : Nat} : wayb es i j = true ↔ Way es i j := by unfold wayb; rw [hl]; exact behN_way hl hi i j
def wayL (N : Nat) (es : List (List Int)) (i : Nat) : List Bool := (List.range N).map fun j => wayb es i j
theorem wayL_len (N : Nat) (es : List (List Int)) (i : Nat) : (wayL N es i).length = N := by simp [wayL]
theorem wayL_get {N : Nat} {es : List (List Int)} {i j : Nat} (h : j < N) : (wayL N es i).getD j false = wayb es i j := by simp [wayL, List.getD, h]
theorem getD_extB {l m : List Bool} (h : l.length = m.length) (k : ∀ i, i < l.length → l.getD i false = m.getD i false) : l = m := by
  apply List.ext_getElem h
  intro i h1 h2
  have := k i h1
  simpa [List.getD, h1, h2] using this
theorem getD_true_lt {s : List Bool} {j : Nat} (h : s.getD j false = true) : j < s.length := by
  apply Classical.byContradiction; intro hn
  simp [List.getD, show s[j]? = none from by rw [List.getElem?_eq_none_iff]; omega] at h
/-! the queue -/
structure Bq (N : Nat) (es : List (List Int)) (from_ : Nat) (s : List Bool) (q : List Int) : Prop where
  len : s.length = N
  sound : ∀ j, s.getD j false = true → Way es from_ j
  inq : ∀ y ∈ q, 0 ≤ y ∧ y < (N : Int) ∧ Way es from_ y.toNat
  first : ∀ y ∈ es.getD from_ [], s.getD y.toNat false = true ∨ y ∈ q
  next : ∀ x, s.getD x false = true → ∀ y ∈ es.getD x [], s.getD y.toNat false = true ∨ y ∈ q
  size : q.length ≤ 1000000 * (1 + s.count true)
theorem repB (N j : Nat) : (List.replicate N false).getD j false = false := by
  by_cases h : j < N
  · simp [List.getD, h]
  · simp [List.getD, h]
theorem Bq.start {N : Nat} {es : List (List Int)} (hi : Inn N es) {i : Nat} (hr : (es.getD i []).length ≤ 1000000) : Bq N es i (List.replicate N false) (es.getD i []) :=
  ⟨by simp, fun j hj => (by rw [repB] at hj; cases hj), fun y hy => ⟨(hi i y hy).1, (hi i y hy).2, .one (edge_of hi hy)⟩, fun y hy => .inr hy, fun x hx => (by rw [repB] at hx; cases hx), by omega⟩
theorem Bq.old {N : Nat} {es : List (List Int)} {i : Nat} {s : List Bool} {x : Int} {r : List Int} (h : Bq N es i s (x :: r)) (hs : s.getD x.toNat false = true) : Bq N es i s r := by
  have drop : ∀ y, s.getD y.toNat false = true ∨ y ∈ x :: r → s.getD y.toNat false = true ∨ y ∈ r := fun y hy => by
    rcases hy with hy | hy
    · exact .inl hy
    · rcases List.mem_cons.1 hy with rfl | hy
      · exact .inl hs
      · exact .inr hy
  exact ⟨h.len, h.sound, fun y hy => h.inq y (List.mem_cons_of_mem _ hy), fun y hy => drop y (h.first y hy), fun z hz y hy => drop y (h.next z hz y hy), by have := h.size; rw [List.length_cons] at this; omega⟩
theorem count_up {N : Nat} {s : List Bool} (hl : s.length = N) {x : Nat} (hx : x < N) (hs : s.getD x false = false) : s.count true < (s.set x true).count true := by
  have hxl : x < s.length := by omega
  refine count_lt' _ _ (by simp) (fun j hj => ?_) ⟨x, by rw [setB hxl, if_pos rfl], hs⟩
  rw [setB hxl]; split
  · rfl
  · exact hj
theorem Bq.new {N : Nat} {es : List (List Int)} (hi : Inn N es) {i : Nat} {s : List Bool} {x : Int} {r : List Int} (h : Bq N es i s (x :: r)) (hr : (es.getD x.toNat []).length ≤ 1000000) (hs : s.getD x.toNat false = false) : Bq N es i (s.set x.toNat true) (r ++ es.getD x.toNat []) := by
  obtain ⟨x0, xN, xw⟩ := h.inq x (List.mem_cons_self ..)
  have hl := h.len
  have hxl : x.toNat < s.length := by omega
  have up : ∀ j, s.getD j false = true → (s.set x.toNat true).getD j false = true := fun j hj => by rw [setB hxl]; split; rfl; exact hj
  have drop : ∀ y, s.getD y.toNat false = true ∨ y ∈ x :: r → (s.set x.toNat true).getD y.toNat false = true ∨ y ∈ r ++ es.getD x.toNat [] := fun y hy => by
    rcases hy with hy | hy
    · exact .inl (up _ hy)
    · rcases List.mem_cons.1 hy with rfl | hy
      · left; rw [setB hxl, if_pos rfl]
      · exact .inr (List.mem_append_left _ hy)
  refine ⟨by simp [hl], fun j hj => ?_, fun y hy => ?_, fun y hy => drop y (h.first y hy), fun z hz y hy => ?_, ?_⟩
  · rw [setB hxl] at hj
    split at hj
    · rename_i e; exact e ▸ xw
    · exact h.sound j hj
  · rcases List.mem_append.1 hy with hy | hy
    · exact h.inq y (List.mem_cons_of_mem _ hy)
    · have := hi x.toNat y hy; exact ⟨this.1, this.2, xw.trans (.one (edge_of hi hy))⟩
  · rw [setB hxl] at hz
    split at hz
    · rename_i e; subst e; exact .inr (List.mem_append_right _ hy)
    · exact drop y (h.next z hz y hy)
  · have := h.size; have := count_up hl (x := x.toNat) (by omega) hs
    rw [List.length_cons] at *; rw [List.length_append]; omega
theorem Bq.end_ {N : Nat} {es : List (List Int)} (hl : es.length = N) (hi : Inn N es) {i : Nat} {s : List Bool} (h : Bq N es i s []) : s = wayL N es i := by
  refine getD_extB (h.len.trans (wayL_len N es i).symm) fun j hj => ?_
  have hj' : j < N := by have := h.len; omega
  rw [wayL_get hj', Bool.eq_iff_iff, wayb_iff hl hi]
  refine ⟨h.sound j, ?_⟩
  have reach : ∀ {a b : Nat}, Way es a b → s.getD a false = true → s.getD b false = true := fun w => by
    induction w with
    | one e => exact fun ha => (h.next _ ha _ e).elim (fun q => by simpa using q) (fun q => by cases q)
    | cons e _ ih => exact fun ha => ih ((h.next _ ha _ e).elim (fun q => by simpa using q) (fun q => by cases q))
  intro w
  cases w with
  | one e => exact (h.first _ e).elim (fun q => by simpa using q) (fun q => by cases q)
  | cons e w => exact reach w ((h.first _ e).elim (fun q => by simpa using q) (fun q => by cases q))
def Bmu (N : Nat) (s : List Bool) (q : List Int) : Nat := (N - s.count true) * 1000001 + q.length
theorem Bq.mu {N : Nat} {es : List (List Int)} {i : Nat} {s : List Bool} {x : Int} {r : List Int} (h : Bq N es i s (x :: r)) (hr : (es.getD x.toNat []).length ≤ 1000000) (hs : s.getD x.toNat false = false) : Bmu N (s.set x.toNat true) (r ++ es.getD x.toNat []) < Bmu N s (x :: r) := by
  obtain ⟨x0, xN, _⟩ := h.inq x (List.mem_cons_self ..)
  have h1 := count_up h.len (x := x.toNat) (by omega) hs
  have h2 := List.count_le_length (a := true) (l := s.set x.toNat true)
  rw [List.length_set, h.len] at h2
  unfold Bmu
  rw [List.length_append, List.length_cons]
  have : (N - (s.set x.toNat true).count true) + 1 ≤ N - s.count true := by omega
  have := Nat.mul_le_mul_right 1000001 this
  rw [Nat.add_mul] at this
  omega
/-! who is on a circle, and who reaches one -/
def rndL (N : Nat) (es : List (List Int)) (k : Nat) : List Bool := (List.range N).map fun j => if j < k then wayb es j j else false
theorem rndL_len (N : Nat) (es : List (List Int)) (k : Nat) : (rndL N es k).length = N := by simp [rndL]
theorem rndL_get {N : Nat} {es : List (List Int)} {k j : Nat} (h : j < N) : (rndL N es k).getD j false = if j < k then wayb es j j else false := by
  unfold rndL; rw [List.getD_eq_getElem?_getD, List.getElem?_map, List.getElem?_range h]; rfl
theorem rndL_zero (N : Nat) (es : List (List Int)) : rndL N es 0 = List.replicate N false := getD_extB (by simp [rndL]) fun i hi => by
  rw [rndL_len] at hi; rw [rndL_get hi, if_neg (by omega), repB]
theorem rndL_succ {N : Nat} {es : List (List Int)} {k : Nat} (h : k < N) : (rndL N es k).set k ((wayL N es k).getD k false) = rndL N es (k + 1) := by
  refine getD_extB (by simp [rndL]) fun j hj => ?_
  rw [List.length_set, rndL_len] at hj
  rw [setB (by rw [rndL_len]; exact h), rndL_get hj, rndL_get hj, wayL_get h]
  by_cases e : j = k
  · subst e; rw [if_pos rfl, if_pos (by omega)]
  · rw [if_neg e]
    by_cases e2 : j < k
    · rw [if_pos e2, if_pos (by omega)]
    · rw [if_neg e2, if_neg (by omega)]
def anyk (es : List (List Int)) (i k : Nat) : Bool := (List.range k).any fun q => wayb es i q && wayb es q q
theorem anyk_succ (es : List (List Int)) (i k : Nat) : anyk es i (k + 1) = (anyk es i k || (wayb es i k && wayb es k k)) := by unfold anyk; rw [List.range_succ, List.any_append]; simp
theorem anyk_cyc {N : Nat} {es : List (List Int)} (hl : es.length = N) (hi : Inn N es) (i : Nat) : anyk es i N = cycB es i := by
  rw [Bool.eq_iff_iff, cyc_iff hl hi]
  unfold anyk
  rw [List.any_eq_true]
  constructor
  · rintro ⟨j, _, h⟩
    simp only [Bool.and_eq_true] at h
    exact ⟨j, (wayb_iff hl hi).1 h.1, (wayb_iff hl hi).1 h.2⟩
  · rintro ⟨j, h1, h2⟩
    exact ⟨j, List.mem_range.2 (h2.lt hi), by simp only [Bool.and_eq_true]; exact ⟨(wayb_iff hl hi).2 h1, (wayb_iff hl hi).2 h2⟩⟩
def o7 (N : Nat) (es : List (List Int)) (i k : Nat) : List Int := (List.range N).map fun j => if j < i then (if cycB es j = true then 7 else 0) else if j = i then (if anyk es i k = true then 7 else 0) else 0
theorem o7_len (N : Nat) (es : List (List Int)) (i k : Nat) : (o7 N es i k).length = N := by simp [o7]
theorem o7_get {N : Nat} {es : List (List Int)} {i k j : Nat} (h : j < N) : (o7 N es i k).getD j 0 = if j < i then (if cycB es j = true then 7 else 0) else if j = i then (if anyk es i k = true then 7 else 0) else 0 := by
  unfold o7; rw [List.getD_eq_getElem?_getD, List.getElem?_map, List.getElem?_range h]; rfl
theorem o7_zero (N : Nat) (es : List (List Int)) : o7 N es 0 0 = List.replicate N 0 := getD_extI (by simp [o7]) fun i hi => by
  rw [o7_len] at hi; rw [o7_get hi, if_neg (by omega)]
  have : (List.replicate N (0 : Int)).getD i 0 = 0 := by simp [List.getD, hi]
  rw [this]; split <;> simp [anyk]
theorem o7_yes {N : Nat} {es : List (List Int)} {i k : Nat} (hi : i < N) (h : (wayb es i k && wayb es k k) = true) : (o7 N es i k).set i 7 = o7 N es i (k + 1) := by
  refine getD_extI (by simp [o7]) fun j hj => ?_
  rw [List.length_set, o7_len] at hj
  rw [setI' (by rw [o7_len]; exact hi), o7_get hj, o7_get hj]
  by_cases e : j = i
  · subst e; rw [if_pos rfl, if_neg (by omega), if_pos rfl, anyk_succ, h, Bool.or_true, if_pos rfl]
  · rw [if_neg e]
    by_cases e2 : j < i
    · rw [if_pos e2, if_pos e2]
    · rw [if_neg e2, if_neg e2, if_neg e, if_neg e]
theorem o7_no {N : Nat} {es : List (List Int)} {i k : Nat} (h : (wayb es i k && wayb es k k) = false) : o7 N es i k = o7 N es i (k + 1) := by
  unfold o7; rw [anyk_succ, h, Bool.or_false]
theorem o7_row {N : Nat} {es : List (List Int)} (hl : es.length = N) (hi : Inn N es) (i : Nat) : o7 N es i N = o7 N es (i + 1) 0 := by
  refine getD_extI (by simp [o7]) fun j hj => ?_
  rw [o7_len] at hj
  rw [o7_get hj, o7_get hj, anyk_cyc hl hi]
  by_cases e : j < i
  · rw [if_pos e, if_pos (show j < i + 1 by omega)]
  · rw [if_neg e]
    by_cases e2 : j = i
    · subst e2; rw [if_pos rfl, if_pos (show j < j + 1 by omega)]
    · rw [if_neg e2, if_neg (show ¬ j < i + 1 by omega)]; split <;> simp [anyk]
/-! passes -/
structure Fix0 (N : Nat) (es : List (List Int)) (own o : List Int) : Prop where
  len : o.length = N
  val : ∀ j, j < N → o.getD j 0 = 0 ∨ o.getD j 0 = ver es own j
  cyc : ∀ j, j < N → cycB es j = true → o.getD j 0 = 7
theorem Fix0.start {N : Nat} {es : List (List Int)} {own : List Int} (hf : FOk N es own) : Fix0 N es own (o7 N es N 0) := by
  refine ⟨o7_len _ _ _ _, fun j hj => ?_, fun j hj hc => ?_⟩
  · rw [o7_get hj, if_pos hj]
    cases hc : cycB es j with
    | true => right; rw [ver_cyc hf.le hf.in_ hc, if_pos rfl]
    | false => left; rw [if_neg (by decide)]
  · rw [o7_get hj, if_pos hj, if_pos hc]
structure FD (es : List (List Int)) (own o : List Int) (i k : Nat) (f d : Bool) : Prop where
  hf : f = (own.getD i 0 == 6 || ((es.getD i []).take k).any fun x => o.getD x.toNat 0 == 6)
  hd : d = (own.getD i 0 == 5 && ((es.getD i []).take k).all fun x => o.getD x.toNat 0 == 5)
theorem FD.start (es : List (List Int)) (own o : List Int) (i : Nat) : FD es own o i 0 (own.getD i 0 == 6) (own.getD i 0 == 5) := ⟨by simp, by simp⟩
theorem FD.next {es : List (List Int)} {own o : List Int} {i k : Nat} {f d : Bool} (h : FD es own o i k f d) (hk : k < (es.getD i []).length) :
    FD es own o i (k + 1) (f || o.getD ((es.getD i []).getD k 0).toNat 0 == 6) (d && o.getD ((es.getD i []).getD k 0).toNat 0 == 5) := by
  refine ⟨?_, ?_⟩
  · rw [take_succ_i hk, List.any_append, ← Bool.or_assoc, ← h.hf]; simp
  · rw [take_succ_i hk, List.all_append, ← Bool.and_assoc, ← h.hd]; simp
def Stuck (es : List (List Int)) (own o : List Int) (j : Nat) : Prop := o.getD j 0 = 0 → ¬ (own.getD j 0 = 6 ∨ ∃ x ∈ es.getD j [], o.getD x.toNat 0 = 6) ∧ ¬ (own.getD j 0 = 5 ∧ ∀ x ∈ es.getD j [], o.getD x.toNat 0 = 5)
structure Pass (N : Nat) (es : List (List Int)) (own o0 : List Int) (i : Nat) (o : List Int) (ch : Bool) : Prop where
  fix : Fix0 N es own o
  no : ch = false → o = o0 ∧ ∀ j, j < i → Stuck es own o0 j
  yes : ch = true → o.count 0 < o0.count 0
theorem Pass.start {N : Nat} {es : List (List Int)} {own o0 : List Int} (h : Fix0 N es own o0) : Pass N es own o0 0 o0 false := ⟨h, fun _ => ⟨rfl, fun _ hj => absurd hj (by omega)⟩, fun h => by cases h⟩
theorem Pass.skip {N : Nat} {es : List (List Int)} {own o0 o : List Int} {i : Nat} {ch : Bool} (h : Pass N es own o0 i o ch) (hn : ¬ o.getD i 0 = 0) : Pass N es own o0 (i + 1) o ch :=
  ⟨h.fix, fun hc => ⟨(h.no hc).1, fun j hj => by
    by_cases e : j = i
    · subst e; intro h0; rw [(h.no hc).1] at hn; exact absurd h0 hn
    · exact (h.no hc).2 j (by omega)⟩, h.yes⟩
theorem fd_f {es : List (List Int)} {own o : List Int} {i k : Nat} {f d : Bool} (h : FD es own o i k f d) (hk : (es.getD i []).length ≤ k) : f = true ↔ own.getD i 0 = 6 ∨ ∃ x ∈ es.getD i [], o.getD x.toNat 0 = 6 := by
  rw [h.hf, List.take_of_length_le hk, Bool.or_eq_true, List.any_eq_true, beq_iff_eq]; simp
theorem fd_d {es : List (List Int)} {own o : List Int} {i k : Nat} {f d : Bool} (h : FD es own o i k f d) (hk : (es.getD i []).length ≤ k) : d = true ↔ own.getD i 0 = 5 ∧ ∀ x ∈ es.getD i [], o.getD x.toNat 0 = 5 := by
  rw [h.hd, List.take_of_length_le hk, Bool.and_eq_true, List.all_eq_true, beq_iff_eq]; simp
theorem Pass.none {N : Nat} {es : List (List Int)} {own o0 o : List Int} {i k : Nat} {ch f d : Bool} (h : Pass N es own o0 i o ch) (hd : FD es own o i k f d) (hk : (es.getD i []).length ≤ k) (h6 : f = false) (h5 : d = false) : Pass N es own o0 (i + 1) o ch :=
  ⟨h.fix, fun hc => ⟨(h.no hc).1, fun j hj => by
    by_cases e : j = i
    · subst e; intro _
      have hd' := (h.no hc).1 ▸ hd
      refine ⟨fun q => ?_, fun q => ?_⟩
      · have := (fd_f hd' hk).2 q; rw [h6] at this; cases this
      · have := (fd_d hd' hk).2 q; rw [h5] at this; cases this
    · exact (h.no hc).2 j (by omega)⟩, h.yes⟩
theorem count0_set : ∀ {l : List Int} {i : Nat} {v : Int}, i < l.length → l.getD i 0 = 0 → v ≠ 0 → (l.set i v).count 0 + 1 = l.count 0
  | [], _, _, h, _, _ => by simp at h
  | a :: l, 0, v, _, h0, hv => by
    simp only [List.getD_cons_zero] at h0
    subst h0
    rw [List.set_cons_zero, List.count_cons, List.count_cons]
    simp [hv]
  | a :: l, i + 1, v, h, h0, hv => by
    have := count0_set (l := l) (i := i) (v := v) (by simpa using h) (by simpa using h0) hv
    rw [List.set_cons_succ, List.count_cons, List.count_cons]; omega
theorem Fix0.child {N : Nat} {es : List (List Int)} {own o : List Int} (h : Fix0 N es own o) (hf : FOk N es own) {i : Nat} {x : Int} (hx : x ∈ es.getD i []) {v : Int} (hv : v ≠ 0) (he : o.getD x.toNat 0 = v) : ver es own x.toNat = v := by
  have := hf.in_ i x hx
  rcases h.val x.toNat (by omega) with q | q
  · rw [he] at q; exact absurd q hv
  · rw [← q]; exact he
theorem Fix0.nocyc {N : Nat} {es : List (List Int)} {own o : List Int} (h : Fix0 N es own o) {i : Nat} (hi : i < N) (h0 : o.getD i 0 = 0) : cycB es i = false := by
  cases hc : cycB es i with
  | false => rfl
  | true => rw [h.cyc i hi hc] at h0; cases h0
theorem Fix0.set {N : Nat} {es : List (List Int)} {own o : List Int} (h : Fix0 N es own o) {i : Nat} (hi : i < N) (h0 : o.getD i 0 = 0) {v : Int} (hv : v = ver es own i) : Fix0 N es own (o.set i v) := by
  have hl := h.len
  have hc := h.nocyc hi h0
  refine ⟨by simp [hl], fun j hj => ?_, fun j hj hcj => ?_⟩
  · rw [setI' (by omega)]
    split
    · rename_i e; subst e; exact .inr hv
    · exact h.val j hj
  · rw [setI' (by omega)]
    split
    · rename_i e; subst e; rw [hc] at hcj; cases hcj
    · exact h.cyc j hj hcj
theorem Pass.cnt {N : Nat} {es : List (List Int)} {own o0 o : List Int} {i : Nat} {ch : Bool} (h : Pass N es own o0 i o ch) : o.count 0 ≤ o0.count 0 := by
  cases ch with
  | false => rw [(h.no rfl).1]; exact Nat.le_refl _
  | true => exact Nat.le_of_lt (h.yes rfl)
theorem Pass.six {N : Nat} {es : List (List Int)} {own o0 o : List Int} {i k : Nat} {ch f d : Bool} (h : Pass N es own o0 i o ch) (hf : FOk N es own) (hi : i < N) (h0 : o.getD i 0 = 0) (hd : FD es own o i k f d) (hk : (es.getD i []).length ≤ k) (h6 : f = true) : Pass N es own o0 (i + 1) (o.set i 6) true := by
  have hl := h.fix.len
  have hv : (6 : Int) = ver es own i := by
    refine ((ver_6 hf hi (h.fix.nocyc hi h0)).2 ?_).symm
    rcases (fd_f hd hk).1 h6 with q | ⟨x, hx, q⟩
    · exact .inl q
    · exact .inr ⟨x, hx, h.fix.child hf hx (by decide) q⟩
  refine ⟨h.fix.set hi h0 hv, fun hc => (by cases hc), fun _ => ?_⟩
  have := count0_set (v := 6) (show i < o.length by omega) h0 (by decide); have := h.cnt; omega
theorem Pass.five {N : Nat} {es : List (List Int)} {own o0 o : List Int} {i k : Nat} {ch f d : Bool} (h : Pass N es own o0 i o ch) (hf : FOk N es own) (hi : i < N) (h0 : o.getD i 0 = 0) (hd : FD es own o i k f d) (hk : (es.getD i []).length ≤ k) (h5 : d = true) : Pass N es own o0 (i + 1) (o.set i 5) true := by
  have hl := h.fix.len
  have hv : (5 : Int) = ver es own i := by
    have q := (fd_d hd hk).1 h5
    exact ((ver_5 hf hi (h.fix.nocyc hi h0)).2 ⟨q.1, fun x hx => h.fix.child hf hx (by decide) (q.2 x hx)⟩).symm
  refine ⟨h.fix.set hi h0 hv, fun hc => (by cases hc), fun _ => ?_⟩
  have := count0_set (v := 5) (show i < o.length by omega) h0 (by decide); have := h.cnt; omega
theorem stuck_ver {N : Nat} {es : List (List Int)} {own o : List Int} (hf : FOk N es own) (h : Fix0 N es own o) (hs : ∀ j, j < N → Stuck es own o j) : ∀ (m i : Nat), rk es i < m → i < N → o.getD i 0 = ver es own i
  | 0, _, h, _ => absurd h (by omega)
  | m + 1, i, hm, hi => by
    rcases h.val i hi with h0 | h0
    · have hc := h.nocyc hi h0
      have ih : ∀ x ∈ es.getD i [], o.getD x.toNat 0 = ver es own x.toNat := fun x hx => by
        have he := edge_of hf.in_ hx
        have := rk_lt hf.le hf.in_ he hc
        exact stuck_ver hf h hs m x.toNat (by omega) (he.lt hf.in_)
      have st := hs i hi h0
      rcases ver_in hf hi hc with q | q | q
      · rw [h0, q]
      · have := (ver_5 hf hi hc).1 q
        exact absurd ⟨this.1, fun x hx => (ih x hx).trans (this.2 x hx)⟩ st.2
      · exact absurd (((ver_6 hf hi hc).1 q).imp id fun ⟨x, hx, r⟩ => ⟨x, hx, (ih x hx).trans r⟩) st.1
    · exact h0
theorem Pass.end_ {N : Nat} {es : List (List Int)} {own o0 o : List Int} (hf : FOk N es own) (h : Pass N es own o0 N o false) : o = verL es own := by
  have hn := h.no rfl
  have h0 : Fix0 N es own o0 := hn.1 ▸ h.fix
  rw [hn.1]
  refine getD_extI (by rw [verL_len, h0.len, hf.le]) fun i hi => ?_
  have hiN : i < N := by have := h0.len; omega
  rw [verL_get (by have := hf.le; omega)]
  exact stuck_ver hf h0 hn.2 _ i (Nat.lt_succ_self _) hiN
theorem Pass.mu {N : Nat} {es : List (List Int)} {own o0 o : List Int} {ch : Bool} {i : Nat} (h : Pass N es own o0 i o ch) : o.count 0 + (if ch = true then 1 else 0) < o0.count 0 + 1 := by
  have := h.cnt
  cases ch with
  | false => rw [if_neg (by decide)]; omega
  | true => have := h.yes rfl; rw [if_pos rfl]; omega
theorem rndL_all {N : Nat} {es : List (List Int)} {k : Nat} (h : k < N) : (rndL N es N).getD k false = wayb es k k := by rw [rndL_get h, if_pos h]
theorem getD_at_i {l : List Int} {j : Nat} (h : j < l.length) : l.getD j 0 = l[j] := by simp [List.getD, h]
theorem goodI_mk {n : Int} {es : List (List Int)} {own : List Int} {i : Nat} (hk : own.getD i 0 = 0 ∨ own.getD i 0 = 5 ∨ own.getD i 0 = 6) (h : ∀ j, j < (es.getD i []).length → 0 ≤ (es.getD i []).getD j 0 ∧ (es.getD i []).getD j 0 < n) : goodI n es own i = true := by
  unfold goodI
  rw [kindB_iff.2 hk, Bool.true_and, Bool.not_eq_true', List.any_eq_false]
  intro x hx
  obtain ⟨j, hj, rfl⟩ := List.getElem_of_mem hx
  have := h j hj
  rw [getD_at_i hj] at this
  unfold strB
  simp only [Bool.or_eq_true, decide_eq_true_eq, not_or]
  omega
theorem goodI_f1 {n : Int} {es : List (List Int)} {own : List Int} {i : Nat} (hk : ¬ (own.getD i 0 = 0 ∨ own.getD i 0 = 5 ∨ own.getD i 0 = 6)) : goodI n es own i = false := by
  unfold goodI
  have : kindB (own.getD i 0) = false := by
    cases h : kindB (own.getD i 0) with
    | false => rfl
    | true => exact absurd (kindB_iff.1 h) hk
  rw [this]; rfl
theorem goodI_f2 {n : Int} {es : List (List Int)} {own : List Int} {i j : Nat} (hj : j < (es.getD i []).length) (h : ¬ (0 ≤ (es.getD i []).getD j 0 ∧ (es.getD i []).getD j 0 < n)) : goodI n es own i = false := by
  unfold goodI
  have : (es.getD i []).any (strB n) = true := by
    rw [List.any_eq_true]
    refine ⟨_, getD_mem_i hj, ?_⟩
    unfold strB
    simp only [Bool.or_eq_true, decide_eq_true_eq]
    omega
  rw [this]; simp
theorem all_bd {l : List Int} {n : Int} {k : Nat} (ha : ∀ j, j < k → 0 ≤ l.getD j 0 ∧ l.getD j 0 < n) (h : 0 ≤ l.getD k 0 ∧ l.getD k 0 < n) : ∀ j, j < k + 1 → 0 ≤ l.getD j 0 ∧ l.getD j 0 < n := fun j hj => by
  by_cases e : j = k
  · exact e ▸ h
  · exact ha j (by omega)
/-! facts that were cut -/
theorem sat_snocRow {L : List HP} {v : Value} {xs : List Int} {a : List Value} {b : List (List Int)} {w : World} (hl : a.length = b.length) (h : Sat (IntSl v xs :: Join (rowsL a b) :: L) w) : Sat (Join (rowsL (a ++ [v]) (b ++ [xs])) :: L) w := by
  have h1 := Sat.join.1 (h.perm (.swap _ _ _))
  refine Sat.join.2 ?_
  have e : rowsL (a ++ [v]) (b ++ [xs]) = rowsL a b ++ [IntSl v xs] := by
    unfold rowsL; rw [List.zipWith_append hl]; rfl
  rw [e, List.append_assoc]; exact h1
theorem sat_norows {L : List HP} {w : World} (h : Sat L w) : Sat (Join (rowsL [] []) :: L) w := by
  obtain ⟨f, hp, hh⟩ := h
  exact ⟨f, ⟨[], f, rfl, rfl, hp⟩, hh⟩
theorem take_setV {V : List Value} {i : Nat} {v : Value} (h : i < V.length) : (V.set i v).take (i + 1) = V.take i ++ [v] := by
  rw [List.take_add_one, List.take_set_of_le (Nat.le_refl i)]; simp [h]
theorem take_succL {l : List (List Int)} {k : Nat} (h : k < l.length) : l.take (k + 1) = l.take k ++ [l.getD k []] := by rw [List.take_add_one]; simp [List.getD, h]
def cutE (es : List (List Int)) : List (List Int) := (es.take 70).map fun l => l.take 20
theorem cutE_len {es : List (List Int)} {n : Nat} (h : n = min es.length 70) : (cutE es).length = n := by unfold cutE; rw [List.length_map, List.length_take]; omega
theorem cutE_get {es : List (List Int)} {i : Nat} (h : i < es.length) (h70 : i < 70) : (cutE es).getD i [] = (es.getD i []).take 20 := by
  unfold cutE
  have : i < (es.take 70).length := by rw [List.length_take]; omega
  simp [List.getD, List.getElem?_take, h, h70]
theorem take_min {l : List Int} {n k : Nat} (h : n = min l.length k) : l.take n = l.take k := by
  subst h
  rcases Nat.le_total l.length k with q | q
  · rw [Nat.min_eq_left q, List.take_of_length_le (Nat.le_refl _), List.take_of_length_le q]
  · rw [Nat.min_eq_right q]
theorem cutE_rows (es : List (List Int)) : ∀ l ∈ cutE es, l.length ≤ 1000000 := fun l hl => by
  obtain ⟨x, _, rfl⟩ := List.mem_map.1 hl
  rw [List.length_take]; omega
end Go.Proofs.Ytljnaefaahphaaa.Sp
