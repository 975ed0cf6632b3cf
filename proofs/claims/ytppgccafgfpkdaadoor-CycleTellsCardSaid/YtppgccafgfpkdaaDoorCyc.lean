/- Ways, circles and the order of a graph's tasks: plain facts. No program in it. -/
import Derived.Test.YtppgccafgfpkdaaDoorPur
set_option linter.unusedVariables false
set_option linter.unusedSimpArgs false
namespace Go.Proofs.YtppgccafgfpkdaaDoor.Sp
open Go
/-- so many edges one behind the other -/
inductive Wk (es : Es) : Nat → Int → Int → Prop
  | nil {a : Int} : Wk es 0 a a
  | cons {a b c : Int} {k : Nat} : (a, b) ∈ es → Wk es k b c → Wk es (k + 1) a c
theorem Wk.zero {es : Es} {a b : Int} (h : Wk es 0 a b) : a = b := by cases h; rfl
theorem Wk.succ {es : Es} {a c : Int} {k : Nat} (h : Wk es (k + 1) a c) : ∃ b, (a, b) ∈ es ∧ Wk es k b c := by cases h with | cons h1 h2 => exact ⟨_, h1, h2⟩
theorem Wk.rch {es : Es} {k : Nat} {a b : Int} (h : Wk es k a b) : Rch es a b := by
  induction h with
  | nil => exact .refl
  | cons he _ ih => exact (Rch.refl.step he).trans ih
theorem Wk.snoc {es : Es} {k : Nat} {a b c : Int} (h : Wk es k a b) (he : (b, c) ∈ es) : Wk es (k + 1) a c := by
  induction h with
  | nil => exact .cons he .nil
  | cons h1 _ ih => exact .cons h1 (ih he)
theorem Rch.wk {es : Es} {a b : Int} (h : Rch es a b) : ∃ k, Wk es k a b := by
  induction h with
  | refl => exact ⟨0, .nil⟩
  | step _ he ih => obtain ⟨k, hk⟩ := ih; exact ⟨k + 1, hk.snoc he⟩
open Classical in
/-- how many edges the shortest way has; -1: there is none -/
noncomputable def farF (es : Es) (to a : Int) : Int := if h : ∃ k, Wk es k a to then (((least_ex h).choose : Nat) : Int) else -1
theorem farF_cases (es : Es) (to a : Int) : (farF es to a = -1 ∧ ∀ k, ¬ Wk es k a to) ∨ ∃ d : Nat, farF es to a = (d : Int) ∧ Wk es d a to ∧ ∀ k, Wk es k a to → d ≤ k := by
  unfold farF
  by_cases h : ∃ k, Wk es k a to
  · rw [dif_pos h]; exact .inr ⟨_, rfl, (least_ex h).choose_spec.1, (least_ex h).choose_spec.2⟩
  · rw [dif_neg h]; exact .inl ⟨rfl, fun k hk => h ⟨k, hk⟩⟩
theorem farF_eq {es : Es} {to a : Int} {d : Nat} (h : Wk es d a to) (hl : ∀ k, Wk es k a to → d ≤ k) : farF es to a = (d : Int) := by
  rcases farF_cases es to a with ⟨_, h2⟩ | ⟨e, h1, h2, h3⟩
  · exact absurd h (h2 d)
  · have := h3 d h; have := hl e h2; omega
theorem farF_ge (es : Es) (to a : Int) : -1 ≤ farF es to a := by
  rcases farF_cases es to a with ⟨h, _⟩ | ⟨d, h, _⟩ <;> omega
theorem farF_rch {es : Es} {to a : Int} : 0 ≤ farF es to a ↔ Rch es a to := by
  rcases farF_cases es to a with ⟨h, h2⟩ | ⟨d, h, h2, _⟩
  · constructor
    · intro; omega
    · intro hr; obtain ⟨k, hk⟩ := hr.wk; exact absurd hk (h2 k)
  · exact ⟨fun _ => h2.rch, fun _ => by omega⟩
theorem farF_self (es : Es) (to : Int) : farF es to to = 0 := farF_eq (d := 0) .nil (fun _ _ => Nat.zero_le _)
theorem farF_zero {es : Es} {to a : Int} (h : farF es to a = 0) : a = to := by
  rcases farF_cases es to a with ⟨h1, _⟩ | ⟨d, h1, h2, _⟩
  · omega
  · have : d = 0 := by omega
    subst this; exact h2.zero
theorem farF_edge {es : Es} {to a b : Int} (he : (a, b) ∈ es) (hb : 0 ≤ farF es to b) : 0 ≤ farF es to a ∧ farF es to a ≤ farF es to b + 1 := by
  rcases farF_cases es to b with ⟨h1, _⟩ | ⟨d, h1, h2, _⟩
  · omega
  · rcases farF_cases es to a with ⟨_, k2⟩ | ⟨e, k1, k2, k3⟩
    · exact absurd (Wk.cons he h2) (k2 _)
    · have := k3 _ (Wk.cons he h2); omega
theorem farF_step {es : Es} {to a : Int} {d : Nat} (h : farF es to a = ((d + 1 : Nat) : Int)) : ∃ b, (a, b) ∈ es ∧ farF es to b = (d : Int) := by
  rcases farF_cases es to a with ⟨h1, _⟩ | ⟨e, h1, h2, h3⟩
  · omega
  · have : e = d + 1 := by omega
    subst this
    obtain ⟨b, hb, hw⟩ := h2.succ
    exact ⟨b, hb, farF_eq hw fun k hk => by have := h3 _ (Wk.cons hb hk); omega⟩
noncomputable def farL (N : Nat) (es : Es) (to : Int) : List Int := (List.range N).map fun i : Nat => farF es to (i : Int)
theorem farL_len (N : Nat) (es : Es) (to : Int) : (farL N es to).length = N := by simp [farL]
theorem farL_get {N : Nat} {es : Es} {to : Int} {i : Nat} (h : i < N) : (farL N es to).getD i 0 = farF es to (i : Int) := by simp [farL, List.getD, h]
theorem farL_at {N : Nat} {es : Es} {to x : Int} (h : 0 ≤ x ∧ x < N) : (farL N es to).getD x.toNat 0 = farF es to x := by rw [farL_get (by omega)]; congr 1; omega
/-! the search: a queue, and how far everybody is -/
def relax (h : Int) (s : List Int × List Int) (b : Int) : List Int × List Int := if s.1.getD b.toNat 0 < 0 then (s.1.set b.toNat (s.1.getD h.toNat 0 + 1), s.2 ++ [b]) else s
def relaxL (h : Int) (bs : List Int) (s : List Int × List Int) : List Int × List Int := bs.foldl (relax h) s
theorem relaxL_succ {h : Int} {bs : List Int} {j : Nat} (hj : j < bs.length) (s : List Int × List Int) : relaxL h (bs.take (j + 1)) s = relax h (relaxL h (bs.take j) s) (bs.getD j 0) := by
  unfold relaxL; rw [take_succ_getD hj 0, List.foldl_append]; rfl
structure Mid (N : Nat) (es : Es) (to h : Int) (bs : List Int) (far l : List Int) : Prop where
  len : far.length = N
  hd : ∃ r, l = h :: r
  inn : ∀ q ∈ l, 0 ≤ q ∧ q < N ∧ 0 ≤ far.getD q.toNat 0
  val : ∀ a : Nat, a < N → far.getD a 0 = -1 ∨ ∃ d : Nat, far.getD a 0 = (d : Int) ∧ Wk es d a to
  closed : ∀ a : Nat, a < N → 0 ≤ far.getD a 0 → (a : Int) ∉ l → ∀ b ∈ inns es a, 0 ≤ far.getD b.toNat 0 ∧ far.getD b.toNat 0 ≤ far.getD a 0 + 1
  srt : l.Pairwise fun x y => far.getD x.toNat 0 ≤ far.getD y.toNat 0
  top : ∀ a : Nat, a < N → far.getD a 0 ≤ far.getD h.toNat 0 + 1
  goal : far.getD to.toNat 0 = 0
  done : ∀ b ∈ bs, 0 ≤ far.getD b.toNat 0
structure Bfs (N : Nat) (es : Es) (to : Int) (far l : List Int) : Prop where
  len : far.length = N
  inn : ∀ q ∈ l, 0 ≤ q ∧ q < N ∧ 0 ≤ far.getD q.toNat 0
  val : ∀ a : Nat, a < N → far.getD a 0 = -1 ∨ ∃ d : Nat, far.getD a 0 = (d : Int) ∧ Wk es d a to
  closed : ∀ a : Nat, a < N → 0 ≤ far.getD a 0 → (a : Int) ∉ l → ∀ b ∈ inns es a, 0 ≤ far.getD b.toNat 0 ∧ far.getD b.toNat 0 ≤ far.getD a 0 + 1
  srt : l.Pairwise fun x y => far.getD x.toNat 0 ≤ far.getD y.toNat 0
  top : ∀ q ∈ l, ∀ a : Nat, a < N → far.getD a 0 ≤ far.getD q.toNat 0 + 1
  goal : far.getD to.toNat 0 = 0
theorem setI {l : List Int} {i j : Nat} {x d : Int} (h : i < l.length) : (l.set i x).getD j d = if j = i then x else l.getD j d := by
  simp only [List.getD_eq_getElem?_getD, List.getElem?_set]
  by_cases e : i = j
  · subst e; simp [h]
  · rw [if_neg e, if_neg (fun h => e h.symm)]
theorem repI {n i : Nat} {x d : Int} (h : i < n) : (List.replicate n x).getD i d = x := by simp [List.getD, h]
theorem Bfs.start {N : Nat} {es : Es} {to : Int} (hg : GOk N es) (ht : 0 ≤ to ∧ to < N) : Bfs N es to ((List.replicate N (-1)).set to.toNat 0) [to] := by
  have hl : (List.replicate N (-1 : Int)).length = N := List.length_replicate
  have g : ∀ a : Nat, a < N → ((List.replicate N (-1 : Int)).set to.toNat 0).getD a 0 = if a = to.toNat then 0 else -1 := fun a ha => by rw [setI (by omega), repI ha]
  refine ⟨by simp, fun q hq => ?_, fun a ha => ?_, fun a ha h0 hn => ?_, by simp, fun q hq a ha => ?_, by rw [g _ (by omega), if_pos rfl]⟩
  · simp only [List.mem_singleton] at hq; subst hq; rw [g _ (by omega), if_pos rfl]; omega
  · rw [g a ha]
    split
    · rename_i e; refine .inr ⟨0, rfl, ?_⟩; rw [show (a : Int) = to by omega]; exact .nil
    · exact .inl rfl
  · rw [g a ha] at h0
    split at h0
    · exact absurd (List.mem_singleton.2 (show (a : Int) = to by omega)) hn
    · omega
  · simp only [List.mem_singleton] at hq; subst hq; rw [g a ha, g _ (by omega), if_pos rfl]; split <;> omega
theorem Bfs.mid {N : Nat} {es : Es} {to h : Int} {far r : List Int} (q : Bfs N es to far (h :: r)) : Mid N es to h [] far (h :: r) :=
  ⟨q.len, ⟨r, rfl⟩, q.inn, q.val, q.closed, q.srt, q.top h (List.mem_cons_self ..), q.goal, fun b hb => by cases hb⟩
theorem Mid.next {N : Nat} {es : Es} {to h : Int} {bs far l : List Int} (q : Mid N es to h bs far l) (hg : GOk N es) (ht : 0 ≤ to ∧ to < N) {b : Int} (hb : b ∈ inns es h) :
    Mid N es to h (bs ++ [b]) (relax h (far, l) b).1 (relax h (far, l) b).2 := by
  have bb := hg.inns_inn hb
  have hl := q.len
  unfold relax
  dsimp only
  by_cases hn : far.getD b.toNat 0 < 0
  · rw [if_pos hn]
    dsimp only
    obtain ⟨r, hr⟩ := q.hd
    have hh := q.inn h (by rw [hr]; exact List.mem_cons_self ..)
    have g : ∀ a : Nat, (far.set b.toNat (far.getD h.toNat 0 + 1)).getD a 0 = if a = b.toNat then far.getD h.toNat 0 + 1 else far.getD a 0 := fun a => setI (by omega)
    have gl : ∀ x : Int, 0 ≤ far.getD x.toNat 0 → (far.set b.toNat (far.getD h.toNat 0 + 1)).getD x.toNat 0 = far.getD x.toNat 0 := fun x hx => by
      rw [g]; split
      · rename_i e; rw [← e] at hn; omega
      · rfl
    refine ⟨by simp [hl], ⟨r ++ [b], by rw [hr]; rfl⟩, fun x hx => ?_, fun a ha => ?_, fun a ha h0 hx c hc => ?_, ?_, fun a ha => ?_, ?_, fun c hc => ?_⟩
    · rcases List.mem_append.1 hx with hx | hx
      · have := q.inn x hx; rw [gl x this.2.2]; exact this
      · simp only [List.mem_singleton] at hx; subst hx; rw [g, if_pos rfl]; omega
    · rw [g]; split
      · rename_i e
        obtain ⟨d, h1, h2⟩ : ∃ d : Nat, far.getD h.toNat 0 = (d : Int) ∧ Wk es d h to := by
          rcases q.val h.toNat (by omega) with h1 | ⟨d, h1, h2⟩
          · omega
          · rw [Int.toNat_of_nonneg hh.1] at h2; exact ⟨d, h1, h2⟩
        refine .inr ⟨d + 1, by omega, ?_⟩
        rw [e, Int.toNat_of_nonneg bb.1]; exact .cons (mem_inns.1 hb) h2
      · exact q.val a ha
    · have hne : a ≠ b.toNat := fun e => hx (List.mem_append_right _ (List.mem_singleton.2 (by omega)))
      rw [g, if_neg hne] at h0
      have := q.closed a ha h0 (fun hm => hx (List.mem_append_left _ hm)) c hc
      rw [gl c this.1, g a, if_neg hne]; exact this
    · rw [List.pairwise_append]
      refine ⟨q.srt.imp_of_mem ?_, by simp, fun x hx y hy => ?_⟩
      · intro x y hx hy hxy
        rw [gl x (q.inn x hx).2.2, gl y (q.inn y hy).2.2]; exact hxy
      · simp only [List.mem_singleton] at hy; subst hy
        have hi := q.inn x hx
        rw [gl x hi.2.2, g, if_pos rfl]
        exact q.top x.toNat (by omega)
    · rw [gl h hh.2.2, g]; split
      · omega
      · exact q.top a ha
    · rw [gl to (by rw [q.goal]; omega)]; exact q.goal
    · rcases List.mem_append.1 hc with hc | hc
      · rw [gl c (q.done c hc)]; exact q.done c hc
      · simp only [List.mem_singleton] at hc; subst hc; rw [g, if_pos rfl]; omega
  · rw [if_neg hn]
    refine ⟨q.len, q.hd, q.inn, q.val, q.closed, q.srt, q.top, q.goal, fun c hc => ?_⟩
    rcases List.mem_append.1 hc with hc | hc
    · exact q.done c hc
    · simp only [List.mem_singleton] at hc; subst hc; dsimp only; omega
theorem Bfs.mids {N : Nat} {es : Es} {to h : Int} {far r : List Int} (q : Bfs N es to far (h :: r)) (hg : GOk N es) (ht : 0 ≤ to ∧ to < N) (j : Nat) :
    Mid N es to h ((inns es h).take j) (relaxL h ((inns es h).take j) (far, h :: r)).1 (relaxL h ((inns es h).take j) (far, h :: r)).2 := by
  induction j with
  | zero => exact q.mid
  | succ j ih =>
    by_cases hj : j < (inns es h).length
    · rw [relaxL_succ hj, take_succ_getD hj 0]
      exact ih.next hg ht (by simp [List.getD, hj])
    · rw [List.take_of_length_le (by omega)]; rw [List.take_of_length_le (by omega)] at ih; exact ih
theorem Mid.bfs {N : Nat} {es : Es} {to h : Int} {far l : List Int} (hg : GOk N es) (q : Mid N es to h (inns es h) far l) : Bfs N es to far l.tail := by
  obtain ⟨r, rfl⟩ := q.hd
  rw [List.tail_cons]
  have hh := q.inn h (List.mem_cons_self ..)
  have hs := List.pairwise_cons.1 q.srt
  refine ⟨q.len, fun x hx => q.inn x (List.mem_cons_of_mem _ hx), q.val, fun a ha h0 hn b hb => ?_, hs.2, fun x hx a ha => ?_, q.goal⟩
  · by_cases e : (a : Int) = h
    · subst e
      refine ⟨q.done b hb, ?_⟩
      have hv := q.done b hb
      have hbn : b.toNat < N := by have := hg.inns_inn hb; omega
      have := q.top b.toNat hbn
      simpa using this
    · exact q.closed a ha h0 (fun hm => by rcases List.mem_cons.1 hm with h1 | h1; exact e h1; exact hn h1) b hb
  · have := q.top a ha; have := hs.1 x hx; omega
theorem Bfs.end_ {N : Nat} {es : Es} {to : Int} {far : List Int} (hg : GOk N es) (ht : 0 ≤ to ∧ to < N) (q : Bfs N es to far []) : far = farL N es to := by
  have key : ∀ (k : Nat) (a c : Int), Wk es k a c → c = to → 0 ≤ a → a < N → 0 ≤ far.getD a.toNat 0 ∧ far.getD a.toNat 0 ≤ (k : Int) := by
    intro k a c hw
    induction hw with
    | nil => intro e h0 h1; rw [e, q.goal]; omega
    | @cons a b c k he hw ih =>
      intro e h0 h1
      have hb := hg.inn _ he
      obtain ⟨i1, i2⟩ := ih e hb.2.2.1 hb.2.2.2
      have := q.closed b.toNat (by omega) i1 (by simp) a (by rw [Int.toNat_of_nonneg hb.2.2.1]; exact mem_inns.2 he)
      omega
  refine List.ext_getElem (by rw [q.len, farL_len]) fun i h1 h2 => ?_
  have hi : i < N := by rw [← q.len]; exact h1
  have e1 : far[i] = far.getD i 0 := by simp [List.getD, h1]
  have e2 : (farL N es to)[i] = (farL N es to).getD i 0 := by simp [List.getD, h2]
  rw [e1, e2, farL_get hi]
  rcases q.val i hi with h | ⟨d, h, hw⟩
  · rcases farF_cases es to (i : Int) with ⟨k1, _⟩ | ⟨e, k1, k2, _⟩
    · rw [h, k1]
    · have := key _ _ _ k2 rfl (by omega) (by omega); rw [Int.toNat_natCast] at this; omega
  · rw [h]; symm
    refine farF_eq hw fun k hk => ?_
    have := key _ _ _ hk rfl (by omega) (by omega); rw [Int.toNat_natCast] at this; omega
def negN (far : List Int) : Nat := far.countP fun x => decide (x < 0)
theorem relax_cnt {h b : Int} {s : List Int × List Int} (hb : b.toNat < s.1.length) (h0 : 0 ≤ s.1.getD h.toNat 0) : negN (relax h s b).1 + (relax h s b).2.length = negN s.1 + s.2.length := by
  unfold relax negN
  split
  · rename_i hn
    have e : s.1[b.toNat] = s.1.getD b.toNat 0 := by simp [List.getD, hb]
    have h1 : 0 < s.1.countP fun x => decide (x < 0) := List.countP_pos_iff.2 ⟨s.1[b.toNat], List.getElem_mem hb, by rw [e]; exact decide_eq_true hn⟩
    dsimp only
    rw [List.countP_set hb, List.length_append, e, if_pos (decide_eq_true hn), if_neg (by rw [decide_eq_true_iff]; omega)]
    simp; omega
  · rfl
theorem relaxL_cnt {N : Nat} {es : Es} {to h : Int} {far r : List Int} (q : Bfs N es to far (h :: r)) (hg : GOk N es) (ht : 0 ≤ to ∧ to < N) (j : Nat) :
    negN (relaxL h ((inns es h).take j) (far, h :: r)).1 + (relaxL h ((inns es h).take j) (far, h :: r)).2.length = negN far + (h :: r).length := by
  induction j with
  | zero => rfl
  | succ j ih =>
    by_cases hj : j < (inns es h).length
    · rw [relaxL_succ hj, ← ih]
      have hm := q.mids hg ht j
      refine relax_cnt ?_ ?_
      · rw [hm.len]; have := hg.inns_inn (a := h) (x := (inns es h).getD j 0) (by simp [List.getD, hj]); omega
      · obtain ⟨r', e⟩ := hm.hd; exact (hm.inn h (by rw [e]; exact List.mem_cons_self ..)).2.2
    · rw [List.take_of_length_le (by omega)]; rw [List.take_of_length_le (by omega)] at ih; exact ih
theorem relax_y {h : Int} {bs far l : List Int} {j : Nat} (hj : j < bs.length) (hn : (relaxL h (bs.take j) (far, l)).1.getD (bs.getD j 0).toNat 0 < 0) :
    (relaxL h (bs.take (j + 1)) (far, l)).1 = (relaxL h (bs.take j) (far, l)).1.set (bs.getD j 0).toNat ((relaxL h (bs.take j) (far, l)).1.getD h.toNat 0 + 1) ∧ (relaxL h (bs.take (j + 1)) (far, l)).2 = (relaxL h (bs.take j) (far, l)).2 ++ [bs.getD j 0] := by
  rw [relaxL_succ hj]; unfold relax; rw [if_pos hn]; exact ⟨rfl, rfl⟩
theorem relax_n {h : Int} {bs far l : List Int} {j : Nat} (hj : j < bs.length) (hn : ¬ (relaxL h (bs.take j) (far, l)).1.getD (bs.getD j 0).toNat 0 < 0) : relaxL h (bs.take (j + 1)) (far, l) = relaxL h (bs.take j) (far, l) := by
  rw [relaxL_succ hj]; unfold relax; rw [if_neg hn]
/-- nobody is farther than there are others that are known -/
def BLt (N : Nat) (far : List Int) : Prop := ∀ a : Nat, a < N → far.getD a 0 + negN far < N
theorem negN_start {N : Nat} {to : Int} (ht : 0 ≤ to ∧ to < N) : negN ((List.replicate N (-1)).set to.toNat 0) = N - 1 := by
  have hl : (List.replicate N (-1 : Int)).length = N := List.length_replicate
  unfold negN
  rw [List.countP_set (by omega), List.getElem_replicate, List.countP_replicate]; simp
theorem BLt.start {N : Nat} {to : Int} (ht : 0 ≤ to ∧ to < N) : BLt N ((List.replicate N (-1)).set to.toNat 0) := by
  intro a ha
  have hl : (List.replicate N (-1 : Int)).length = N := List.length_replicate
  have hn : negN ((List.replicate N (-1 : Int)).set to.toNat 0) = N - 1 := by
    unfold negN
    rw [List.countP_set (by omega), List.getElem_replicate, List.countP_replicate]; simp
  rw [setI (by omega), repI ha, hn]; split <;> omega
theorem BLt.relax {N : Nat} {h b : Int} {s : List Int × List Int} (q : BLt N s.1) (hl : s.1.length = N) (hb : b.toNat < N) (hh : h.toNat < N) : BLt N (relax h s b).1 := by
  unfold Sp.relax
  split
  · rename_i hn
    have e : s.1[b.toNat]'(by omega) = s.1.getD b.toNat 0 := by rw [List.getD_eq_getElem?_getD, List.getElem?_eq_getElem (by omega)]; rfl
    intro a ha
    dsimp only
    have h1 : 0 < s.1.countP fun x => decide (x < 0) := List.countP_pos_iff.2 ⟨s.1[b.toNat]'(by omega), List.getElem_mem _, by rw [e]; exact decide_eq_true hn⟩
    have qh := q h.toNat hh
    have qa := q a ha
    have h0 : negN (s.1.set b.toNat (s.1.getD h.toNat 0 + 1)) ≤ negN s.1 ∧ (0 ≤ s.1.getD h.toNat 0 + 1 → negN (s.1.set b.toNat (s.1.getD h.toNat 0 + 1)) + 1 = negN s.1) := by
      unfold negN
      rw [List.countP_set (by omega), e, if_pos (decide_eq_true hn)]
      constructor
      · split <;> omega
      · intro h0; rw [if_neg (by rw [decide_eq_true_iff]; omega)]; omega
    rw [setI (by omega)]
    split
    · by_cases hp : 0 ≤ s.1.getD h.toNat 0 + 1
      · have := h0.2 hp; omega
      · have h3 : negN s.1 ≤ N := by unfold negN; rw [← hl]; exact List.countP_le_length
        have h4 : negN (s.1.set b.toNat (s.1.getD h.toNat 0 + 1)) ≤ N := by unfold negN; rw [← hl, ← List.length_set (as := s.1) (i := b.toNat) (a := s.1.getD h.toNat 0 + 1)]; exact List.countP_le_length
        omega
    · omega
  · exact q
theorem BLt.mids {N : Nat} {es : Es} {to h : Int} {far r : List Int} (p : BLt N far) (q : Bfs N es to far (h :: r)) (hg : GOk N es) (ht : 0 ≤ to ∧ to < N) (j : Nat) : BLt N (relaxL h ((inns es h).take j) (far, h :: r)).1 := by
  induction j with
  | zero => exact p
  | succ j ih =>
    by_cases hj : j < (inns es h).length
    · rw [relaxL_succ hj]
      have hm := q.mids hg ht j
      have hb := hg.inns_inn (a := h) (x := (inns es h).getD j 0) (by simp [List.getD, hj])
      have hh := q.inn h (List.mem_cons_self ..)
      exact ih.relax hm.len (by omega) (by omega)
    · rw [List.take_of_length_le (by omega)]; rw [List.take_of_length_le (by omega)] at ih; exact ih
/-! ways -/
noncomputable def nxtF (es : Es) (to a : Int) : Int := (outs es a).getD (idxF (fun b => farF es to b == farF es to a - 1) (outs es a)).toNat 0
theorem idxF_get {p : Int → Bool} {xs : List Int} (h : xs.any p = true) : 0 ≤ idxF p xs ∧ idxF p xs < xs.length ∧ p (xs.getD (idxF p xs).toNat 0) = true ∧ xs.getD (idxF p xs).toNat 0 ∈ xs := by
  have h0 : xs.findIdx p < xs.length := List.findIdx_lt_length.2 (by simpa using h)
  unfold idxF
  rw [if_pos h0]
  refine ⟨by omega, by omega, ?_, ?_⟩
  · have := List.findIdx_getElem (w := h0); simpa [List.getD, h0] using this
  · simp [List.getD, h0]
theorem nxt_any {es : Es} {to a : Int} {d : Nat} (h : farF es to a = ((d + 1 : Nat) : Int)) : ((outs es a).any fun b => farF es to b == farF es to a - 1) = true := by
  obtain ⟨b, hb, he⟩ := farF_step h
  exact List.any_eq_true.2 ⟨b, mem_outs.2 hb, by rw [he, h, beq_iff_eq]; omega⟩
theorem nxt_ok {es : Es} {to a : Int} {d : Nat} (h : farF es to a = ((d + 1 : Nat) : Int)) : (a, nxtF es to a) ∈ es ∧ farF es to (nxtF es to a) = (d : Int) := by
  obtain ⟨_, _, h3, h4⟩ := idxF_get (nxt_any h)
  refine ⟨mem_outs.1 h4, ?_⟩
  have := beq_iff_eq.1 h3
  unfold nxtF; rw [this, h]; omega
noncomputable def pathN (es : Es) (to : Int) : Nat → Int → List Int
  | 0, a => [a]
  | d + 1, a => a :: pathN es to d (nxtF es to a)
noncomputable def pathL (N : Nat) (es : Es) (a to : Int) : List Int := if valid N a = true ∧ valid N to = true ∧ 0 ≤ farF es to a then pathN es to (farF es to a).toNat a else []
theorem pathN_len (es : Es) (to : Int) : ∀ (d : Nat) (a : Int), (pathN es to d a).length = d + 1
  | 0, a => rfl
  | d + 1, a => by rw [pathN, List.length_cons, pathN_len es to d]
theorem pathN_zero (es : Es) (to : Int) (d : Nat) (a : Int) : (pathN es to d a).getD 0 0 = a := by cases d <;> rfl
theorem pathN_far {es : Es} {to : Int} : ∀ (d : Nat) (a : Int), farF es to a = (d : Int) → ∀ i, i ≤ d → farF es to ((pathN es to d a).getD i 0) = ((d - i : Nat) : Int)
  | 0, a, h, i, hi => by
    have : i = 0 := by omega
    subst this; exact h
  | d + 1, a, h, i, hi => by
    cases i with
    | zero => exact h
    | succ i =>
      have := pathN_far d _ (nxt_ok h).2 i (by omega)
      rw [pathN, List.getD_cons_succ, this]; congr 1; omega
theorem pathN_edge {es : Es} {to : Int} : ∀ (d : Nat) (a : Int), farF es to a = (d : Int) → ∀ i, i < d → ((pathN es to d a).getD i 0, (pathN es to d a).getD (i + 1) 0) ∈ es
  | 0, a, h, i, hi => by omega
  | d + 1, a, h, i, hi => by
    cases i with
    | zero => rw [pathN, List.getD_cons_succ, List.getD_cons_zero, pathN_zero]; exact (nxt_ok h).1
    | succ i => rw [pathN, List.getD_cons_succ, List.getD_cons_succ]; exact pathN_edge d _ (nxt_ok h).2 i (by omega)
/-- where one stands after so many steps -/
noncomputable def atN (es : Es) (to : Int) : Nat → Int → Int
  | 0, a => a
  | k + 1, a => nxtF es to (atN es to k a)
theorem atN_succ' (es : Es) (to : Int) : ∀ (k : Nat) (a : Int), atN es to (k + 1) a = atN es to k (nxtF es to a)
  | 0, a => rfl
  | k + 1, a => by
    have := atN_succ' es to k a
    show nxtF es to (atN es to (k + 1) a) = nxtF es to (atN es to k (nxtF es to a))
    rw [this]
theorem pathN_snocs (es : Es) (to : Int) : ∀ (d : Nat) (a : Int), pathN es to (d + 1) a = pathN es to d a ++ [atN es to (d + 1) a]
  | 0, a => rfl
  | d + 1, a => by
    rw [pathN, pathN_snocs es to d, pathN, List.cons_append, ← atN_succ' es to (d + 1)]
theorem atN_far {es : Es} {to a : Int} {d : Nat} (h : farF es to a = (d : Int)) : ∀ k, k ≤ d → farF es to (atN es to k a) = ((d - k : Nat) : Int)
  | 0, _ => h
  | k + 1, hk => by
    have ih := atN_far h k (by omega)
    rw [show d - k = (d - (k + 1)) + 1 by omega] at ih
    exact (nxt_ok ih).2
theorem GOk.atN {N : Nat} {es : Es} (hg : GOk N es) {to a : Int} {d : Nat} (h : farF es to a = (d : Int)) (ha : 0 ≤ a ∧ a < N) : ∀ k, k ≤ d → 0 ≤ Sp.atN es to k a ∧ Sp.atN es to k a < N
  | 0, _ => ha
  | k + 1, hk => by
    have ih := atN_far h k (by omega)
    rw [show d - k = (d - (k + 1)) + 1 by omega] at ih
    have := hg.inn _ (nxt_ok ih).1
    exact ⟨this.2.2.1, this.2.2.2⟩
theorem path_some {N : Nat} {es : Es} {a to : Int} {i : Nat} (h : i < (pathL N es a to).length) : valid N a = true ∧ valid N to = true ∧ ∃ d : Nat, farF es to a = (d : Int) ∧ pathL N es a to = pathN es to d a ∧ i ≤ d := by
  unfold pathL at h ⊢
  by_cases hc : valid N a = true ∧ valid N to = true ∧ 0 ≤ farF es to a
  · rw [if_pos hc, pathN_len] at h
    rw [if_pos hc]
    exact ⟨hc.1, hc.2.1, (farF es to a).toNat, by have := hc.2.2; omega, rfl, by omega⟩
  · rw [if_neg hc] at h; simp at h
theorem path_in {N : Nat} {es : Es} (hg : GOk N es) {a to : Int} {i : Nat} (h : i < (pathL N es a to).length) : 0 ≤ (pathL N es a to).getD i 0 ∧ (pathL N es a to).getD i 0 < N := by
  obtain ⟨h1, h2, d, h3, h4, h5⟩ := path_some h
  rw [h4]
  cases i with
  | zero => rw [pathN_zero]; exact valid_iff.1 h1
  | succ i => have := hg.inn _ (pathN_edge d a h3 i (by omega)); exact ⟨this.2.2.1, this.2.2.2⟩
theorem path_edge {N : Nat} {es : Es} {a to : Int} {i : Nat} (h : i + 1 < (pathL N es a to).length) : ((pathL N es a to).getD i 0, (pathL N es a to).getD (i + 1) 0) ∈ es := by
  obtain ⟨h1, h2, d, h3, h4, h5⟩ := path_some h
  rw [h4]; exact pathN_edge d a h3 i (by omega)
theorem path_ne {N : Nat} {es : Es} {a to : Int} {i k : Nat} (hk : k < i) (h : i < (pathL N es a to).length) : ¬ (pathL N es a to).getD k 0 = (pathL N es a to).getD i 0 := by
  obtain ⟨h1, h2, d, h3, h4, h5⟩ := path_some h
  rw [h4]; intro e
  have e1 := pathN_far d a h3 i h5
  have e2 := pathN_far d a h3 k (by omega)
  rw [e] at e2; omega
theorem path_short {N : Nat} {es : Es} {a to : Int} {i k : Nat} (hk : i + 2 ≤ k) (h : k < (pathL N es a to).length) : hasE es ((pathL N es a to).getD i 0, (pathL N es a to).getD k 0) = false := by
  obtain ⟨h1, h2, d, h3, h4, h5⟩ := path_some h
  rw [h4]
  cases hb : hasE es ((pathN es to d a).getD i 0, (pathN es to d a).getD k 0) with
  | false => rfl
  | true =>
    have hm : ((pathN es to d a).getD i 0, (pathN es to d a).getD k 0) ∈ es := by simpa [hasE] using hb
    have e1 := pathN_far d a h3 i (by omega)
    have e2 := pathN_far d a h3 k h5
    have := farF_edge (to := to) hm (by omega); omega
theorem path_pos {N : Nat} {es : Es} {a to : Int} : decide (((pathL N es a to).length : Int) > 0) = reachB N es a to := by
  rw [Bool.eq_iff_iff, decide_eq_true_iff]
  unfold pathL reachB
  simp only [Bool.and_eq_true, rch_iff]
  constructor
  · intro h; split at h
    · rename_i hc; exact ⟨⟨hc.1, hc.2.1⟩, farF_rch.1 hc.2.2⟩
    · simp at h
  · rintro ⟨⟨h1, h2⟩, h3⟩
    rw [if_pos ⟨h1, h2, farF_rch.2 h3⟩, pathN_len]; omega
theorem path_first {N : Nat} {es : Es} {a to : Int} (h : 0 < (pathL N es a to).length) : (pathL N es a to).getD 0 0 = a := by
  obtain ⟨h1, h2, d, h3, h4, h5⟩ := path_some h
  rw [h4, pathN_zero]
theorem path_last {N : Nat} {es : Es} {a to : Int} (h : 0 < (pathL N es a to).length) : (pathL N es a to).getD ((pathL N es a to).length - 1) 0 = to := by
  obtain ⟨h1, h2, d, h3, h4, h5⟩ := path_some h
  rw [h4, pathN_len]
  refine farF_zero (es := es) ?_
  rw [pathN_far d a h3 _ (by omega)]; omega
theorem path_same {N : Nat} {es : Es} {a to : Int} (h : 0 < (pathL N es a to).length) (e : a = to) : (pathL N es a to).length = 1 := by
  obtain ⟨h1, h2, d, h3, h4, h5⟩ := path_some h
  rw [h4, pathN_len]
  rw [e, farF_self] at h3; omega
theorem path_nodup {N : Nat} {es : Es} {a to : Int} : (pathL N es a to).Nodup := by
  rw [List.nodup_iff_pairwise_ne, List.pairwise_iff_getElem]
  intro i j hi hj hlt e
  exact path_ne hlt hj (by simpa [List.getD, hi, hj] using e)
theorem path_le {N : Nat} {es : Es} (hg : GOk N es) {a to : Int} : (pathL N es a to).length ≤ N := by
  refine nodup_le path_nodup fun x hx => ?_
  obtain ⟨i, hi, e⟩ := List.mem_iff_getElem.1 hx
  have := path_in hg hi
  rw [← e]; simpa [List.getD, hi] using this
theorem farF_lt {N : Nat} {es : Es} (hg : GOk N es) {a to : Int} (ha : 0 ≤ a ∧ a < N) (ht : 0 ≤ to ∧ to < N) : farF es to a < N := by
  by_cases h0 : 0 ≤ farF es to a
  · have h1 := path_le hg (a := a) (to := to)
    unfold pathL at h1
    rw [if_pos ⟨valid_iff.2 ha, valid_iff.2 ht, h0⟩, pathN_len] at h1; omega
  · omega
theorem path_rch {N : Nat} {es : Es} {a to : Int} {i j : Nat} (hij : i ≤ j) (h : j < (pathL N es a to).length) : Rch es ((pathL N es a to).getD i 0) ((pathL N es a to).getD j 0) := by
  induction j with
  | zero =>
    have : i = 0 := by omega
    subst this; exact .refl
  | succ j ih =>
    by_cases e : i = j + 1
    · subst e; exact .refl
    · exact (ih (by omega) (by omega)).step (path_edge h)
/-! circles -/
noncomputable def onB (N : Nat) (es : Es) (a : Int) : Bool := (outs es a).any fun b => reachB N es b a
noncomputable def onL (N : Nat) (es : Es) : List Int := ((List.range N).filter fun a : Nat => onB N es (a : Int)).map fun a : Nat => (a : Int)
theorem onB_iff {N : Nat} {es : Es} (hg : GOk N es) {a : Int} : onB N es a = true ↔ ∃ b, (a, b) ∈ es ∧ Rch es b a := by
  unfold onB
  rw [List.any_eq_true]
  constructor
  · rintro ⟨b, hb, h⟩
    simp only [reachB, Bool.and_eq_true] at h
    exact ⟨b, mem_outs.1 hb, rch_iff.1 h.2⟩
  · rintro ⟨b, hb, h⟩
    have := hg.valid hb
    refine ⟨b, mem_outs.2 hb, ?_⟩
    simp only [reachB, Bool.and_eq_true]
    exact ⟨⟨this.2, this.1⟩, rch_iff.2 h⟩
theorem mem_onL {N : Nat} {es : Es} {x : Int} : x ∈ onL N es ↔ (0 ≤ x ∧ x < N) ∧ onB N es x = true := by
  unfold onL
  rw [List.mem_map]
  constructor
  · rintro ⟨a, ha, rfl⟩
    rw [List.mem_filter, List.mem_range] at ha
    exact ⟨⟨by omega, by omega⟩, ha.2⟩
  · rintro ⟨h1, h2⟩
    refine ⟨x.toNat, ?_, by omega⟩
    rw [List.mem_filter, List.mem_range]
    exact ⟨by omega, by rw [Int.toNat_of_nonneg h1.1]; exact h2⟩
theorem onL_le (N : Nat) (es : Es) : (onL N es).length ≤ N := by
  unfold onL; rw [List.length_map]
  have := List.length_filter_le (fun a : Nat => onB N es (a : Int)) (List.range N)
  simpa using this
theorem onL_in {N : Nat} {es : Es} {i : Nat} (h : i < (onL N es).length) : 0 ≤ (onL N es).getD i 0 ∧ (onL N es).getD i 0 < N := by
  have : (onL N es).getD i 0 ∈ onL N es := by simp [List.getD, h]
  exact (mem_onL.1 this).1
theorem rch_edge {E : Es} {a b c x : Int} (h : Rch (E ++ [(a, b)]) c x) : Rch E c x ∨ (Rch E c a ∧ Rch E b x) := by
  induction h with
  | refl => exact .inl .refl
  | step _ he ih =>
    rcases List.mem_append.1 he with he | he
    · rcases ih with ih | ⟨i1, i2⟩
      · exact .inl (ih.step he)
      · exact .inr ⟨i1, i2.step he⟩
    · have e := List.mem_singleton.1 he
      simp only [Prod.mk.injEq] at e
      obtain ⟨rfl, rfl⟩ := e
      rcases ih with ih | ⟨i1, i2⟩
      · exact .inr ⟨ih, .refl⟩
      · exact .inr ⟨i1, .refl⟩
theorem onB_add {N : Nat} {es : Es} (hg : GOk N es) {a b x : Int} (h : onB N es x = true) : onB N (addE N es a b) x = true := by
  obtain ⟨y, h1, h2⟩ := (onB_iff hg).1 h
  exact (onB_iff (hg.add a b)).2 ⟨y, addE_sub _ h1, h2.mono addE_sub⟩
theorem addE_has {N : Nat} {es : Es} {a b : Int} (ha : valid N a = true) (hb : valid N b = true) : (a, b) ∈ addE N es a b := by
  unfold addE isNew
  rw [ha, hb]
  cases hc : es.contains (a, b) with
  | true => simpa using hc
  | false => simp
/-- all of the circle that an edge closes are on circles -/
theorem on_closed {N : Nat} {es : Es} (hg : GOk N es) {a b : Int} (ha : valid N a = true) (hb : valid N b = true) {i : Nat} (h : i < (pathL N es b a).length) : onB N (addE N es a b) ((pathL N es b a).getD i 0) = true := by
  have hf := path_first (N := N) (es := es) (a := b) (to := a) (by omega)
  have hl := path_last (N := N) (es := es) (a := b) (to := a) (by omega)
  refine (onB_iff (hg.add a b)).2 ?_
  have r1 := (path_rch (N := N) (es := es) (a := b) (to := a) (i := 0) (j := i) (by omega) h).mono (addE_sub (N := N) (a := a) (b := b))
  rw [hf] at r1
  have hab := addE_has (es := es) ha hb
  by_cases e : i + 1 < (pathL N es b a).length
  · refine ⟨_, addE_sub _ (path_edge e), ?_⟩
    have r2 := (path_rch (N := N) (es := es) (a := b) (to := a) (i := i + 1) (j := (pathL N es b a).length - 1) (by omega) (by omega)).mono (addE_sub (N := N) (a := a) (b := b))
    rw [hl] at r2
    exact (r2.step hab).trans r1
  · have : i = (pathL N es b a).length - 1 := by omega
    rw [this, hl]
    exact ⟨b, hab, by rw [this, hl] at r1; exact r1⟩
theorem path_round {N : Nat} {es : Es} {a b : Int} (ha : valid N a = true) (hb : valid N b = true) {i : Nat} (h : i < (pathL N es b a).length) :
    hasE (addE N es a b) ((pathL N es b a).getD i 0, (pathL N es b a).getD ((i + 1) % (pathL N es b a).length) 0) = true := by
  have hf := path_first (N := N) (es := es) (a := b) (to := a) (by omega)
  have hl := path_last (N := N) (es := es) (a := b) (to := a) (by omega)
  have hm : ∀ e, e ∈ addE N es a b → hasE (addE N es a b) e = true := fun e he => by simpa [hasE] using he
  by_cases e : i + 1 < (pathL N es b a).length
  · rw [Nat.mod_eq_of_lt e]; exact hm _ (addE_sub _ (path_edge e))
  · have e1 : i = (pathL N es b a).length - 1 := by omega
    rw [show i + 1 = (pathL N es b a).length by omega, Nat.mod_self, hf]
    rw [show i = (pathL N es b a).length - 1 by omega, hl]
    exact hm _ (addE_has ha hb)
theorem on_same {N : Nat} {es : Es} (hg : GOk N es) {a b : Int} (ha : valid N a = true) (hb : valid N b = true) (h : ¬ (pathL N es b a).length > 0) : onL N (addE N es a b) = onL N es := by
  have hn : ¬ Rch es b a := fun hr => by
    have : reachB N es b a = true := by unfold reachB; rw [ha, hb, rch_iff.2 hr]; rfl
    rw [← path_pos, decide_eq_true_iff] at this; omega
  unfold onL
  congr 1
  refine List.filter_congr fun x _ => ?_
  rw [Bool.eq_iff_iff]
  constructor
  · intro h'
    obtain ⟨y, h1, h2⟩ := (onB_iff (hg.add a b)).1 h'
    unfold addE at h1 h2
    cases hw : isNew N es a b with
    | false => rw [hw] at h1 h2; exact (onB_iff hg).2 ⟨y, h1, h2⟩
    | true =>
      rw [hw] at h1 h2
      simp only [cond_true] at h1 h2
      rcases List.mem_append.1 h1 with h1 | h1
      · rcases rch_edge h2 with h2 | ⟨h2, h3⟩
        · exact (onB_iff hg).2 ⟨y, h1, h2⟩
        · exact absurd ((h3.step h1).trans h2) hn
      · have e := List.mem_singleton.1 h1
        simp only [Prod.mk.injEq] at e
        obtain ⟨rfl, rfl⟩ := e
        rcases rch_edge h2 with h2 | ⟨h2, h3⟩
        · exact absurd h2 hn
        · exact absurd h2 hn
  · exact onB_add hg
/-! the order -/
def freeB (es : Es) (o : List Int) (a : Int) : Bool := !o.contains a && (outs es a).all fun b => o.contains b
def nextO (N : Nat) (es : Es) (o : List Int) : Option Nat := (List.range N).find? fun a : Nat => freeB es o (a : Int)
def ordN (N : Nat) (es : Es) : Nat → List Int
  | 0 => []
  | k + 1 => match nextO N es (ordN N es k) with
    | some a => ordN N es k ++ [(a : Int)]
    | none => ordN N es k
def ordL (N : Nat) (es : Es) : List Int := ordN N es N
structure OrdOk (N : Nat) (es : Es) (o : List Int) : Prop where
  nodup : o.Nodup
  inn : ∀ x ∈ o, 0 ≤ x ∧ x < N
  closed : ∀ i, i < o.length → ∀ b ∈ outs es (o.getD i 0), ∃ j, j < i ∧ o.getD j 0 = b
theorem OrdOk.nil {N : Nat} {es : Es} : OrdOk N es [] := ⟨List.nodup_nil, fun x hx => (by cases hx), fun i hi => (by simp at hi)⟩
theorem getD_app {o : List Int} {a : Int} {i : Nat} (h : i < o.length) : (o ++ [a]).getD i 0 = o.getD i 0 := by
  simp only [List.getD_eq_getElem?_getD, List.getElem?_append_left h]
theorem getD_app_end {o : List Int} {a : Int} : (o ++ [a]).getD o.length 0 = a := by simp [List.getD]
theorem freeB_iff {es : Es} {o : List Int} {a : Int} : freeB es o a = true ↔ a ∉ o ∧ ∀ b ∈ outs es a, b ∈ o := by
  unfold freeB
  rw [Bool.and_eq_true, Bool.not_eq_true', List.all_eq_true]
  constructor
  · rintro ⟨h1, h2⟩; exact ⟨fun hm => (by rw [List.contains_iff_mem.2 hm] at h1; cases h1), fun b hb => List.contains_iff_mem.1 (h2 b hb)⟩
  · rintro ⟨h1, h2⟩; exact ⟨(by cases hc : o.contains a with | false => rfl | true => exact absurd (List.contains_iff_mem.1 hc) h1), fun b hb => List.contains_iff_mem.2 (h2 b hb)⟩
theorem mem_at {o : List Int} {x : Int} : x ∈ o ↔ ∃ i, i < o.length ∧ o.getD i 0 = x := by
  rw [List.mem_iff_getElem]
  constructor
  · rintro ⟨i, hi, e⟩; exact ⟨i, hi, by simp [List.getD, hi, e]⟩
  · rintro ⟨i, hi, e⟩; exact ⟨i, hi, by simpa [List.getD, hi] using e⟩
theorem OrdOk.add {N : Nat} {es : Es} {o : List Int} (h : OrdOk N es o) {a : Nat} (ha : a < N) (hf : freeB es o (a : Int) = true) : OrdOk N es (o ++ [(a : Int)]) := by
  obtain ⟨h1, h2⟩ := freeB_iff.1 hf
  refine ⟨?_, fun x hx => ?_, fun i hi b hb => ?_⟩
  · rw [List.nodup_append]; exact ⟨h.nodup, by simp, fun x hx y hy => by simp only [List.mem_singleton] at hy; subst hy; intro e; subst e; exact h1 hx⟩
  · rcases List.mem_append.1 hx with hx | hx
    · exact h.inn x hx
    · simp only [List.mem_singleton] at hx; omega
  · rw [List.length_append, List.length_singleton] at hi
    by_cases e : i < o.length
    · rw [getD_app e] at hb
      obtain ⟨j, hj, e2⟩ := h.closed i e b hb
      exact ⟨j, hj, by rw [getD_app (by omega)]; exact e2⟩
    · have : i = o.length := by omega
      subst this
      rw [getD_app_end] at hb
      obtain ⟨j, hj, e2⟩ := mem_at.1 (h2 b hb)
      exact ⟨j, hj, by rw [getD_app hj]; exact e2⟩
theorem ordN_ok (N : Nat) (es : Es) : ∀ k, OrdOk N es (ordN N es k)
  | 0 => .nil
  | k + 1 => by
    rw [ordN]
    cases hn : nextO N es (ordN N es k) with
    | none => exact ordN_ok N es k
    | some a =>
      have := List.find?_some hn
      have hm := List.mem_of_find?_eq_some hn
      exact (ordN_ok N es k).add (List.mem_range.1 hm) this
theorem OrdOk.le {N : Nat} {es : Es} {o : List Int} (h : OrdOk N es o) : o.length ≤ N := nodup_le h.nodup h.inn
theorem ordN_stuck {N : Nat} {es : Es} {k : Nat} (h : nextO N es (ordN N es k) = none) : ∀ m, ordN N es (k + m) = ordN N es k
  | 0 => rfl
  | m + 1 => by rw [← Nat.add_assoc, ordN, ordN_stuck h m, h]
theorem ordL_stuck {N : Nat} {es : Es} {k : Nat} (hk : k ≤ N) (h : nextO N es (ordN N es k) = none) : ordL N es = ordN N es k := by
  have := ordN_stuck h (N - k)
  rw [show k + (N - k) = N by omega] at this; exact this
theorem OrdOk.has {N : Nat} {es : Es} {o : List Int} (h : OrdOk N es o) (hl : o.length = N) {x : Nat} (hx : x < N) : (x : Int) ∈ o := by
  by_cases hm : (x : Int) ∈ o
  · exact hm
  · have h1 : (o ++ [(x : Int)]).Nodup := by
      rw [List.nodup_append]; exact ⟨h.nodup, by simp, fun y hy z hz => by simp only [List.mem_singleton] at hz; subst hz; intro e; subst e; exact hm hy⟩
    have := nodup_le h1 (N := N) fun y hy => by
      rcases List.mem_append.1 hy with hy | hy
      · exact h.inn y hy
      · simp only [List.mem_singleton] at hy; omega
    simp at this; omega
theorem nextO_full {N : Nat} {es : Es} {o : List Int} (h : OrdOk N es o) (hl : o.length = N) : nextO N es o = none := by
  unfold nextO
  rw [List.find?_eq_none]
  intro a ha hf
  exact (freeB_iff.1 hf).1 (h.has hl (List.mem_range.1 ha))
theorem ordN_len {N : Nat} {es : Es} : ∀ k, (∀ j, j < k → nextO N es (ordN N es j) ≠ none) → (ordN N es k).length = k
  | 0, _ => rfl
  | k + 1, h => by
    have ih := ordN_len k (fun j hj => h j (by omega))
    have := h k (by omega)
    rw [ordN]
    cases hn : nextO N es (ordN N es k) with
    | none => exact absurd hn this
    | some a => simp [ih]
/-- complete just if nobody is on a circle -/
theorem rch_pos {N : Nat} {es : Es} {o : List Int} (h : OrdOk N es o) {x y : Int} (hr : Rch es x y) : ∀ i, i < o.length → o.getD i 0 = x → ∃ j, j ≤ i ∧ o.getD j 0 = y := by
  intro i hi e
  induction hr with
  | refl => exact ⟨i, Nat.le_refl _, e⟩
  | step _ he ih =>
    obtain ⟨j, hj, e2⟩ := ih
    obtain ⟨k, hk, e3⟩ := h.closed j (by omega) _ (by rw [e2]; exact mem_outs.2 he)
    exact ⟨k, by omega, e3⟩
theorem OrdOk.inj {N : Nat} {es : Es} {o : List Int} (h : OrdOk N es o) {i j : Nat} (hi : i < o.length) (hj : j < o.length) (e : o.getD i 0 = o.getD j 0) : i = j := by
  have := List.getElem_inj (h₀ := hi) (h₁ := hj) h.nodup
  exact this.1 (by simpa [List.getD, hi, hj] using e)
theorem no_circle {N : Nat} {es : Es} (hg : GOk N es) {o : List Int} (h : OrdOk N es o) (hl : o.length = N) : onL N es = [] := by
  rw [List.eq_nil_iff_forall_not_mem]
  intro x hx
  obtain ⟨h1, h2⟩ := mem_onL.1 hx
  obtain ⟨y, he, hr⟩ := (onB_iff hg).1 h2
  have hm := h.has hl (x := x.toNat) (by omega)
  rw [Int.toNat_of_nonneg h1.1] at hm
  obtain ⟨i, hi, e⟩ := mem_at.1 hm
  obtain ⟨j, hj, e2⟩ := h.closed i hi y (by rw [e]; exact mem_outs.2 he)
  obtain ⟨k, hk, e3⟩ := rch_pos h hr j (by omega) e2
  have := h.inj hi (show k < o.length by omega) (by rw [e, e3]); omega
/-- where everybody of a part has somebody of it behind them there is a circle -/
theorem circle_of {N : Nat} {es : Es} (hg : GOk N es) (p : Int → Prop) (hs : ∀ x, p x → ∃ y, (x, y) ∈ es ∧ p y) {x : Int} (hx : p x) : ∃ y, onB N es y = true := by
  classical
  let s : Int → Int := fun x => if h : p x then (hs x h).choose else x
  have hp : ∀ x, p x → (x, s x) ∈ es ∧ p (s x) := fun x h => by simp only [s, dif_pos h]; exact (hs x h).choose_spec
  let it : Nat → Int := fun k => Nat.rec x (fun _ y => s y) k
  have h1 : ∀ k, p (it k) := fun k => by
    induction k with
    | zero => exact hx
    | succ k ih => exact (hp _ ih).2
  have h2 : ∀ k, (it k, it (k + 1)) ∈ es := fun k => (hp _ (h1 k)).1
  have h3 : ∀ k, 0 ≤ it (k + 1) ∧ it (k + 1) < N := fun k => by have := hg.inn _ (h2 k); exact ⟨this.2.2.1, this.2.2.2⟩
  have h4 : ∀ m k, Rch es (it k) (it (k + m)) := fun m k => by
    induction m with
    | zero => exact .refl
    | succ m ih => exact ih.step (h2 _)
  have hd : ¬ ((List.range (N + 1)).map fun k => it (k + 1)).Nodup := fun h => by
    have := nodup_le h (N := N) (fun y hy => by obtain ⟨k, _, rfl⟩ := List.mem_map.1 hy; exact h3 k)
    simp at this; omega
  rw [List.nodup_iff_pairwise_ne, List.pairwise_iff_getElem] at hd
  have : ∃ i j, i < j ∧ it (i + 1) = it (j + 1) := by
    refine Classical.byContradiction fun hn => hd fun i j hi hj hlt e => hn ⟨i, j, hlt, ?_⟩
    simpa using e
  obtain ⟨i, j, hij, e⟩ := this
  refine ⟨it (i + 1), (onB_iff hg).2 ⟨it (i + 1 + 1), h2 (i + 1), ?_⟩⟩
  have := h4 (j - i - 1) (i + 1 + 1)
  rw [show i + 1 + 1 + (j - i - 1) = j + 1 by omega, ← e] at this
  exact this
theorem circle_stuck {N : Nat} {es : Es} (hg : GOk N es) {o : List Int} (h : OrdOk N es o) (hl : o.length < N) (hn : nextO N es o = none) : onL N es ≠ [] := by
  have hp : ∀ x : Int, (0 ≤ x ∧ x < N) ∧ x ∉ o → ∃ y, (x, y) ∈ es ∧ (0 ≤ y ∧ y < N) ∧ y ∉ o := by
    rintro x ⟨hx, hm⟩
    have := List.find?_eq_none.1 hn x.toNat (List.mem_range.2 (by omega))
    rw [Int.toNat_of_nonneg hx.1] at this
    refine Classical.byContradiction fun hh => this (freeB_iff.2 ⟨hm, fun b hb => Classical.byContradiction fun hb2 => hh ⟨b, mem_outs.1 hb, hg.outs_inn hb, hb2⟩⟩)
  have : ∃ x : Nat, x < N ∧ (x : Int) ∉ o := by
    refine Classical.byContradiction fun hh => ?_
    have hd : ((List.range N).map fun x : Nat => (x : Int)).Nodup := by
      rw [List.nodup_iff_pairwise_ne, List.pairwise_map]
      exact (List.nodup_iff_pairwise_ne.1 List.nodup_range).imp fun hne e => hne (by omega)
    have hp : ((List.range N).map fun x : Nat => (x : Int)).Perm o := (List.perm_ext_iff_of_nodup hd h.nodup).2 fun x => by
      rw [List.mem_map]
      constructor
      · rintro ⟨y, hy, rfl⟩; exact Classical.byContradiction fun hn => hh ⟨y, List.mem_range.1 hy, hn⟩
      · intro hx; have := h.inn x hx; exact ⟨x.toNat, List.mem_range.2 (by omega), by omega⟩
    have h1 := hp.length_eq
    simp at h1; omega
  obtain ⟨x, hx, hm⟩ := this
  obtain ⟨y, hy⟩ := circle_of hg (fun x => (0 ≤ x ∧ x < N) ∧ x ∉ o) hp ⟨⟨by omega, by omega⟩, hm⟩
  intro e
  have hv : 0 ≤ y ∧ y < N := by obtain ⟨z, hz, _⟩ := (onB_iff hg).1 hy; have := hg.inn _ hz; exact ⟨this.1, this.2.1⟩
  have := mem_onL.2 ⟨hv, hy⟩
  rw [e] at this; cases this
/-! the order, as the code has it: how many ends of edges do not stand yet -/
def leftO (es : Es) (o : List Int) (a : Int) : Int := if a ∈ o then -1 else (((outs es a).filter fun b => !o.contains b).length : Nat)
def leftL (N : Nat) (es : Es) (o : List Int) : List Int := (List.range N).map fun a : Nat => leftO es o (a : Int)
theorem leftL_len (N : Nat) (es : Es) (o : List Int) : (leftL N es o).length = N := by simp [leftL]
theorem leftL_get {N : Nat} {es : Es} {o : List Int} {a : Nat} (h : a < N) : (leftL N es o).getD a 0 = leftO es o (a : Int) := by simp [leftL, List.getD, h]
theorem leftO_zero {es : Es} {o : List Int} {a : Int} : leftO es o a = 0 ↔ freeB es o a = true := by
  rw [freeB_iff]; unfold leftO
  constructor
  · intro h
    split at h
    · omega
    · rename_i hm
      refine ⟨hm, fun b hb => ?_⟩
      have h0 : ((outs es a).filter fun b => !o.contains b) = [] := List.eq_nil_of_length_eq_zero (by omega)
      have := List.filter_eq_nil_iff.1 h0 b hb
      simpa using this
  · rintro ⟨h1, h2⟩
    rw [if_neg h1]
    have : ((outs es a).filter fun b => !o.contains b) = [] := List.filter_eq_nil_iff.2 fun b hb => by simpa using h2 b hb
    rw [this]; rfl
theorem leftO_bd {N : Nat} {es : Es} (hg : GOk N es) (o : List Int) (a : Int) : -1 ≤ leftO es o a ∧ leftO es o a ≤ 64 := by
  unfold leftO
  split
  · omega
  · have := List.length_filter_le (fun b => !o.contains b) (outs es a); have := hg.outs_le a; omega
/-- each of these has one less -/
def decL (l bs : List Int) : List Int := bs.foldl (fun l b => l.set b.toNat (l.getD b.toNat 0 - 1)) l
theorem decL_succ {l bs : List Int} {j : Nat} (h : j < bs.length) : decL l (bs.take (j + 1)) = (decL l (bs.take j)).set (bs.getD j 0).toNat ((decL l (bs.take j)).getD (bs.getD j 0).toNat 0 - 1) := by
  unfold decL; rw [take_succ_getD h 0, List.foldl_append]; rfl
theorem decL_len (l bs : List Int) : (decL l bs).length = l.length := by
  unfold decL
  induction bs generalizing l with
  | nil => rfl
  | cons b bs ih => rw [List.foldl_cons, ih, List.length_set]
theorem decL_get {N : Nat} : ∀ (bs l : List Int), l.length = N → bs.Nodup → (∀ b ∈ bs, 0 ≤ b ∧ b < N) → ∀ x : Nat, (decL l bs).getD x 0 = l.getD x 0 - if (x : Int) ∈ bs then 1 else 0
  | [], l, _, _, _, x => by simp [decL]
  | b :: bs, l, hl, hd, hb, x => by
    have hn := List.nodup_cons.1 hd
    have bb := hb b (List.mem_cons_self ..)
    have := decL_get bs (l.set b.toNat (l.getD b.toNat 0 - 1)) (by rw [List.length_set]; exact hl) hn.2 (fun c hc => hb c (List.mem_cons_of_mem _ hc)) x
    show (decL (l.set b.toNat (l.getD b.toNat 0 - 1)) bs).getD x 0 = _
    rw [this, setI (by omega)]
    by_cases e : x = b.toNat
    · have e2 : (x : Int) = b := by omega
      rw [if_pos e, e2, if_neg hn.1, if_pos (List.mem_cons_self ..), ← e]; omega
    · have e2 : (x : Int) ≠ b := by omega
      rw [if_neg e]
      congr 1
      by_cases hm : (x : Int) ∈ bs
      · rw [if_pos hm, if_pos (List.mem_cons_of_mem _ hm)]
      · rw [if_neg hm, if_neg fun h => by rcases List.mem_cons.1 h with h | h; exact e2 h; exact hm h]
theorem filter_less {L o : List Int} {a : Int} (hd : L.Nodup) (ha : a ∉ o) : ((L.filter fun b => !o.contains b).length : Int) - (if a ∈ L then 1 else 0) = ((L.filter fun b => !(o ++ [a]).contains b).length : Int) := by
  induction L with
  | nil => simp
  | cons x L ih =>
    have hn := List.nodup_cons.1 hd
    have ih := ih hn.2
    rw [List.filter_cons, List.filter_cons]
    by_cases e : x = a
    · subst e
      rw [if_neg hn.1] at ih
      have c1 : (!o.contains x) = true := by simpa using ha
      have c2 : (!(o ++ [x]).contains x) = false := by simp
      rw [if_pos c1, c2, if_pos (List.mem_cons_self ..), List.length_cons]; simp only [Bool.false_eq_true, if_false]; omega
    · have c : (!(o ++ [a]).contains x) = (!o.contains x) := by
        rw [Bool.eq_iff_iff]; simp [e]
      have m : (a ∈ x :: L) ↔ a ∈ L := ⟨fun h => by rcases List.mem_cons.1 h with h | h; exact absurd h.symm e; exact h, fun h => List.mem_cons_of_mem _ h⟩
      rw [c]
      by_cases h : (!o.contains x) = true
      · rw [if_pos h, if_pos h, List.length_cons, List.length_cons]; simp only [m]; omega
      · rw [if_neg h, if_neg h]; simp only [m]; exact ih
theorem OrdOk.mem_closed {N : Nat} {es : Es} {o : List Int} (h : OrdOk N es o) {x b : Int} (hx : x ∈ o) (hb : b ∈ outs es x) : b ∈ o := by
  obtain ⟨i, hi, e⟩ := mem_at.1 hx
  obtain ⟨j, hj, e2⟩ := h.closed i hi b (by rw [e]; exact hb)
  exact mem_at.2 ⟨j, by omega, e2⟩
theorem left_step {N : Nat} {es : Es} (hg : GOk N es) {o : List Int} (h : OrdOk N es o) {a : Nat} (ha : a < N) (hf : freeB es o (a : Int) = true) :
    decL ((leftL N es o).set a (-1)) (inns es (a : Int)) = leftL N es (o ++ [(a : Int)]) := by
  obtain ⟨h1, h2⟩ := freeB_iff.1 hf
  have hl := leftL_len N es o
  refine List.ext_getElem (by rw [decL_len, List.length_set, leftL_len, leftL_len]) fun x hx1 hx2 => ?_
  have hx : x < N := by rw [leftL_len] at hx2; exact hx2
  have e1 : (decL ((leftL N es o).set a (-1)) (inns es (a : Int)))[x] = (decL ((leftL N es o).set a (-1)) (inns es (a : Int))).getD x 0 := by rw [List.getD_eq_getElem?_getD, List.getElem?_eq_getElem hx1]; rfl
  have e2 : (leftL N es (o ++ [(a : Int)]))[x] = (leftL N es (o ++ [(a : Int)])).getD x 0 := by rw [List.getD_eq_getElem?_getD, List.getElem?_eq_getElem hx2]; rfl
  rw [e1, e2, decL_get (N := N) _ _ (by rw [List.length_set]; exact hl) (nodup_inns hg.nodup _) (fun b hb => hg.inns_inn hb), setI (by omega), leftL_get hx, leftL_get hx]
  by_cases e : x = a
  · subst e
    have hni : (x : Int) ∉ inns es (x : Int) := fun hm => h1 (h2 _ (mem_outs.2 (mem_inns.1 hm)))
    rw [if_pos rfl, if_neg hni]
    unfold leftO; rw [if_pos (by simp)]; omega
  · rw [if_neg e]
    unfold leftO
    by_cases hm : (x : Int) ∈ o
    · rw [if_pos hm, if_pos (List.mem_append_left _ hm), if_neg]
      · omega
      · intro hi; exact h1 (h.mem_closed hm (mem_outs.2 (mem_inns.1 hi)))
    · have hm2 : ¬ (x : Int) ∈ o ++ [(a : Int)] := fun h' => by
        rcases List.mem_append.1 h' with h' | h'
        · exact hm h'
        · simp only [List.mem_singleton] at h'; omega
      rw [if_neg hm, if_neg hm2]
      have := filter_less (nodup_outs hg.nodup (x : Int)) h1
      rw [← this]
      congr 1
      by_cases hi : (x : Int) ∈ inns es (a : Int)
      · rw [if_pos hi, if_pos (mem_outs.2 (mem_inns.1 hi))]
      · rw [if_neg hi, if_neg (fun h' => hi (mem_inns.2 (mem_outs.1 h')))]
theorem decL_bd {N : Nat} {es : Es} (hg : GOk N es) {o : List Int} (a : Nat) (j x : Nat) (hx : x < N) : -130 ≤ (decL ((leftL N es o).set a (-1)) ((inns es (a : Int)).take j)).getD x 0 ∧ (decL ((leftL N es o).set a (-1)) ((inns es (a : Int)).take j)).getD x 0 ≤ 64 := by
  have hl := leftL_len N es o
  rw [decL_get (N := N) _ _ (by rw [List.length_set]; exact hl) ((nodup_inns hg.nodup _).sublist (List.take_sublist ..)) (fun b hb => hg.inns_inn (List.mem_of_mem_take hb))]
  have h2 := leftO_bd hg o (x : Int)
  have h3 : ((leftL N es o).set a (-1)).getD x 0 = -1 ∨ ((leftL N es o).set a (-1)).getD x 0 = leftO es o (x : Int) := by
    by_cases ha : a < N
    · rw [setI (by omega)]
      by_cases e : x = a
      · rw [if_pos e]; exact .inl rfl
      · rw [if_neg e, leftL_get hx]; exact .inr rfl
    · rw [List.set_eq_of_length_le (by omega), leftL_get hx]; exact .inr rfl
  split <;> rcases h3 with h3 | h3 <;> omega
theorem nextO_some {N : Nat} {es : Es} {o : List Int} {a : Nat} (ha : a < N) (hf : freeB es o (a : Int) = true) (hb : ∀ x : Nat, x < a → ¬ freeB es o (x : Int) = true) : nextO N es o = some a := by
  unfold nextO
  cases h : (List.range N).find? fun a : Nat => freeB es o (a : Int) with
  | none => exact absurd hf (List.find?_eq_none.1 h a (List.mem_range.2 ha))
  | some x =>
    have h1 := List.find?_some h
    obtain ⟨_, as, bs, e, h3⟩ := List.find?_eq_some_iff_append.1 h
    congr 1
    have hlen : (List.range N)[as.length]? = some x := by rw [e]; simp
    have hx : as.length = x := by
      rw [List.getElem?_range] at hlen
      · simpa using hlen
      · have : (List.range N).length = as.length + (bs.length + 1) := by rw [e]; simp
        simp at this; omega
    by_cases hlt : x < a
    · exact absurd h1 (hb x hlt)
    · by_cases hgt : a < x
      · have : (List.range N)[a]? = some a := by rw [List.getElem?_range ha]
        rw [e, List.getElem?_append_left (by omega)] at this
        have hm : a ∈ as := List.mem_of_getElem? this
        have := h3 a hm
        rw [hf] at this; cases this
      · omega
theorem nextO_none {N : Nat} {es : Es} {o : List Int} (hb : ∀ x : Nat, x < N → ¬ freeB es o (x : Int) = true) : nextO N es o = none := by
  unfold nextO; rw [List.find?_eq_none]; exact fun a ha => hb a (List.mem_range.1 ha)
theorem ordN_next {N : Nat} {es : Es} {k a : Nat} (h : nextO N es (ordN N es k) = some a) : ordN N es (k + 1) = ordN N es k ++ [(a : Int)] := by rw [ordN, h]
/-- edges go down alone: the order is that of the numbers -/
theorem ord_down {N : Nat} {es : Es} (hg : GOk N es) (hd : ∀ e ∈ es, e.2 < e.1) : ∀ k, k ≤ N → ordN N es k = (List.range k).map fun i : Nat => (i : Int)
  | 0, _ => rfl
  | k + 1, hk => by
    have ih := ord_down hg hd k (by omega)
    have hm : ∀ x : Int, x ∈ ordN N es k ↔ 0 ≤ x ∧ x < k := fun x => by
      rw [ih, List.mem_map]
      constructor
      · rintro ⟨i, hi, rfl⟩; have := List.mem_range.1 hi; omega
      · intro h; exact ⟨x.toNat, List.mem_range.2 (by omega), by omega⟩
    rw [ordN_next (a := k) (nextO_some (by omega) (freeB_iff.2 ⟨fun h => (by have := (hm _).1 h; omega), fun b hb => (hm b).2 (by have h3 := hd _ (mem_outs.1 hb); have h4 := hg.outs_inn hb; dsimp only at h3; omega)⟩) fun x hx hf => (freeB_iff.1 hf).1 ((hm _).2 (by omega))), ih, List.range_succ, List.map_append]
    rfl
end Go.Proofs.YtppgccafgfpkdaaDoor.Sp
