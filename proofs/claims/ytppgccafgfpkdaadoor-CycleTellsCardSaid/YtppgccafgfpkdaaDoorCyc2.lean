/- Ways, circles and the order: what the laws ask. No program in it. -/
import Derived.Test.YtppgccafgfpkdaaDoorCyc
set_option linter.unusedVariables false
set_option linter.unusedSimpArgs false
namespace Go.Proofs.YtppgccafgfpkdaaDoor.Sp
open Go
theorem ordL_ok (N : Nat) (es : Es) : OrdOk N es (ordL N es) := ordN_ok N es N
def ordR (N : Nat) (es : Es) : List Int := if (ordL N es).length = N then ordL N es else []
def ordB (N : Nat) (es : Es) : Bool := decide ((ordL N es).length = N)
theorem ordR_ok (N : Nat) (es : Es) : OrdOk N es (ordR N es) := by
  unfold ordR; split
  · exact ordL_ok N es
  · exact .nil
theorem ordR_t {N : Nat} {es : Es} (h : ordB N es = true) : (ordR N es).length = N := by
  have := of_decide_eq_true h
  unfold ordR; rw [if_pos this]; exact this
theorem ordR_f {N : Nat} {es : Es} (h : ordB N es = false) : (ordR N es).length = 0 := by
  have := of_decide_eq_false h
  unfold ordR; rw [if_neg this]; rfl
/-- there is an order just if nobody is on a circle -/
theorem ord_on {N : Nat} {es : Es} (hg : GOk N es) : ordB N es = (((onL N es).length : Int) == 0) := by
  cases h : ordB N es with
  | true =>
    have := no_circle hg (ordR_ok N es) (ordR_t h)
    rw [this]; rfl
  | false =>
    have h1 := of_decide_eq_false h
    have h2 := (ordL_ok N es).le
    have hn : nextO N es (ordL N es) = none := by
      cases hx : nextO N es (ordL N es) with
      | none => rfl
      | some a =>
        exfalso
        have key : ∀ j, j < N → nextO N es (ordN N es j) ≠ none := fun j hj e => by
          have := ordL_stuck (Nat.le_of_lt hj) e
          rw [this, e] at hx; cases hx
        exact h1 (ordN_len N key)
    have := circle_stuck hg (ordL_ok N es) (by omega) hn
    symm; rw [beq_eq_false_iff_ne]
    intro e
    exact this (List.eq_nil_of_length_eq_zero (by omega))
theorem rem_nat (a b : Nat) : Int.tmod (a : Int) (b : Int) = ((a % b : Nat) : Int) := rfl
/-- the places of those that stand -/
structure PlN (o : List Int) (i : Nat) (pl : List Int) : Prop where
  len : pl.length = 64
  at_ : ∀ t : Nat, t < 64 → (∃ j, j < i ∧ o.getD j 0 = (t : Int) ∧ pl.getD t 0 = (j : Int) + 1) ∨ (pl.getD t 0 = 0 ∧ ∀ j, j < i → o.getD j 0 ≠ (t : Int))
theorem PlN.zero (o : List Int) : PlN o 0 (List.replicate 64 0) := ⟨List.length_replicate, fun t ht => .inr ⟨repI ht, fun j hj => by omega⟩⟩
theorem PlN.free {N : Nat} {es : Es} {o pl : List Int} {i : Nat} (h : PlN o i pl) (ho : OrdOk N es o) (hN : N ≤ 64) (hi : i < o.length) : pl.getD (o.getD i 0).toNat 0 = 0 := by
  have hb := ho.inn (o.getD i 0) (by simp [List.getD, hi])
  rcases h.at_ (o.getD i 0).toNat (by omega) with ⟨j, hj, e, _⟩ | ⟨e, _⟩
  · have := ho.inj (i := j) (j := i) (by omega) hi (by omega); omega
  · exact e
theorem PlN.next {N : Nat} {es : Es} {o pl : List Int} {i : Nat} (h : PlN o i pl) (ho : OrdOk N es o) (hN : N ≤ 64) (hi : i < o.length) : PlN o (i + 1) (pl.set (o.getD i 0).toNat ((i : Int) + 1)) := by
  have hb := ho.inn (o.getD i 0) (by simp [List.getD, hi])
  have hl := h.len
  refine ⟨by rw [List.length_set]; exact hl, fun t ht => ?_⟩
  rw [setI (by omega)]
  by_cases e : t = (o.getD i 0).toNat
  · rw [if_pos e]; exact .inl ⟨i, by omega, by omega, rfl⟩
  · rw [if_neg e]
    rcases h.at_ t ht with ⟨j, hj, h2⟩ | ⟨h1, h2⟩
    · exact .inl ⟨j, by omega, h2⟩
    · refine .inr ⟨h1, fun j hj e2 => ?_⟩
      by_cases e3 : j = i
      · subst e3; omega
      · exact h2 j (by omega) e2
theorem PlN.lt {N : Nat} {es : Es} {o pl : List Int} (h : PlN o o.length pl) (ho : OrdOk N es o) (hN : N ≤ 64) (hl : o.length = N) {x : Nat} (hx : x < N) {b : Int} (hb : b ∈ outs es (x : Int)) : pl.getD b.toNat 0 < pl.getD x 0 := by
  obtain ⟨ix, hix, ex⟩ := mem_at.1 (ho.has hl hx)
  obtain ⟨jb, hjb, eb⟩ := ho.closed ix hix b (by rw [ex]; exact hb)
  have hbi := ho.inn b (mem_at.2 ⟨jb, by omega, eb⟩)
  have p1 : pl.getD x 0 = (ix : Int) + 1 := by
    rcases h.at_ x (by omega) with ⟨j, hj, e, e2⟩ | ⟨_, h2⟩
    · have := ho.inj (i := j) (j := ix) hj hix (by omega); omega
    · exact absurd ex (h2 ix hix)
  have p2 : pl.getD b.toNat 0 = (jb : Int) + 1 := by
    rcases h.at_ b.toNat (by omega) with ⟨j, hj, e, e2⟩ | ⟨_, h2⟩
    · have := ho.inj (i := j) (j := jb) hj (by omega) (by omega); omega
    · exact absurd (show o.getD jb 0 = ((b.toNat : Nat) : Int) by omega) (h2 jb (by omega))
  omega
theorem getD_mem0 {l : List Int} {i : Nat} (h : i < l.length) : l.getD i 0 ∈ l := by simp [List.getD, h]
theorem ord_at {N : Nat} {es : Es} {o : List Int} (ho : OrdOk N es o) {i : Nat} (hi : i < o.length) : 0 ≤ o.getD i 0 ∧ o.getD i 0 < N := ho.inn _ (getD_mem0 hi)
theorem path_has {N : Nat} {es : Es} {a to : Int} {i : Nat} (h0 : 0 < i) (h : i < (pathL N es a to).length) : hasE es ((pathL N es a to).getD (i - 1) 0, (pathL N es a to).getD i 0) = true := by
  have := path_edge (N := N) (es := es) (a := a) (to := to) (i := i - 1) (by omega)
  rw [show i - 1 + 1 = i by omega] at this
  simpa [hasE] using this
/-- marks over sixty-four -/
structure MkB (L : List Int) (i : Nat) (bs : List Bool) : Prop where
  len : bs.length = 64
  at_ : ∀ t : Nat, bs.getD t false = true ↔ ∃ j, j < i ∧ L.getD j 0 = (t : Int) ∧ t < 64
theorem repB (t : Nat) : (List.replicate 64 false).getD t false = false := by
  simp only [List.getD_eq_getElem?_getD, List.getElem?_replicate]; split <;> rfl
theorem MkB.zero (L : List Int) : MkB L 0 (List.replicate 64 false) := ⟨List.length_replicate, fun t => ⟨fun h => (by rw [repB] at h; cases h), fun ⟨j, hj, _⟩ => (by omega)⟩⟩
theorem MkB.next {L : List Int} {i : Nat} {bs : List Bool} (h : MkB L i bs) (h0 : 0 ≤ L.getD i 0) (h1 : L.getD i 0 < 64) : MkB L (i + 1) (bs.set (L.getD i 0).toNat true) := by
  have hl := h.len
  refine ⟨by rw [List.length_set]; exact hl, fun t => ?_⟩
  by_cases e : (L.getD i 0).toNat = t
  · constructor
    · intro _; exact ⟨i, by omega, by omega, by omega⟩
    · intro _; rw [List.getD_eq_getElem?_getD, List.getElem?_set, if_pos e, if_pos (by omega)]; rfl
  · rw [List.getD_eq_getElem?_getD, List.getElem?_set, if_neg e, ← List.getD_eq_getElem?_getD, h.at_]
    constructor
    · rintro ⟨j, hj, h2⟩; exact ⟨j, by omega, h2⟩
    · rintro ⟨j, hj, h2, h3⟩
      by_cases e2 : j = i
      · subst e2; omega
      · exact ⟨j, by omega, h2, h3⟩
theorem MkB.has {L : List Int} {bs : List Bool} {n : Nat} (h : MkB L n bs) (hn : L.length ≤ n) {x : Int} (hx : x ∈ L) (h0 : 0 ≤ x ∧ x < 64) : bs.getD x.toNat false = true := by
  obtain ⟨i, hi, e⟩ := mem_at.1 hx
  exact (h.at_ _).2 ⟨i, by omega, by omega, by omega⟩
theorem close_mark {N : Nat} {es : Es} {a b : Int} {bs : List Bool} {n i : Nat} (hg : GOk N es) (ha : valid N a = true) (hb : valid N b = true) (h : MkB (onL N (addE N es a b)) n bs) (hn : (onL N (addE N es a b)).length ≤ n) (hi : i < (pathL N es b a).length) : bs.getD ((pathL N es b a).getD i 0).toNat false = true := by
  have h1 := path_in hg hi
  have h2 := hg.small
  exact h.has hn (mem_onL.2 ⟨h1, on_closed hg ha hb hi⟩) (by omega)
theorem was_mark {N : Nat} {es : Es} {a b : Int} {bs : List Bool} {n i : Nat} (hg : GOk N es) (h : MkB (onL N (addE N es a b)) n bs) (hn : (onL N (addE N es a b)).length ≤ n) (hi : i < (onL N es).length) : bs.getD ((onL N es).getD i 0).toNat false = true := by
  have h1 := onL_in hi
  have h2 := hg.small
  refine h.has hn (mem_onL.2 ⟨h1, onB_add hg (mem_onL.1 (getD_mem0 hi)).2⟩) (by omega)
/-! edges that go down -/
def dnE (e : Int × Int) : Int × Int := (max e.1 e.2, min e.1 e.2)
def dnL (l : List (Int × Int)) : List (Int × Int) := (l.filter fun e => decide (¬ e.1 = e.2)).map dnE
theorem dnL_yes {l : List (Int × Int)} {i : Nat} (h : i < l.length) (hn : ¬ (l.getD i (0, 0)).1 = (l.getD i (0, 0)).2) : dnL (l.take (i + 1)) = dnL (l.take i) ++ [(max (l.getD i (0, 0)).1 (l.getD i (0, 0)).2, min (l.getD i (0, 0)).1 (l.getD i (0, 0)).2)] := by
  unfold dnL; rw [take_succ_getD h (0, 0), List.filter_append, List.map_append, List.filter_cons, if_pos (decide_eq_true hn)]; rfl
theorem dnL_no {l : List (Int × Int)} {i : Nat} (h : i < l.length) (hn : (l.getD i (0, 0)).1 = (l.getD i (0, 0)).2) : dnL (l.take (i + 1)) = dnL (l.take i) := by
  unfold dnL; rw [take_succ_getD h (0, 0), List.filter_append, List.map_append, List.filter_cons, if_neg (by simpa using hn)]; simp
theorem dnL_len (l : List (Int × Int)) : (dnL l).length ≤ l.length := by unfold dnL; rw [List.length_map]; exact List.length_filter_le _ _
theorem dnL_down {l : List (Int × Int)} : ∀ e ∈ dnL l, e.2 < e.1 := fun e he => by
  obtain ⟨x, hx, rfl⟩ := List.mem_map.1 he
  have := of_decide_eq_true (List.mem_filter.1 hx).2
  unfold dnE; dsimp only; omega
theorem madeE_sub {N : Nat} {l : List (Int × Int)} : ∀ e ∈ madeE N l, e ∈ l := by
  unfold madeE
  have key : ∀ (l : List (Int × Int)) (es : Es) (e : Int × Int), e ∈ l.foldl (fun es e => addE N es e.1 e.2) es → e ∈ es ∨ e ∈ l := by
    intro l
    induction l with
    | nil => exact fun es e h => .inl h
    | cons x l ih =>
      intro es e h
      rcases ih _ e h with h | h
      · dsimp only at h; unfold addE at h
        cases hn : isNew N es x.1 x.2 with
        | false => rw [hn] at h; exact .inl h
        | true =>
          rw [hn, cond_true] at h
          rcases List.mem_append.1 h with h | h
          · exact .inl h
          · exact .inr (by rw [List.mem_singleton.1 h]; exact List.mem_cons_self ..)
      · exact .inr (List.mem_cons_of_mem _ h)
  intro e he
  rcases key l [] e he with h | h
  · cases h
  · exact h
theorem down_ord {N : Nat} {l : List (Int × Int)} (hN : N ≤ 64) {k : Nat} : ordL N (madeE N ((dnL l).take k)) = (List.range N).map fun i : Nat => (i : Int) := by
  unfold ordL
  exact ord_down (GOk.made hN _) (fun e he => dnL_down e (List.mem_of_mem_take (madeE_sub e he))) N (Nat.le_refl _)
theorem down_B {N : Nat} {l : List (Int × Int)} (hN : N ≤ 64) {k : Nat} : ordB N (madeE N ((dnL l).take k)) = true := by
  unfold ordB; rw [down_ord hN]; simp
theorem down_at {N : Nat} {l : List (Int × Int)} (hN : N ≤ 64) {k i : Nat} (hi : i < N) : (ordR N (madeE N ((dnL l).take k))).getD i 0 = (i : Int) := by
  unfold ordR; rw [down_ord hN, if_pos (by simp)]; simp [List.getD, hi]
theorem down_on {N : Nat} {l : List (Int × Int)} (hN : N ≤ 64) {k : Nat} : onL N (madeE N ((dnL l).take k)) = [] :=
  no_circle (GOk.made hN _) (ordR_ok _ _) (ordR_t (down_B hN))
/-! what is shown -/
def C1 : Es := [(0, 1), (1, 2)]
def C2 : Es := [(0, 1), (1, 2), (2, 0)]
theorem c1_ord : ordR 3 C1 = [2, 1, 0] := by decide
theorem c1_ordB : ordB 3 C1 = true := by decide
theorem c2_ordB : ordB 3 C2 = false := by decide
theorem c1_add : addE 3 C1 2 0 = C2 := by decide
theorem c1_far : farF C1 2 0 = ((1 + 1 : Nat) : Int) := farF_eq (.cons (b := 1) (by decide) (.cons (b := 2) (by decide) .nil)) fun k hk => by
  cases k with
  | zero => have := hk.zero; omega
  | succ k =>
    cases k with
    | zero =>
      obtain ⟨b, hb, hw⟩ := hk.succ
      have := hw.zero; subst this
      simp [C1] at hb
    | succ k => omega
theorem c1_path : pathL 3 C1 0 2 = [0, 1, 2] := by
  have h := nxt_ok c1_far
  have e1 : nxtF C1 2 0 = 1 := by have := h.1; simp [C1] at this; exact this
  have h2 := h.2
  rw [e1] at h2
  have h3 := nxt_ok (es := C1) (to := 2) (a := 1) (d := 0) h2
  have e2 : nxtF C1 2 1 = 2 := by have := h3.1; simp [C1] at this; exact this
  unfold pathL
  rw [if_pos ⟨rfl, rfl, by rw [c1_far]; omega⟩, c1_far]
  show [0, nxtF C1 2 0, nxtF C1 2 (nxtF C1 2 0)] = _
  rw [e1, e2]
theorem c1_none : pathL 3 C1 2 0 = [] := by
  unfold pathL
  rw [if_neg]
  rintro ⟨_, _, h⟩
  have := (farF_rch.1 h).closed (fun i => decide (i = 2)) rfl (by decide)
  simp at this
theorem c2_on : onL 3 C2 = [0, 1, 2] := by
  have e01 : Rch C2 0 1 := Rch.refl.step (by decide)
  have e12 : Rch C2 1 2 := Rch.refl.step (by decide)
  have e20 : Rch C2 2 0 := Rch.refl.step (by decide)
  have hr : ∀ a b : Int, Rch C2 a b → rch C2 a b = true := fun a b h => rch_iff.2 h
  unfold onL
  have e : List.range 3 = [0, 1, 2] := rfl
  rw [e]
  have h0 : onB 3 C2 ((0 : Nat) : Int) = true := by
    unfold onB; rw [show outs C2 ((0 : Nat) : Int) = [1] from rfl]; unfold reachB; rw [List.any_cons, hr 1 ((0 : Nat) : Int) (e12.trans e20)]; rfl
  have h1 : onB 3 C2 ((1 : Nat) : Int) = true := by
    unfold onB; rw [show outs C2 ((1 : Nat) : Int) = [2] from rfl]; unfold reachB; rw [List.any_cons, hr 2 ((1 : Nat) : Int) (e20.trans e01)]; rfl
  have h2 : onB 3 C2 ((2 : Nat) : Int) = true := by
    unfold onB; rw [show outs C2 ((2 : Nat) : Int) = [0] from rfl]; unfold reachB; rw [List.any_cons, hr 0 ((2 : Nat) : Int) (e01.trans e12)]; rfl
  simp only [List.filter_cons, List.filter_nil, h0, h1, h2, if_true]
  rfl
end Go.Proofs.YtppgccafgfpkdaaDoor.Sp
