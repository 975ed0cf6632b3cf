/- Ways, circles and the order as the document tells them: plain facts. No program in it. -/
import Derived.Test.YtppgccafgfpkdaaDoorCyc2
set_option linter.unusedVariables false
set_option linter.unusedSimpArgs false
namespace Go.Proofs.YtppgccafgfpkdaaDoor.Sp
open Go
/-- how far, as the document tells it -/
noncomputable def farV (N : Nat) (es : Es) (a to : Int) : Int := if valid N a = true ∧ valid N to = true then farF es to a else -1
theorem farV_no {N : Nat} {es : Es} {a to : Int} (h : ¬ (valid N a = true ∧ valid N to = true)) : farV N es a to = -1 := if_neg h
theorem farV_yes {N : Nat} {es : Es} {a to : Int} (h1 : 0 ≤ a ∧ a < N) (h2 : 0 ≤ to ∧ to < N) : farV N es a to = farF es to a := if_pos ⟨valid_iff.2 h1, valid_iff.2 h2⟩
def fillN (N i : Nat) : List Int := List.replicate i (-1) ++ List.replicate (N - i) 0
theorem fillN_len {N i : Nat} (h : i ≤ N) : (fillN N i).length = N := by unfold fillN; simp; omega
theorem fillN_next {N i : Nat} (h : i < N) : (fillN N i).set i (-1) = fillN N (i + 1) := by
  unfold fillN
  rw [List.set_append, if_neg (by simp), List.length_replicate, Nat.sub_self, show N - i = (N - (i + 1)) + 1 by omega, List.replicate_succ, List.set_cons_zero, List.replicate_succ']
  simp
theorem fillN_start (N : Nat) : List.replicate N (0 : Int) = fillN N 0 := by unfold fillN; simp
theorem fillN_end (N : Nat) : fillN N N = List.replicate N (-1) := by unfold fillN; simp
/-- in the round r, the first i edges looked at -/
structure RndOk (N : Nat) (es : Es) (to : Int) (r i : Nat) (f : List Int) : Prop where
  len : f.length = N
  low : ∀ a : Nat, a < N → 0 ≤ farF es to (a : Int) → farF es to (a : Int) ≤ r → f.getD a 0 = farF es to (a : Int)
  high : ∀ a : Nat, a < N → ¬ (0 ≤ farF es to (a : Int) ∧ farF es to (a : Int) ≤ r) → (f.getD a 0 = -1 ∧ ∀ j, j < i → (es.getD j (0, 0)).1 = (a : Int) → farF es to (es.getD j (0, 0)).2 ≠ r) ∨ (f.getD a 0 = (r : Int) + 1 ∧ farF es to (a : Int) = (r : Int) + 1)
theorem RndOk.start {N : Nat} {es : Es} {to : Int} (ht : 0 ≤ to ∧ to < N) : RndOk N es to 0 0 ((List.replicate N (-1)).set to.toNat 0) := by
  have hl : (List.replicate N (-1 : Int)).length = N := List.length_replicate
  have g : ∀ a : Nat, a < N → ((List.replicate N (-1 : Int)).set to.toNat 0).getD a 0 = if a = to.toNat then 0 else -1 := fun a ha => by rw [setI (by omega), repI ha]
  refine ⟨by simp, fun a ha h0 h1 => ?_, fun a ha hn => .inl ⟨?_, fun j hj => by omega⟩⟩
  · have := farF_zero (es := es) (to := to) (a := (a : Int)) (by omega)
    rw [g a ha, if_pos (by omega)]; omega
  · rw [g a ha, if_neg]
    intro e
    have : (a : Int) = to := by omega
    rw [this, farF_self] at hn; exact hn ⟨by omega, by omega⟩
theorem RndOk.eq_r {N : Nat} {es : Es} {to : Int} {r i : Nat} {f : List Int} (h : RndOk N es to r i f) {y : Int} (hy : 0 ≤ y ∧ y < N) : f.getD y.toNat 0 = (r : Int) ↔ farF es to y = (r : Int) := by
  have e : ((y.toNat : Nat) : Int) = y := by omega
  by_cases hc : 0 ≤ farF es to y ∧ farF es to y ≤ r
  · have := h.low y.toNat (by omega) (by rw [e]; exact hc.1) (by rw [e]; exact hc.2)
    rw [this, e]
  · rcases h.high y.toNat (by omega) (by rw [e]; exact hc) with ⟨h1, _⟩ | ⟨h1, _⟩
    · rw [h1]; constructor
      · intro; omega
      · intro h2; exact absurd ⟨by omega, by omega⟩ hc
    · rw [h1]; constructor
      · intro; omega
      · intro h2; exact absurd ⟨by omega, by omega⟩ hc
theorem RndOk.yes {N : Nat} {es : Es} {to : Int} {r i : Nat} {f : List Int} (h : RndOk N es to r i f) (hg : GOk N es) (hi : i < es.length) (h1 : f.getD (es.getD i (0, 0)).2.toNat 0 = (r : Int)) (h2 : f.getD (es.getD i (0, 0)).1.toNat 0 < 0) : RndOk N es to r (i + 1) (f.set (es.getD i (0, 0)).1.toNat ((r : Int) + 1)) := by
  have hm : es.getD i (0, 0) ∈ es := by simp [List.getD, hi]
  have hb := hg.inn _ hm
  have hl := h.len
  have hy := (h.eq_r ⟨hb.2.2.1, hb.2.2.2⟩).1 h1
  have hx := farF_edge (to := to) (a := (es.getD i (0, 0)).1) (b := (es.getD i (0, 0)).2) hm (by omega)
  have e : (((es.getD i (0, 0)).1.toNat : Nat) : Int) = (es.getD i (0, 0)).1 := by omega
  have hx2 : farF es to (es.getD i (0, 0)).1 = (r : Int) + 1 := by
    by_cases hc : farF es to (es.getD i (0, 0)).1 ≤ r
    · have := h.low (es.getD i (0, 0)).1.toNat (by omega) (by rw [e]; exact hx.1) (by rw [e]; exact hc)
      rw [e] at this; omega
    · omega
  refine ⟨by rw [List.length_set]; exact hl, fun a ha h0 h3 => ?_, fun a ha hn => ?_⟩
  · rw [setI (by omega), if_neg]
    · exact h.low a ha h0 h3
    · intro e2
      have : (a : Int) = (es.getD i (0, 0)).1 := by omega
      rw [this] at h3; omega
  · rw [setI (by omega)]
    by_cases e2 : a = (es.getD i (0, 0)).1.toNat
    · rw [if_pos e2]; exact .inr ⟨rfl, by rw [show (a : Int) = (es.getD i (0, 0)).1 by omega]; exact hx2⟩
    · rw [if_neg e2]
      rcases h.high a ha hn with ⟨k1, k2⟩ | k
      · refine .inl ⟨k1, fun j hj e3 => ?_⟩
        by_cases e4 : j = i
        · subst e4; omega
        · exact k2 j (by omega) e3
      · exact .inr k
theorem RndOk.no {N : Nat} {es : Es} {to : Int} {r i : Nat} {f : List Int} (h : RndOk N es to r i f) (hg : GOk N es) (hi : i < es.length) (hn : ¬ (f.getD (es.getD i (0, 0)).2.toNat 0 = (r : Int) ∧ f.getD (es.getD i (0, 0)).1.toNat 0 < 0)) : RndOk N es to r (i + 1) f := by
  have hm : es.getD i (0, 0) ∈ es := by simp [List.getD, hi]
  have hb := hg.inn _ hm
  refine ⟨h.len, h.low, fun a ha hc => ?_⟩
  rcases h.high a ha hc with ⟨k1, k2⟩ | k
  · refine .inl ⟨k1, fun j hj e3 e5 => ?_⟩
    by_cases e4 : j = i
    · subst e4
      refine hn ⟨(h.eq_r ⟨hb.2.2.1, hb.2.2.2⟩).2 e5, ?_⟩
      rw [e3, Int.toNat_natCast, k1]; omega
    · exact k2 j (by omega) e3 e5
  · exact .inr k
theorem RndOk.round {N : Nat} {es : Es} {to : Int} {r i : Nat} {f : List Int} (h : RndOk N es to r i f) (hi : es.length ≤ i) : RndOk N es to (r + 1) 0 f := by
  have key : ∀ a : Nat, a < N → farF es to (a : Int) = (r : Int) + 1 → f.getD a 0 = (r : Int) + 1 := fun a ha e => by
    rcases h.high a ha (by omega) with ⟨k1, k2⟩ | ⟨k1, _⟩
    · exfalso
      obtain ⟨b, hb, e2⟩ := farF_step (d := r) (by rw [e]; omega)
      obtain ⟨j, hj, e3⟩ := List.mem_iff_getElem.1 hb
      have e4 : es.getD j (0, 0) = ((a : Int), b) := by simp [List.getD, hj, e3]
      exact k2 j (by omega) (by rw [e4]) (by rw [e4]; exact e2)
    · exact k1
  refine ⟨h.len, fun a ha h0 h1 => ?_, fun a ha hn => .inl ⟨?_, fun j hj => by omega⟩⟩
  · by_cases e : farF es to (a : Int) ≤ r
    · exact h.low a ha h0 e
    · have e2 : farF es to (a : Int) = (r : Int) + 1 := by omega
      rw [key a ha e2, e2]
  · rcases h.high a ha (fun hc => hn ⟨hc.1, by omega⟩) with ⟨k1, _⟩ | ⟨_, k2⟩
    · exact k1
    · exact absurd ⟨by omega, by omega⟩ hn
theorem RndOk.end_ {N : Nat} {es : Es} {to : Int} {i : Nat} {f : List Int} (h : RndOk N es to N i f) (hg : GOk N es) (ht : 0 ≤ to ∧ to < N) : f = farL N es to := by
  refine List.ext_getElem (by rw [h.len, farL_len]) fun a h1 h2 => ?_
  have ha : a < N := by rw [← h.len]; exact h1
  have e1 : f[a] = f.getD a 0 := by simp [List.getD, h1]
  have e2 : (farL N es to)[a] = (farL N es to).getD a 0 := by simp [List.getD, h2]
  rw [e1, e2, farL_get ha]
  have hlt := farF_lt hg (a := (a : Int)) ⟨by omega, by omega⟩ ht
  by_cases hc : 0 ≤ farF es to (a : Int)
  · exact h.low a ha hc (by omega)
  · have := farF_ge es to (a : Int)
    rcases h.high a ha (fun h => hc h.1) with ⟨k1, _⟩ | ⟨_, k2⟩ <;> omega
/-- the first of the first i that is so; -1: none is -/
def NxI (p : Int → Bool) (xs : List Int) (i : Nat) (v : Int) : Prop := (v = -1 ∧ ∀ j, j < i → p (xs.getD j 0) = false) ∨ ∃ j, j < i ∧ v = xs.getD j 0 ∧ p (xs.getD j 0) = true ∧ ∀ m, m < j → p (xs.getD m 0) = false
theorem NxI.zero (p : Int → Bool) (xs : List Int) : NxI p xs 0 (-1) := .inl ⟨rfl, fun j hj => by omega⟩
theorem NxI.new {p : Int → Bool} {xs : List Int} {i : Nat} {v : Int} (h : NxI p xs i v) (hx : ∀ x ∈ xs, 0 ≤ x) (hi : i < xs.length) (hv : v < 0) (hp : p (xs.getD i 0) = true) : NxI p xs (i + 1) (xs.getD i 0) := by
  rcases h with ⟨_, h⟩ | ⟨j, hj, e, _⟩
  · exact .inr ⟨i, by omega, rfl, hp, h⟩
  · have := hx (xs.getD j 0) (by have hj' : j < xs.length := by omega
                                 simp [List.getD, hj']); omega
theorem NxI.no {p : Int → Bool} {xs : List Int} {i : Nat} {v : Int} (h : NxI p xs i v) (hp : p (xs.getD i 0) = false) : NxI p xs (i + 1) v := by
  rcases h with ⟨e, h⟩ | ⟨j, hj, h⟩
  · refine .inl ⟨e, fun m hm => ?_⟩
    by_cases e2 : m = i
    · subst e2; exact hp
    · exact h m (by omega)
  · exact .inr ⟨j, by omega, h⟩
theorem NxI.keep {p : Int → Bool} {xs : List Int} {i : Nat} {v : Int} (h : NxI p xs i v) (hv : ¬ v < 0) : NxI p xs (i + 1) v := by
  rcases h with ⟨e, _⟩ | ⟨j, hj, h⟩
  · omega
  · exact .inr ⟨j, by omega, h⟩
theorem NxI.skip {p : Int → Bool} {xs : List Int} {i : Nat} {v : Int} (h : NxI p xs i v) (hn : ¬ (v < 0 ∧ p (xs.getD i 0) = true)) : NxI p xs (i + 1) v := by
  by_cases hv : v < 0
  · exact h.no (by cases hp : p (xs.getD i 0) with | false => rfl | true => exact absurd ⟨hv, hp⟩ hn)
  · exact h.keep hv
theorem NxI.end_ {p : Int → Bool} {xs : List Int} {i : Nat} {v : Int} (h : NxI p xs i v) (hi : xs.length ≤ i) (hi2 : i ≤ xs.length) (ha : xs.any p = true) : v = xs.getD (idxF p xs).toNat 0 := by
  obtain ⟨h1, h2, h3, _⟩ := idxF_get ha
  rcases h with ⟨_, h⟩ | ⟨j, hj, e, hp, hm⟩
  · have := h (idxF p xs).toNat (by omega); rw [h3] at this; cases this
  · rw [idxF_at (k := j) (by omega) hp hm]; exact e
/-- likewise among the numbers -/
def NxA (p : Nat → Bool) (i : Nat) (v : Int) : Prop := (v = -1 ∧ ∀ j, j < i → p j = false) ∨ ∃ j : Nat, j < i ∧ v = (j : Int) ∧ p j = true ∧ ∀ m, m < j → p m = false
theorem NxA.zero (p : Nat → Bool) : NxA p 0 (-1) := .inl ⟨rfl, fun j hj => by omega⟩
theorem NxA.new {p : Nat → Bool} {i : Nat} {v : Int} (h : NxA p i v) (hv : v < 0) (hp : p i = true) : NxA p (i + 1) (i : Int) := by
  rcases h with ⟨_, h⟩ | ⟨j, hj, e, _⟩
  · exact .inr ⟨i, by omega, rfl, hp, h⟩
  · omega
theorem NxA.no {p : Nat → Bool} {i : Nat} {v : Int} (h : NxA p i v) (hp : p i = false) : NxA p (i + 1) v := by
  rcases h with ⟨e, h⟩ | ⟨j, hj, h⟩
  · refine .inl ⟨e, fun m hm => ?_⟩
    by_cases e2 : m = i
    · subst e2; exact hp
    · exact h m (by omega)
  · exact .inr ⟨j, by omega, h⟩
theorem NxA.keep {p : Nat → Bool} {i : Nat} {v : Int} (h : NxA p i v) (hv : ¬ v < 0) : NxA p (i + 1) v := by
  rcases h with ⟨e, _⟩ | ⟨j, hj, h⟩
  · omega
  · exact .inr ⟨j, by omega, h⟩
theorem NxA.skip {p : Nat → Bool} {i : Nat} {v : Int} (h : NxA p i v) (hn : ¬ (p i = true ∧ v < 0)) : NxA p (i + 1) v := by
  by_cases hv : v < 0
  · exact h.no (by cases hp : p i with | false => rfl | true => exact absurd ⟨hp, hv⟩ hn)
  · exact h.keep hv
/-- who may stand next, the first i edges looked at -/
def mayN (es : Es) (o : List Int) (a : Int) (i : Nat) : Bool := !o.contains a && (es.take i).all fun e => !(e.1 == a) || o.contains e.2
theorem mayN_zero (es : Es) (o : List Int) (a : Int) : mayN es o a 0 = !o.contains a := by unfold mayN; simp
theorem mayN_succ {es : Es} {o : List Int} {a : Int} {i : Nat} (h : i < es.length) : mayN es o a (i + 1) = (mayN es o a i && (!((es.getD i (0, 0)).1 == a) || o.contains (es.getD i (0, 0)).2)) := by
  unfold mayN; rw [take_succ_getD h (0, 0), List.all_append, ← Bool.and_assoc]; simp
theorem mayN_end {es : Es} {o : List Int} {a : Int} {i : Nat} (h : es.length ≤ i) : mayN es o a i = freeB es o a := by
  unfold mayN freeB outs
  rw [List.take_of_length_le h, List.all_map, List.all_filter]
  rfl
def stB (N : Nat) (o : List Int) : List Bool := (List.range N).map fun a : Nat => o.contains (a : Int)
theorem stB_len (N : Nat) (o : List Int) : (stB N o).length = N := by simp [stB]
theorem stB_get {N : Nat} {o : List Int} {a : Nat} (h : a < N) : (stB N o).getD a false = o.contains (a : Int) := by simp [stB, List.getD, h]
theorem stB_at {N : Nat} {o : List Int} {x : Int} (h : 0 ≤ x ∧ x < N) : (stB N o).getD x.toNat false = o.contains x := by rw [stB_get (by omega)]; congr 1; omega
theorem stB_nil (N : Nat) : List.replicate N false = stB N [] := by
  unfold stB; refine List.ext_getElem (by simp) fun i h1 h2 => by simp
theorem stB_add {N : Nat} {o : List Int} {a : Nat} (h : a < N) : (stB N o).set a true = stB N (o ++ [(a : Int)]) := by
  refine List.ext_getElem (by simp [stB]) fun i h1 h2 => ?_
  have hi : i < N := by simpa [stB] using h2
  rw [List.getElem_set]
  unfold stB
  simp only [List.getElem_map, List.getElem_range]
  by_cases e : a = i
  · subst e; simp
  · rw [if_neg e, Bool.eq_iff_iff]; simp; omega
theorem NxA.some {N : Nat} {es : Es} {o : List Int} {v : Int} {i : Nat} (h : NxA (fun a => freeB es o (a : Int)) i v) (hi : i = N) (hv : ¬ v < 0) : 0 ≤ v ∧ v < N ∧ nextO N es o = some v.toNat := by
  subst hi
  rcases h with ⟨e, _⟩ | ⟨j, hj, e, hp, hm⟩
  · omega
  · subst e
    exact ⟨by omega, by omega, by rw [Int.toNat_natCast]; exact nextO_some hj hp fun x hx hf => by have := hm x hx; dsimp only at this; rw [hf] at this; cases this⟩
theorem NxA.none {N : Nat} {es : Es} {o : List Int} {v : Int} {i : Nat} (h : NxA (fun a => freeB es o (a : Int)) i v) (hi : i = N) (hv : v < 0) : nextO N es o = none := by
  subst hi
  rcases h with ⟨_, h⟩ | ⟨j, hj, e, _⟩
  · exact nextO_none fun x hx hf => by have := h x hx; dsimp only at this; rw [hf] at this; cases this
  · omega
end Go.Proofs.YtppgccafgfpkdaaDoor.Sp
