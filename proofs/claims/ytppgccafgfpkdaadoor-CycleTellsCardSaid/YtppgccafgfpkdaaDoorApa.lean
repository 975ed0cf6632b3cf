/- Two graphs that have nothing to do with each other: plain facts. No program in it. -/
import Derived.Test.YtppgccafgfpkdaaDoorPur
namespace Go.Proofs.YtppgccafgfpkdaaDoor.Sp
open Go
def lowOf (x : Int) (low : Nat) : Int := x % 65536 % (low : Int)
theorem lowOf_eq (x : Int) (low : Nat) : (x % 65536).tmod (low : Int) = lowOf x low := Int.tmod_eq_emod_of_nonneg (by omega)
theorem lowOf_bd (x : Int) (low : Nat) (h : 1 ≤ low) : 0 ≤ lowOf x low ∧ lowOf x low < low := ⟨Int.emod_nonneg _ (by omega), Int.emod_lt_of_pos _ (by omega)⟩
structure HalfOk (N low : Nat) : Prop where
  one : 1 ≤ low
  two : 2 * low ≤ N
  big : N ≤ 64
def halfE (N low : Nat) (l : List (Int × Int)) : Es := l.foldl (fun es e => addE N es (lowOf e.1 low) (lowOf e.2 low)) []
def halfE2 (N low : Nat) (l : List (Int × Int)) : Es := l.foldl (fun es e => addE N es ((low : Int) + lowOf e.1 low) ((low : Int) + lowOf e.2 low)) []
theorem halfE_succ {N low : Nat} {l : List (Int × Int)} {k : Nat} (h : k < l.length) : halfE N low (l.take (k + 1)) = addE N (halfE N low (l.take k)) (lowOf (l.getD k (0, 0)).1 low) (lowOf (l.getD k (0, 0)).2 low) := by
  rw [take_succ_getD h (0, 0)]; simp [halfE]
theorem halfE2_succ {N low : Nat} {l : List (Int × Int)} {k : Nat} (h : k < l.length) : halfE2 N low (l.take (k + 1)) = addE N (halfE2 N low (l.take k)) ((low : Int) + lowOf (l.getD k (0, 0)).1 low) ((low : Int) + lowOf (l.getD k (0, 0)).2 low) := by
  rw [take_succ_getD h (0, 0)]; simp [halfE2]
def shE (low : Nat) (e : Int × Int) : Int × Int := ((low : Int) + e.1, (low : Int) + e.2)
theorem shE_inj {low : Nat} {e f : Int × Int} (h : shE low e = shE low f) : e = f := by
  obtain ⟨a, b⟩ := e; obtain ⟨c, d⟩ := f
  simp only [shE, Prod.mk.injEq] at h ⊢
  omega
theorem addE_map {N low : Nat} (hh : HalfOk N low) (es : Es) {a b : Int} (ha : 0 ≤ a ∧ a < low) (hb : 0 ≤ b ∧ b < low) : addE N (es.map (shE low)) ((low : Int) + a) ((low : Int) + b) = (addE N es a b).map (shE low) := by
  have h2 := hh.two
  have v1 : valid N a = true := valid_iff.2 ⟨by omega, by omega⟩
  have v2 : valid N b = true := valid_iff.2 ⟨by omega, by omega⟩
  have v3 : valid N ((low : Int) + a) = true := valid_iff.2 ⟨by omega, by omega⟩
  have v4 : valid N ((low : Int) + b) = true := valid_iff.2 ⟨by omega, by omega⟩
  have hc : (es.map (shE low)).contains ((low : Int) + a, (low : Int) + b) = es.contains (a, b) := by
    rw [Bool.eq_iff_iff]
    simp only [List.contains_iff_mem, List.mem_map]
    constructor
    · rintro ⟨e, he, h⟩
      have : e = (a, b) := shE_inj (low := low) h
      exact this ▸ he
    · intro h; exact ⟨_, h, rfl⟩
  unfold addE isNew
  rw [v1, v2, v3, v4, hc]
  cases es.contains (a, b) <;> simp [shE]
theorem half_map {N low : Nat} (hh : HalfOk N low) (l : List (Int × Int)) : halfE2 N low l = (halfE N low l).map (shE low) := by
  have key : ∀ (l : List (Int × Int)) (es : Es), l.foldl (fun es e => addE N es ((low : Int) + lowOf e.1 low) ((low : Int) + lowOf e.2 low)) (es.map (shE low)) =
      (l.foldl (fun es e => addE N es (lowOf e.1 low) (lowOf e.2 low)) es).map (shE low) := by
    intro l
    induction l with
    | nil => exact fun _ => rfl
    | cons e l ih =>
      intro es
      rw [List.foldl_cons, List.foldl_cons, addE_map hh es (lowOf_bd _ _ hh.one) (lowOf_bd _ _ hh.one), ih]
  exact key l []
theorem half_inn {N low : Nat} (hh : HalfOk N low) (l : List (Int × Int)) : ∀ e ∈ halfE N low l, (0 ≤ e.1 ∧ e.1 < low) ∧ (0 ≤ e.2 ∧ e.2 < low) := by
  have key : ∀ (l : List (Int × Int)) (es : Es), (∀ e ∈ es, (0 ≤ e.1 ∧ e.1 < (low : Int)) ∧ (0 ≤ e.2 ∧ e.2 < (low : Int))) →
      ∀ e ∈ l.foldl (fun es e => addE N es (lowOf e.1 low) (lowOf e.2 low)) es, (0 ≤ e.1 ∧ e.1 < (low : Int)) ∧ (0 ≤ e.2 ∧ e.2 < (low : Int)) := by
    intro l
    induction l with
    | nil => exact fun _ h => h
    | cons e l ih =>
      intro es h
      rw [List.foldl_cons]
      refine ih _ fun x hx => ?_
      unfold addE at hx
      cases hn : isNew N es (lowOf e.1 low) (lowOf e.2 low) with
      | false => rw [hn] at hx; exact h x hx
      | true =>
        rw [hn, cond_true] at hx
        rcases List.mem_append.1 hx with hx | hx
        · exact h x hx
        · simp only [List.mem_singleton] at hx; subst hx; exact ⟨lowOf_bd _ _ hh.one, lowOf_bd _ _ hh.one⟩
  exact key l [] (fun _ h => by cases h)
theorem half_len {N low : Nat} (hh : HalfOk N low) (l : List (Int × Int)) : (halfE2 N low l).length = (halfE N low l).length := by rw [half_map hh]; simp
theorem rch_map {es : Es} {low : Nat} {a b : Int} (h : Rch es a b) : Rch (es.map (shE low)) ((low : Int) + a) ((low : Int) + b) := by
  induction h with
  | refl => exact .refl
  | step _ he ih => exact ih.step (List.mem_map.2 ⟨_, he, rfl⟩)
theorem rch_unmap {es : Es} {low : Nat} {a x : Int} (h : Rch (es.map (shE low)) ((low : Int) + a) x) : Rch es a (x - low) := by
  induction h with
  | refl => rw [show (low : Int) + a - low = a by omega]; exact .refl
  | step _ he ih =>
    obtain ⟨e, hm, h⟩ := List.mem_map.1 he
    obtain ⟨h1, h2⟩ : (low : Int) + e.1 = _ ∧ (low : Int) + e.2 = _ := by simpa [shE] using h
    subst h1; subst h2
    rw [show (low : Int) + e.1 - low = e.1 by omega] at ih
    rw [show (low : Int) + e.2 - low = e.2 by omega]
    exact ih.step hm
theorem reach_no {N : Nat} {es : Es} {a b : Int} (h : ¬ Rch es a b) : reachB N es a b = false := by
  unfold reachB
  have : rch es a b = false := by
    cases hr : rch es a b with
    | false => rfl
    | true => exact absurd (rch_iff.1 hr) h
  rw [this, Bool.and_false]
theorem half_same {N low : Nat} (hh : HalfOk N low) (l : List (Int × Int)) (a b : Int) : reachB N (halfE2 N low l) ((low : Int) + lowOf a low) ((low : Int) + lowOf b low) = reachB N (halfE N low l) (lowOf a low) (lowOf b low) := by
  have ha := lowOf_bd a low hh.one
  have hb := lowOf_bd b low hh.one
  have h2 := hh.two
  have v1 : valid N (lowOf a low) = true := valid_iff.2 ⟨by omega, by omega⟩
  have v2 : valid N (lowOf b low) = true := valid_iff.2 ⟨by omega, by omega⟩
  have v3 : valid N ((low : Int) + lowOf a low) = true := valid_iff.2 ⟨by omega, by omega⟩
  have v4 : valid N ((low : Int) + lowOf b low) = true := valid_iff.2 ⟨by omega, by omega⟩
  unfold reachB
  rw [v1, v2, v3, v4, half_map hh, Bool.eq_iff_iff]
  simp only [Bool.true_and, rch_iff]
  constructor
  · intro h; have := rch_unmap h; rwa [show (low : Int) + lowOf b low - low = lowOf b low by omega] at this
  · exact rch_map
theorem half_no1 {N low : Nat} (hh : HalfOk N low) (l : List (Int × Int)) (a b : Int) : reachB N (halfE N low l) (lowOf a low) ((low : Int) + lowOf b low) = false := reach_no fun h => by
  have ha := lowOf_bd a low hh.one
  have hb := lowOf_bd b low hh.one
  have := h.closed (fun i => decide (i < low)) (by simp; omega) (fun e he _ => by have := half_inn hh l e he; simp; omega)
  simp at this; omega
theorem half_no2 {N low : Nat} (hh : HalfOk N low) (l : List (Int × Int)) (a b : Int) : reachB N (halfE N low l) ((low : Int) + lowOf a low) (lowOf b low) = false := reach_no fun h => by
  have ha := lowOf_bd a low hh.one
  have hb := lowOf_bd b low hh.one
  have := h.closed (fun i => decide (low ≤ i)) (by simp; omega) (fun e he h => by have := half_inn hh l e he; simp at h; omega)
  simp at this; omega
theorem half_no3 {N low : Nat} (hh : HalfOk N low) (l : List (Int × Int)) (a b : Int) : reachB N (halfE2 N low l) (lowOf a low) ((low : Int) + lowOf b low) = false := reach_no fun h => by
  have ha := lowOf_bd a low hh.one
  have hb := lowOf_bd b low hh.one
  rw [half_map hh] at h
  have := h.closed (fun i => decide (i < low)) (by simp; omega) (fun e he h => by
    obtain ⟨f, hf, rfl⟩ := List.mem_map.1 he
    have := half_inn hh l f hf; exfalso; have h' : (low : Int) + f.1 < low := of_decide_eq_true h; omega)
  simp at this; omega
theorem half_one {N low : Nat} (hh : HalfOk N low) (l : List (Int × Int)) (a : Int) : reachL N (halfE N low l) ((low : Int) + lowOf a low) = [(low : Int) + lowOf a low] := by
  have ha := lowOf_bd a low hh.one
  have h2 := hh.two
  have v : valid N ((low : Int) + lowOf a low) = true := valid_iff.2 ⟨by omega, by omega⟩
  obtain ⟨c, hc⟩ : ∃ c : Nat, (low : Int) + lowOf a low = (c : Int) := ⟨((low : Int) + lowOf a low).toNat, by omega⟩
  unfold reachL
  rw [v, hc, cond_true]
  have hr : ∀ i : Nat, rch (halfE N low l) (c : Int) (i : Int) = decide (i = c) := by
    intro i
    rw [Bool.eq_iff_iff, rch_iff, decide_eq_true_iff]
    constructor
    · intro h
      have := h.closed (fun j => decide (j = (c : Int))) (by simp) (fun e he h => by have := half_inn hh l e he; simp at h; omega)
      simp at this; omega
    · rintro rfl; exact .refl
  simp only [hr]
  have hf : (List.range N).filter (fun i : Nat => decide (i = c)) = [c] := by
    have hlt : c < N := by omega
    have : (List.range N).filter (fun i : Nat => decide (i = c)) = List.replicate ((List.range N).count c) c := by
      rw [← List.filter_eq]
    rw [this, List.count_range, if_pos hlt]; rfl
  rw [hf]; rfl
end Go.Proofs.YtppgccafgfpkdaaDoor.Sp
