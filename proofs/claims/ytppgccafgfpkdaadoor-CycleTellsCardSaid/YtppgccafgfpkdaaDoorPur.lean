/- Graphs: plain facts that the laws of chapter 5 want. No program in it. -/
import Derived.Test.YtppgccafgfpkdaaDoorTzn
import Derived.Test.YtppgccafgfpkdaaDoorPln
namespace Go.Proofs.YtppgccafgfpkdaaDoor.Sp
open Go
/-- what is closed under edges, and holds the beginning, holds all that is reached -/
theorem Rch.closed {es : Es} {a b : Int} (p : Int → Bool) (ha : p a = true) (hc : ∀ e ∈ es, p e.1 = true → p e.2 = true) (h : Rch es a b) : p b = true := by
  induction h with
  | refl => exact ha
  | step _ he ih => exact hc _ he ih
def ex2 : Es := [(0, 2), (2, 1)]
theorem ex_02 : Rch ex2 0 2 := Rch.refl.step (by decide)
theorem ex_01 : Rch ex2 0 1 := ex_02.step (by decide)
theorem shown_01 : reachB 4 [(0, 2), (2, 1)] 0 1 = true := by
  unfold reachB; rw [show valid 4 0 = true from rfl, show valid 4 1 = true from rfl]; simp only [Bool.true_and]; exact rch_iff.2 ex_01
theorem shown_10 : reachB 4 [(0, 2), (2, 1)] 1 0 = false := by
  unfold reachB; rw [show valid 4 0 = true from rfl, show valid 4 1 = true from rfl]
  simp only [Bool.true_and]
  cases h : rch [(0, 2), (2, 1)] 1 0 with
  | false => rfl
  | true =>
    have := (rch_iff.1 h).closed (fun i => decide (i = 1)) rfl (by decide)
    simp at this
theorem shown_reach : reachL 4 [(0, 2), (2, 1)] 0 = [0, 1, 2] := by
  have h0 : rch [(0, 2), (2, 1)] 0 0 = true := rch_iff.2 .refl
  have h1 : rch [(0, 2), (2, 1)] 0 1 = true := rch_iff.2 ex_01
  have h2 : rch [(0, 2), (2, 1)] 0 2 = true := rch_iff.2 ex_02
  have h3 : rch [(0, 2), (2, 1)] 0 3 = false := by
    cases h : rch [(0, 2), (2, 1)] 0 3 with
    | false => rfl
    | true =>
      have := (rch_iff.1 h).closed (fun i => decide (i < 3)) rfl (by decide)
      simp at this
  unfold reachL
  rw [show valid 4 0 = true from rfl]
  have e : List.range 4 = [0, 1, 2, 3] := rfl
  rw [cond_true, e]
  simp only [List.filter_cons, List.filter_nil]
  rw [show ((0 : Nat) : Int) = 0 from rfl, show ((1 : Nat) : Int) = 1 from rfl, show ((2 : Nat) : Int) = 2 from rfl, show ((3 : Nat) : Int) = 3 from rfl, h0, h1, h2, h3]
  rfl
def madeE (N : Nat) (l : List (Int × Int)) : Es := l.foldl (fun es e => addE N es e.1 e.2) []
theorem madeE_succ {N : Nat} {l : List (Int × Int)} {k : Nat} (h : k < l.length) : madeE N (l.take (k + 1)) = addE N (madeE N (l.take k)) (l.getD k (0, 0)).1 (l.getD k (0, 0)).2 := by
  rw [take_succ_getD h (0, 0)]; simp [madeE]
theorem reachB_trans {N : Nat} {es : Es} {a b c : Int} (h : reachB N es a b = true) (k : reachB N es b c = true) : reachB N es a c = true := by
  simp only [reachB, Bool.and_eq_true] at h k ⊢
  exact ⟨⟨h.1.1, k.1.2⟩, rch_iff.2 ((rch_iff.1 h.2).trans (rch_iff.1 k.2))⟩
theorem addE_sub {N : Nat} {es : Es} {a b : Int} : ∀ e ∈ es, e ∈ addE N es a b := by
  intro e he; unfold addE
  cases isNew N es a b with
  | false => exact he
  | true => exact List.mem_append_left _ he
theorem reachB_add {N : Nat} {es : Es} {a b x y : Int} (h : reachB N es x y = true) : reachB N (addE N es a b) x y = true := by
  simp only [reachB, Bool.and_eq_true] at h ⊢
  exact ⟨h.1, rch_iff.2 ((rch_iff.1 h.2).mono addE_sub)⟩
theorem reachB_edge {N : Nat} {es : Es} {a b : Int} (hg : GOk N es) (h : hasE es (a, b) = true) : reachB N es a b = true := by
  have hm : (a, b) ∈ es := by simpa [hasE] using h
  have := hg.valid hm
  simp only [reachB, Bool.and_eq_true]
  exact ⟨this, rch_iff.2 (Rch.refl.step hm)⟩
theorem clampN_le (n : Int) : clampN n ≤ 64 := by unfold clampN; omega
theorem GOk.add {N : Nat} {es : Es} (h : GOk N es) (a b : Int) : GOk N (addE N es a b) := by
  unfold addE
  cases hn : isNew N es a b with
  | false => exact h
  | true =>
    simp only [isNew, Bool.and_eq_true, Bool.not_eq_true'] at hn
    exact h.snoc (valid_iff.1 hn.1.1) (valid_iff.1 hn.1.2) (by have := hn.2; simpa using this)
theorem GOk.made {N : Nat} (hN : N ≤ 64) (l : List (Int × Int)) : GOk N (madeE N l) := by
  unfold madeE
  have key : ∀ (l : List (Int × Int)) (es : Es), GOk N es → GOk N (l.foldl (fun es e => addE N es e.1 e.2) es) := by
    intro l
    induction l with
    | nil => exact fun _ h => h
    | cons e l ih => exact fun es h => ih _ (h.add _ _)
  exact key l [] ⟨hN, List.nodup_nil, fun e he => by cases he⟩
end Go.Proofs.YtppgccafgfpkdaaDoor.Sp
