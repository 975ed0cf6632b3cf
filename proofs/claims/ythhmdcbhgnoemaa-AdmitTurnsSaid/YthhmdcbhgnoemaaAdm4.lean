/- Who came first is active first: plain facts. No program in it. -/
import Derived.Test.YthhmdcbhgnoemaaAdm2
set_option linter.unusedVariables false
set_option linter.unusedSimpArgs false
namespace Go.Proofs.Ythhmdcbhgnoemaa.Sp
open Go
/-- a hundred and k, and so on below a hundred and n -/
def hun (k n : Nat) : List Int := ((List.range n).drop k).map fun i : Nat => 100 + (i : Int)
theorem hun_len (k n : Nat) : (hun k n).length = n - k := by simp [hun]
theorem mem_hun {k n : Nat} {x : Int} : x ∈ hun k n ↔ 100 + (k : Int) ≤ x ∧ x < 100 + (n : Int) := by
  unfold hun
  simp only [List.mem_map, List.mem_drop_iff_getElem, List.getElem_range, List.length_range]
  constructor
  · rintro ⟨i, ⟨j, hj, rfl⟩, rfl⟩; omega
  · intro h; exact ⟨(x - 100).toNat, ⟨(x - 100).toNat - k, by omega, by omega⟩, by omega⟩
theorem hun_succ {k n : Nat} (h : k ≤ n) : hun k (n + 1) = hun k n ++ [100 + (n : Int)] := by
  unfold hun; rw [List.range_succ, List.drop_append_of_le_length (by simpa using h), List.map_append]; rfl
theorem hun_nil {k n : Nat} (h : n ≤ k) : hun k n = [] := by unfold hun; rw [List.drop_of_length_le (by simpa using h)]; rfl
theorem hun_cons {k n : Nat} (h : k < n) : hun k n = (100 + (k : Int)) :: hun (k + 1) n := by
  unfold hun; rw [List.drop_eq_getElem_cons (by simpa using h)]; simp
def fillS (A k : Nat) : AS := ⟨hun 0 (min k A), hun A k⟩
theorem fill_not (A k : Nat) (hA : 1 ≤ A) : 100 + (k : Int) ∉ (fillS A k).a ++ (fillS A k).q := by
  simp only [fillS, List.mem_append, mem_hun]; omega
theorem fill_a {A k : Nat} (h : k < A) : pushA (fillS A k) (100 + (k : Int)) = fillS A (k + 1) := by
  unfold pushA fillS
  rw [show min k A = k by omega, show min (k + 1) A = k + 1 by omega, hun_succ (Nat.zero_le _), hun_nil (by omega : k ≤ A), hun_nil (by omega : k + 1 ≤ A)]
theorem fill_q {A k : Nat} (h : ¬ k < A) : pushQ (fillS A k) (100 + (k : Int)) = fillS A (k + 1) := by
  unfold pushQ fillS
  rw [show min k A = A by omega, show min (k + 1) A = A by omega, hun_succ (by omega)]
theorem fill_add {A Q k : Nat} (hA : 1 ≤ A) (hk : k < A + Q) : addS (A : Int) (Q : Int) (fillS A k) (100 + (k : Int)) = fillS A (k + 1) ∧ addV (A : Int) (Q : Int) (fillS A k) (100 + (k : Int)) = (if k < A then 1 else 0) ∧ addEr (A : Int) (Q : Int) (fillS A k) (100 + (k : Int)) = 0 := by
  have hn := fill_not A k hA
  have hl : (fillS A k).a.length = min k A := by simp [fillS, hun_len]
  have hq : (fillS A k).q.length = k - A := by simp [fillS, hun_len]
  by_cases h : k < A
  · obtain ⟨e1, e2, e3⟩ := add_room (A := (A : Int)) (Q := (Q : Int)) hn (by rw [hl]; omega)
    rw [if_pos h]; exact ⟨e1.trans (fill_a h), e2, e3⟩
  · obtain ⟨e1, e2, e3⟩ := add_queue (A := (A : Int)) (Q := (Q : Int)) hn (by rw [hl]; omega) (by rw [hq]; omega)
    rw [if_neg h]; exact ⟨e1.trans (fill_q h), e2, e3⟩
theorem fill_full {A Q : Nat} (hA : 1 ≤ A) : addS (A : Int) (Q : Int) (fillS A (A + Q)) 99 = fillS A (A + Q) ∧ addV (A : Int) (Q : Int) (fillS A (A + Q)) 99 = 0 ∧ addEr (A : Int) (Q : Int) (fillS A (A + Q)) 99 = 4 := by
  refine add_full ?_ ?_ ?_
  · simp only [fillS, List.mem_append, mem_hun]; omega
  · simp [fillS, hun_len]
  · simp [fillS, hun_len]
theorem fill_ok (k A : Nat) : (((if k < A then (1 : Int) else 0) == 1) != decide ((k : Int) < (A : Int))) = false := by
  by_cases h : k < A
  · rw [if_pos h, decide_eq_true (by omega)]; rfl
  · rw [if_neg h, decide_eq_false (by omega)]; rfl
theorem fill_zero (A : Nat) : fillS A 0 = ⟨[], []⟩ := by unfold fillS; rw [hun_nil (by omega), hun_nil (by omega)]
/-- one goes: who came first comes -/
theorem turn_end {A Q : Int} {s : AS} {k nx M : Nat} (hok : AOk A Q s) (hq : s.q = hun nx M) (hk : k < s.a.length) :
    endEr s (s.a.getD k 0) = 0 ∧ endV s (s.a.getD k 0) = (if nx < M then 100 + (nx : Int) else -1) ∧ (endS s (s.a.getD k 0)).q = hun (nx + 1) M ∧ (endS s (s.a.getD k 0)).a.length + (if nx < M then 0 else 1) = s.a.length := by
  have hm : s.a.getD k 0 ∈ s.a := getD_mem hk
  have hn : s.a.getD k 0 ∉ s.q := fun h => by
    have := hok.nodup; rw [List.nodup_append] at this
    exact this.2.2 _ hm _ h rfl
  have hl := List.length_erase_of_mem hm
  have hp := List.length_pos_of_mem hm
  by_cases h : nx < M
  · have hc := hq.trans (hun_cons h)
    obtain ⟨e1, e2, e3⟩ := end_moves hc hm hn
    rw [e1, e2, e3, if_pos h, if_pos h]
    exact ⟨rfl, rfl, rfl, by rw [List.length_append, hl]; simp only [List.length_cons, List.length_nil]; omega⟩
  · have hc := hq.trans (hun_nil (by omega))
    obtain ⟨e1, e2, e3⟩ := end_alone hc hm
    rw [e1, e2, e3, if_neg h, if_neg h]
    exact ⟨rfl, rfl, (hun_nil (by omega)).symm, by show (s.a.erase _).length + 1 = _; rw [hl]; omega⟩
end Go.Proofs.Ythhmdcbhgnoemaa.Sp
