/- Reaching as a row of bools: plain facts. No program in it. -/
import Derived.Test.YtppgccafgfpkdaaDoorBot
namespace Go.Proofs.YtppgccafgfpkdaaDoor.Sp
open Go
def mkS (l : List Int) : List Bool := (List.range 64).map fun j : Nat => l.contains (j : Int)
theorem mkS_len (l : List Int) : (mkS l).length = 64 := by simp [mkS]
theorem mkS_get (l : List Int) {j : Nat} (h : j < 64) : (mkS l).getD j false = l.contains (j : Int) := by simp [mkS, List.getD, h]
theorem mkS_nil : mkS [] = List.replicate 64 false := by decide
theorem mkS_succ {l : List Int} {k : Nat} (h : k < l.length) (h0 : 0 ≤ l.getD k 0) (_ : l.getD k 0 < 64) : (mkS (l.take k)).set (l.getD k 0).toNat true = mkS (l.take (k + 1)) := by
  rw [take_succ_getD h 0]
  unfold mkS
  apply List.ext_getElem
  · simp
  · intro i h1 h2
    simp only [List.getElem_set, List.getElem_map, List.getElem_range]
    rw [Bool.eq_iff_iff]
    simp only [List.contains_iff_mem, List.mem_append, List.mem_singleton]
    split
    · rename_i e; exact ⟨fun _ => .inr (by omega), fun _ => rfl⟩
    · rename_i e
      rw [List.contains_iff_mem]
      constructor
      · exact .inl
      · rintro (h | h)
        · exact h
        · omega
theorem reachL_bad {N : Nat} {es : Es} {a : Int} (h : ¬ (0 ≤ a ∧ a < N)) : reachL N es a = [] := by
  unfold reachL
  have : valid N a = false := by
    cases hv : valid N a with
    | false => rfl
    | true => exact absurd (valid_iff.1 hv) h
  rw [this, cond_false]
theorem mem_reachL {N : Nat} {es : Es} {a b : Int} : b ∈ reachL N es a ↔ reachB N es a b = true := by
  unfold reachL reachB
  cases hv : valid N a with
  | false => simp
  | true =>
    rw [cond_true]
    simp only [List.mem_map, List.mem_filter, List.mem_range, Bool.true_and, Bool.and_eq_true]
    constructor
    · rintro ⟨i, ⟨hi, hr⟩, rfl⟩; exact ⟨valid_nat hi, hr⟩
    · rintro ⟨h1, h2⟩
      have := valid_iff.1 h1
      exact ⟨b.toNat, ⟨by omega, by rw [Int.toNat_of_nonneg this.1]; exact h2⟩, Int.toNat_of_nonneg this.1⟩
theorem mkS_at {N : Nat} {es : Es} {a b : Int} (h0 : 0 ≤ b) (h1 : b < 64) : (mkS (reachL N es a)).getD b.toNat false = reachB N es a b := by
  rw [mkS_get _ (by omega), Int.toNat_of_nonneg h0, Bool.eq_iff_iff, List.contains_iff_mem, mem_reachL]
theorem mkS_atN {N : Nat} {es : Es} {a : Int} {b : Nat} (h1 : b < 64) : (mkS (reachL N es a)).getD b false = reachB N es a (b : Int) := by
  have := mkS_at (N := N) (es := es) (a := a) (b := (b : Int)) (by omega) (by omega)
  simpa using this
theorem reachL_at {N : Nat} {es : Es} {a : Int} {k : Nat} (h : k < (reachL N es a).length) : 0 ≤ (reachL N es a).getD k 0 ∧ (reachL N es a).getD k 0 < N := by
  have hm : (reachL N es a).getD k 0 ∈ reachL N es a := by simp [List.getD, h]
  have := mem_reachL.1 hm
  simp only [reachB, Bool.and_eq_true] at this
  exact valid_iff.1 this.1.2
theorem reachL_up {N : Nat} {es : Es} {a : Int} : (reachL N es a).Pairwise (· < ·) := by
  unfold reachL
  cases valid N a with
  | false => exact List.Pairwise.nil
  | true =>
    rw [cond_true]
    refine List.Pairwise.map _ (fun x y h => ?_) (List.pairwise_lt_range.sublist List.filter_sublist)
    exact Int.ofNat_lt.2 h
theorem reachL_next {N : Nat} {es : Es} {a : Int} {k : Nat} (h : k < (reachL N es a).length) (h0 : 0 < k) : (reachL N es a).getD ((k : Int) - 1).toNat 0 < (reachL N es a).getD k 0 := by
  have e : ((k : Int) - 1).toNat = k - 1 := by omega
  have := List.pairwise_iff_getElem.1 (reachL_up (N := N) (es := es) (a := a)) (k - 1) k (by omega) h (by omega)
  rw [e]
  have h' : k - 1 < (reachL N es a).length := by omega
  simpa [List.getD, h, h'] using this
theorem outs_bd {N : Nat} {es : Es} (hg : GOk N es) {x : Int} {i : Nat} (h : i < (outs es x).length) : 0 ≤ (outs es x).getD i 0 ∧ (outs es x).getD i 0 < N := by
  have := hg.inn _ (mem_outs_at h); exact ⟨this.2.2.1, this.2.2.2⟩
theorem mem_inns_at {es : Es} {x : Int} {i : Nat} (h : i < (inns es x).length) : ((inns es x).getD i 0, x) ∈ es := by
  rw [← mem_inns]; simp [List.getD, h]
theorem inns_bd {N : Nat} {es : Es} (hg : GOk N es) {x : Int} {i : Nat} (h : i < (inns es x).length) : 0 ≤ (inns es x).getD i 0 ∧ (inns es x).getD i 0 < N := by
  have := hg.inn _ (mem_inns_at h); exact ⟨this.1, this.2.1⟩
theorem onward_at {N : Nat} {es : Es} (hg : GOk N es) {a x : Int} {i : Nat} (h : i < (outs es x).length) (hr : reachB N es a x = true) : reachB N es a ((outs es x).getD i 0) = true :=
  reachB_trans hr (reachB_edge hg (has_at h))
noncomputable def frB (N : Nat) (es : Es) (a : Int) (l : List Int) (x : Int) (k : Nat) : Bool := ((l.take k).any fun y => reachB N es a y && (y != x)) || (x == a)
theorem frB_succ {N : Nat} {es : Es} {a : Int} {l : List Int} {x : Int} {k : Nat} (h : k < l.length) : frB N es a l x (k + 1) = (frB N es a l x k || (reachB N es a (l.getD k 0) && (l.getD k 0 != x))) := by
  unfold frB; rw [take_succ_getD h 0, List.any_append]
  simp only [List.any_cons, List.any_nil, Bool.or_false]
  cases (l.take k).any fun y => reachB N es a y && (y != x) <;> cases (x == a) <;> simp
theorem from_ok {N : Nat} {es : Es} {a x : Int} {k : Nat} (hk : (inns es x).length ≤ k) (hg : GOk N es) (hr : reachB N es a x = true) : frB N es a (inns es x) x k = true := by
  simp only [reachB, Bool.and_eq_true] at hr
  obtain ⟨⟨ha, hx⟩, hr⟩ := hr
  unfold frB
  rw [List.take_of_length_le hk, Bool.or_eq_true]
  by_cases e : x = a
  · right; simpa using e
  left
  have key : ∀ {y : Int}, Rch es a y → y = a ∨ ∃ z, z ≠ y ∧ Rch es a z ∧ (z, y) ∈ es := by
    intro y h
    induction h with
    | refl => exact .inl rfl
    | @step b c hb he ih =>
      by_cases hc : b = c
      · subst hc; exact ih
      · exact .inr ⟨b, hc, hb, he⟩
  rcases key (rch_iff.1 hr) with h | ⟨z, hz, hzr, he⟩
  · exact absurd h e
  · rw [List.any_eq_true]
    refine ⟨z, mem_inns.2 he, ?_⟩
    have hzv := hg.inn _ he
    simp only [reachB, Bool.and_eq_true, bne_iff_ne]
    exact ⟨⟨⟨ha, valid_iff.2 ⟨hzv.1, hzv.2.1⟩⟩, rch_iff.2 hzr⟩, hz⟩
theorem reach_self {N : Nat} {es : Es} {a : Int} (h : 0 ≤ a ∧ a < N) : reachB N es a a = true := by
  unfold reachB; rw [valid_iff.2 h, rch_iff.2 .refl]; rfl
end Go.Proofs.YtppgccafgfpkdaaDoor.Sp
