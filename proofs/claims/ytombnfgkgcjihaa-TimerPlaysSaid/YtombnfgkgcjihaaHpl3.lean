/- Heaps: what the laws ask, the last part. No program in it. -/
import Derived.Test.YtombnfgkgcjihaaHpl2
set_option linter.unusedVariables false
set_option linter.unusedSimpArgs false
namespace Go.Proofs.Ytombnfgkgcjihaa.Sp
open Go
/-! keys of which only the bounds are known -/
def BdL (n : Nat) (own : List Int) (lo : Int) : Prop := own.length = n ∧ ∀ x : Nat, x < n → -lo ≤ own.getD x 0 ∧ own.getD x 0 ≤ 4611686018427387904
theorem BdL.zero (n : Nat) : BdL n (List.replicate n 0) 4611686018427387904 := ⟨List.length_replicate, fun x hx => by rw [rep_at hx]; omega⟩
theorem getD_set {l : List Int} {i x : Nat} {v : Int} (hi : i < l.length) : (l.set i v).getD x 0 = if x = i then v else l.getD x 0 := by
  by_cases e : x = i
  · subst e; rw [if_pos rfl]; simp [List.getD, hi]
  · rw [if_neg e]; simp [List.getD, List.getElem?_set, Ne.symm e]
theorem BdL.set {n i : Nat} {own : List Int} {lo lo' v : Int} (h : BdL n own lo) (hi : i < n) (hl : lo ≤ lo') (h1 : -lo' ≤ v) (h2 : v ≤ 4611686018427387904) : BdL n (own.set i v) lo' := by
  refine ⟨by rw [List.length_set]; exact h.1, fun x hx => ?_⟩
  have := h.2 x hx
  have hl := h.1
  rw [getD_set (by omega)]
  split <;> omega
theorem prtK_set {own : List Int} {n i : Nat} {v : Int} : prtK (own.set i v) n i = prtK own n i := by
  unfold prtK
  rw [List.take_set_of_le (Nat.le_refl i)]
theorem cnt_le (ks : Ks) : cntK ks ≤ ks.length := by rw [cntK_count]; exact List.countP_le_length
/-! halves of keys -/
def halK (keys : List Int) : List Int := keys.map fun k => k / 2
theorem halK_len (keys : List Int) : (halK keys).length = keys.length := by simp [halK]
theorem halK_get {keys : List Int} {i : Nat} (h : i < keys.length) : (halK keys).getD i 0 = keys.getD i 0 / 2 := by
  simp [halK, List.getD, h]
theorem halK_push {keys : List Int} {n i : Nat} (hn : n ≤ keys.length) (hi : i < n) : pushE (prtK (halK keys) n i) (i : Int) = 0 ∧ pushK (prtK (halK keys) n i) (i : Int) (bShr .i64 (keys.getD i 0) 1) = prtK (halK keys) n (i + 1) := by
  have h := prtK_push (keys := halK keys) (n := n) (i := i) (by rw [halK_len]; exact hn) hi
  rw [halK_get (by omega)] at h
  rw [shr_one]; exact h
theorem prt_leaA {keys : List Int} {n : Nat} (hn : n ≤ keys.length) : prtK (halK keys) n n = leaK keys (List.replicate n 0) n := by
  refine ks_ext (n := n) (prtK_len (by rw [halK_len]; exact hn) (Nat.le_refl n)) (leaK_len ..) fun x hx => ?_
  rw [prtK_get (by rw [halK_len]; exact hn) (Nat.le_refl n), leaK_get hx, if_pos hx, rep_at hx, halK_get (by omega)]
  simp
end Go.Proofs.Ytombnfgkgcjihaa.Sp
