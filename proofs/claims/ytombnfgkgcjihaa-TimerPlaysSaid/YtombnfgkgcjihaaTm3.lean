/- Timers: what is left when Due was asked. No program in it. -/
import Derived.Test.YtombnfgkgcjihaaTm2
set_option linter.unusedVariables false
set_option linter.unusedSimpArgs false
namespace Go.Proofs.Ytombnfgkgcjihaa.Sp
open Go
theorem due_rest (ks : Ks) (t : Int) : ∀ (x : Nat) (k : Int), (duR ks t).getD x none = some k → ks.getD x none = some k ∧ t < k := by
  refine due_ind (P := fun ks => ∀ (x : Nat) (k : Int), (duR ks t).getD x none = some k → ks.getD x none = some k ∧ t < k) t (fun ks h x k e => ?_) (fun ks h ih x k e => ?_) ks
  · rw [(due_no h).2] at e
    refine ⟨e, ?_⟩
    have hc := has_cnt (has_of (ks := ks) (x := (x : Int)) (by omega) (by rw [Int.toNat_natCast]; exact e)).1
    obtain ⟨i, k0, hm⟩ := fst_some hc
    have h1 : ¬ k0 ≤ t := fun h2 => h ⟨hm.fb, by rw [hm.fv]; exact h2⟩
    have h3 := hm.le x k e
    omega
  · rw [(due_yes h).2] at e
    obtain ⟨h1, h2⟩ := ih x k e
    obtain ⟨i, k0, hm⟩ := fst_some (fstB_pos.1 h.1)
    rw [hm.pop, setK (getD_some_lt hm.at_)] at h1
    refine ⟨?_, h2⟩
    split at h1
    · cases h1
    · exact h1
/-! set, and stopped again -/
theorem selI_at {keys : List Int} {gone : List Bool} {n i x : Nat} {k : Int} (e : (selI keys gone n i).getD x none = some k) : x < n ∧ gone.getD x false = false ∧ keys.getD x 0 = k := by
  have hx := getD_some_lt e
  rw [selI_len] at hx
  rw [selI_get hx] at e
  split at e
  · rename_i h; cases e; exact ⟨hx, h.2, rfl⟩
  · cases e
/-- set twice at its own place, i, which nobody holds: the last time holds -/
theorem once_set {keys : List Int} {gone : List Bool} {n i : Nat} (hi : i < n) (k k2 : Int) :
    pushE (remK (selI keys gone n i) (i : Int)) (i : Int) = 0 ∧ pushE (remK (pushK (remK (selI keys gone n i) (i : Int)) (i : Int) k) (i : Int)) (i : Int) = 0 ∧
      pushK (remK (pushK (remK (selI keys gone n i) (i : Int)) (i : Int) k) (i : Int)) (i : Int) k2 = (selI keys gone n i).set i (some k2) := by
  have h1 := tset (ks := selI keys gone n i) (x := (i : Int)) (by rw [selI_len]; omega) k
  have h2 := tset (ks := pushK (remK (selI keys gone n i) (i : Int)) (i : Int) k) (x := (i : Int)) (by rw [pushK_len, remK_len, selI_len]; omega) k2
  refine ⟨h1.1, h2.1, h2.2.trans ?_⟩
  rw [h1.2, Int.toNat_natCast, List.set_set]
theorem once_keep {keys : List Int} {gone : List Bool} {n i : Nat} (hi : i < n) (h : gone.getD i false = false) : (selI keys gone n i).set i (some (keys.getD i 0)) = selI keys gone n (i + 1) ∧ cntK (selI keys gone n (i + 1)) = cntK (selI keys gone n i) + 1 := by
  have hp := selI_push (keys := keys) (gone := gone) hi h
  refine ⟨?_, hp.2.2⟩
  rw [← hp.2.1]; unfold pushK; rw [hp.1]
  show _ = (selI keys gone n i).set (i : Int).toNat _; rw [Int.toNat_natCast]
theorem once_stop {keys : List Int} {gone : List Bool} {n i : Nat} (hi : i < n) (h : gone.getD i false = true) (k : Int) :
    stopB ((selI keys gone n i).set i (some k)) (i : Int) = true ∧ remK ((selI keys gone n i).set i (some k)) (i : Int) = selI keys gone n (i + 1) ∧ stopB (selI keys gone n (i + 1)) (i : Int) = false ∧ remK (selI keys gone n (i + 1)) (i : Int) = selI keys gone n (i + 1) := by
  have hn : (selI keys gone n i).getD i none = none := by rw [selI_get hi, if_neg (by omega)]
  have hg : ((selI keys gone n i).set i (some k)).getD i none = some k := by rw [setK (by rw [selI_len]; exact hi), if_pos rfl]
  have hh := (has_of (ks := (selI keys gone n i).set i (some k)) (x := (i : Int)) (by omega) (by rw [Int.toNat_natCast]; exact hg)).1
  have hs : selI keys gone n (i + 1) = selI keys gone n i := selI_skip h
  have h0 : hasK (selI keys gone n i) (i : Int) = false := has_not (by rw [Int.toNat_natCast]; exact hn)
  refine ⟨?_, ?_, ?_, ?_⟩
  · unfold stopB remE; rw [hh, List.length_set, selI_len, known_iff.2 ⟨by omega, by omega⟩]; rfl
  · unfold remK; rw [hh]
    show ((selI keys gone n i).set i (some k)).set (i : Int).toNat none = _
    rw [Int.toNat_natCast, List.set_set, hs]
    refine ks_ext (n := n) (by rw [List.length_set]; exact selI_len ..) (selI_len ..) fun x hx => ?_
    rw [setK (by rw [selI_len]; exact hi)]
    by_cases e : x = i
    · subst e; rw [if_pos rfl, hn]
    · rw [if_neg e]
  · rw [hs]; unfold stopB remE; rw [h0, selI_len, known_iff.2 ⟨by omega, by omega⟩]; rfl
  · rw [hs]; unfold remK; rw [h0]; rfl
def tmL (l : List Int) : List Int := l.map fun k => k % 200
theorem tmL_get {l : List Int} {i : Nat} (h : i < l.length) : (tmL l).getD i 0 = l.getD i 0 % 200 := by simp [tmL, List.getD, h]
theorem getDb_out {l : List Bool} {i : Nat} (h : l.length ≤ i) : l.getD i false = false := by
  rw [List.getD_eq_getElem?_getD, List.getElem?_eq_none h]; rfl
theorem cnt_noone {ks : Ks} (h : ∀ (x : Nat) (k : Int), ks.getD x none = some k → False) : cntK ks = 0 := by
  rcases Nat.eq_zero_or_pos (cntK ks) with h0 | h0
  · exact h0
  · obtain ⟨i, k, hm⟩ := fst_some h0
    exact absurd hm.at_ fun e => h i k e
end Go.Proofs.Ytombnfgkgcjihaa.Sp
