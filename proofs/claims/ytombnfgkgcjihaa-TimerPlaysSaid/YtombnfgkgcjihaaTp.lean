/- Timers: one step of the document's row and of the keys. No program in it. -/
import Derived.Test.YtombnfgkgcjihaaTr
set_option linter.unusedVariables false
set_option linter.unusedSimpArgs false
namespace Go.Proofs.Ytombnfgkgcjihaa.Sp
open Go
theorem has_rem (ks : Ks) (x : Int) : hasK (remK ks x) x = false := by
  unfold remK
  cases h : hasK ks x with
  | false => exact h
  | true =>
    have hk := has_key h
    show hasK (ks.set x.toNat none) x = false
    unfold hasK
    rw [setK (getD_some_lt hk.2), if_pos rfl]; simp
theorem rem_at {ks : Ks} {x : Int} (h0 : 0 ≤ x) : (remK ks x).getD x.toNat none = none := by
  have := has_rem ks x
  unfold hasK at this
  rw [decide_eq_true h0, Bool.true_and] at this
  cases h : (remK ks x).getD x.toNat none with
  | none => rfl
  | some k => rw [h] at this; cases this
theorem push_in {ks : Ks} {x : Int} (hx : 0 ≤ x ∧ x < (ks.length : Int)) (t : Int) : pushE (remK ks x) x = 0 ∧ pushK (remK ks x) x t = (remK ks x).set x.toNat (some t) := by
  have h : pushE (remK ks x) x = 0 := by unfold pushE; rw [remK_len, known_iff.2 hx, has_rem]; rfl
  exact ⟨h, by unfold pushK; rw [h]; rfl⟩
theorem push_out {ks : Ks} {x : Int} (hx : ¬ (0 ≤ x ∧ x < (ks.length : Int))) (t : Int) : pushE (remK ks x) x = 1 ∧ pushK (remK ks x) x t = ks := by
  have hn : hasK ks x = false := by
    cases h : hasK ks x with
    | false => rfl
    | true => have hk := has_key h; have := getD_some_lt hk.2; exact absurd ⟨hk.1, by omega⟩ hx
  have hr : remK ks x = ks := by unfold remK; rw [hn]; rfl
  have hkn : known ks.length x = false := by
    cases h : known ks.length x with
    | false => rfl
    | true => exact absurd (known_iff.1 h) hx
  have h : pushE (remK ks x) x = 1 := by unfold pushE; rw [remK_len, hkn]; rfl
  exact ⟨h, by unfold pushK; rw [h]; exact hr⟩
theorem TRow.set {es : List (Int × Int)} {ks : Ks} (h : TRow es ks) {x : Int} (hx : 0 ≤ x ∧ x < (ks.length : Int)) (t : Int) : TRow (insT (x, t) (es.filter fun e => e.1 != x)) (pushK (remK ks x) x t) := by
  rw [(push_in hx t).2]
  exact (h.stop x).ins (by rw [remK_len]; exact hx) t (rem_at hx.1)
theorem cnt_remK (ks : Ks) (x : Int) : cntK (remK ks x) = if hasK ks x = true then cntK ks - 1 else cntK ks := by
  unfold remK
  cases h : hasK ks x with
  | false => rfl
  | true =>
    have hk := has_key h
    have := cnt_none hk.2
    show cntK (ks.set x.toNat none) = _
    rw [if_pos rfl]; omega
theorem TRow.stopB {es : List (Int × Int)} {ks : Ks} (h : TRow es ks) (x : Int) : decide ((((es.filter fun e => e.1 != x).length : Nat) : Int) < ((es.length : Nat) : Int)) = Sp.stopB ks x := by
  have h1 := (h.stop x).len; have h2 := h.len; have h3 := cnt_remK ks x
  rw [h1, h2, h3]
  unfold Sp.stopB remE
  cases hh : hasK ks x with
  | false =>
    rw [if_neg (by decide)]
    cases known ks.length x <;> simp
  | true =>
    have hk := has_key hh
    have hl := getD_some_lt hk.2
    have := cnt_none hk.2
    rw [if_pos rfl, known_iff.2 ⟨hk.1, by omega⟩]
    simp
    omega
theorem TRow.nextB {es : List (Int × Int)} {ks : Ks} (h : TRow es ks) : fstB ks = decide (((es.length : Nat) : Int) > 0) := by
  rw [Bool.eq_iff_iff, fstB_pos, ← h.len, decide_eq_true_eq]; omega
theorem TRow.nextV {es : List (Int × Int)} {ks : Ks} (h : TRow es ks) (hb : fstB ks = true) : fstV ks = (es.getD 0 (0, 0)).2 ∧ 0 < es.length := by
  cases es with
  | nil => have := fstB_pos.1 hb; have := h.empty; omega
  | cons e es => exact ⟨h.first.1.fv, by simp⟩
theorem TRow.le {es : List (Int × Int)} {ks : Ks} (h : TRow es ks) : es.length ≤ ks.length := by
  rw [h.len]; unfold cntK; exact List.length_filter_le _ _
theorem duR_len (ks : Ks) (t : Int) : (duR ks t).length = ks.length :=
  due_ind (P := fun ks => (duR ks t).length = ks.length) t (fun ks h => by rw [(due_no h).2]) (fun ks h ih => by
    rw [(due_yes h).2, ih]; unfold popK; split <;> simp) ks
theorem clamp_in {n x : Int} : (0 ≤ x ∧ x < min n 65536) ↔ (0 ≤ x ∧ x < ((hclamp n : Nat) : Int)) := by unfold hclamp; omega
end Go.Proofs.Ytombnfgkgcjihaa.Sp
