/- Timers: whose time has come, in the order in which it came. No program in it. -/
import Derived.Test.YtombnfgkgcjihaaHpl3
set_option linter.unusedVariables false
set_option linter.unusedSimpArgs false
namespace Go.Proofs.Ytombnfgkgcjihaa.Sp
open Go
def dueF : Nat → Ks → Int → List Int
  | 0, _, _ => []
  | f + 1, ks, t => bif fstB ks && decide (fstV ks ≤ t) then fstI ks :: dueF f (popK ks) t else []
def resF : Nat → Ks → Int → Ks
  | 0, ks, _ => ks
  | f + 1, ks, t => bif fstB ks && decide (fstV ks ≤ t) then resF f (popK ks) t else ks
def dueL (ks : Ks) (t : Int) : List Int := dueF (cntK ks) ks t
def duR (ks : Ks) (t : Int) : Ks := resF (cntK ks) ks t
theorem fstB_pos {ks : Ks} : fstB ks = true ↔ 0 < cntK ks := by rw [fst_cnt]; constructor <;> intro h <;> simp_all
theorem due_no {ks : Ks} {t : Int} (h : ¬ (fstB ks = true ∧ fstV ks ≤ t)) : dueL ks t = [] ∧ duR ks t = ks := by
  have e : (fstB ks && decide (fstV ks ≤ t)) = false := by
    cases h1 : fstB ks with
    | false => rfl
    | true => exact decide_eq_false fun h2 => h ⟨h1, h2⟩
  unfold dueL duR
  cases cntK ks with
  | zero => exact ⟨rfl, rfl⟩
  | succ f => exact ⟨by show (bif _ then _ else _) = _; rw [e]; rfl, by show (bif _ then _ else _) = _; rw [e]; rfl⟩
theorem due_yes {ks : Ks} {t : Int} (h : fstB ks = true ∧ fstV ks ≤ t) : dueL ks t = fstI ks :: dueL (popK ks) t ∧ duR ks t = duR (popK ks) t := by
  have e : (fstB ks && decide (fstV ks ≤ t)) = true := by rw [h.1, decide_eq_true h.2]; rfl
  have hc := cnt_pop (fstB_pos.1 h.1)
  unfold dueL duR
  rw [show cntK ks = cntK (popK ks) + 1 by omega]
  exact ⟨by show (bif _ then _ else _) = _; rw [e]; rfl, by show (bif _ then _ else _) = _; rw [e]; rfl⟩
/-- what is true of a heap out of which nothing is due, and of one whenever it is of the heap with its first gone, is true of all -/
theorem due_ind {P : Ks → Prop} (t : Int) (h0 : ∀ ks, ¬ (fstB ks = true ∧ fstV ks ≤ t) → P ks) (h1 : ∀ ks, fstB ks = true ∧ fstV ks ≤ t → P (popK ks) → P ks) (ks : Ks) : P ks := by
  obtain ⟨m, hm⟩ : ∃ m, cntK ks = m := ⟨_, rfl⟩
  induction m generalizing ks with
  | zero => exact h0 ks fun h => by have := fstB_pos.1 h.1; omega
  | succ m ih =>
    by_cases h : fstB ks = true ∧ fstV ks ≤ t
    · exact h1 ks h (ih _ (by have := (cnt_pop (fstB_pos.1 h.1)).2; omega))
    · exact h0 ks h
theorem due_cnt (ks : Ks) (t : Int) : (dueL ks t).length + cntK (duR ks t) = cntK ks := by
  refine due_ind (P := fun ks => (dueL ks t).length + cntK (duR ks t) = cntK ks) t (fun ks h => ?_) (fun ks h ih => ?_) ks
  · rw [(due_no h).1, (due_no h).2]; simp
  · rw [(due_yes h).1, (due_yes h).2, List.length_cons]
    have := (cnt_pop (fstB_pos.1 h.1)).2; omega
theorem due_len (ks : Ks) (t : Int) : (duR ks t).length = ks.length := by
  refine due_ind (P := fun ks => (duR ks t).length = ks.length) t (fun ks h => by rw [(due_no h).2]) (fun ks h ih => ?_) ks
  rw [(due_yes h).2, ih, pop_len]
/-- first for t1, then for t2: as for t2 at once -/
theorem due_due {t1 t2 : Int} (h12 : t1 ≤ t2) (ks : Ks) : dueL ks t1 ++ dueL (duR ks t1) t2 = dueL ks t2 ∧ duR (duR ks t1) t2 = duR ks t2 := by
  refine due_ind (P := fun ks => dueL ks t1 ++ dueL (duR ks t1) t2 = dueL ks t2 ∧ duR (duR ks t1) t2 = duR ks t2) t1 (fun ks h => ?_) (fun ks h ih => ?_) ks
  · rw [(due_no h).1, (due_no h).2]; exact ⟨rfl, rfl⟩
  · have h2 : fstB ks = true ∧ fstV ks ≤ t2 := ⟨h.1, by omega⟩
    rw [(due_yes h).1, (due_yes h).2, (due_yes h2).1, (due_yes h2).2, List.cons_append, ih.1]; exact ⟨rfl, ih.2⟩
theorem due_cons {ks : Ks} {t : Int} (h : fstB ks = true) (hv : fstV ks ≤ t) : dueL ks t ≠ [] := by rw [(due_yes ⟨h, hv⟩).1]; simp
theorem fst_zero {ks : Ks} (h : fstB ks = false) : cntK ks = 0 ∧ fstI ks = 0 ∧ fstV ks = 0 := by
  have hc : cntK ks = 0 := by
    rcases Nat.eq_zero_or_pos (cntK ks) with h0 | h0
    · exact h0
    · rw [fstB_pos.2 h0] at h; cases h
  exact ⟨hc, (fst_none hc).1, (fst_none hc).2.1⟩
theorem due_emp {ks : Ks} (h : fstB ks = false) (t : Int) : dueL ks t = [] := (due_no fun hh => by rw [hh.1] at h; cases h).1
/-! all times of a heap lie between two bounds -/
def AllK (lo hi : Int) (ks : Ks) : Prop := ∀ (x : Nat) (k : Int), ks.getD x none = some k → lo ≤ k ∧ k ≤ hi
theorem AllK.rep (lo hi : Int) (n : Nat) : AllK lo hi (List.replicate n none) := fun x k h => by rw [cnt_zero (cnt_rep n)] at h; cases h
theorem AllK.set {lo hi : Int} {ks : Ks} (h : AllK lo hi ks) (i : Nat) {o : Option Int} (ho : ∀ k, o = some k → lo ≤ k ∧ k ≤ hi) : AllK lo hi (ks.set i o) := fun x k e => by
  rw [List.getD_eq_getElem?_getD, List.getElem?_set] at e
  split at e
  · split at e
    · exact ho k (by simpa using e)
    · cases e
  · exact h x k (by rw [List.getD_eq_getElem?_getD]; exact e)
theorem AllK.push {lo hi : Int} {ks : Ks} (h : AllK lo hi ks) {x k : Int} (h1 : lo ≤ k) (h2 : k ≤ hi) : AllK lo hi (pushK ks x k) := by
  unfold pushK; cases (pushE ks x == 0)
  · exact h
  · exact h.set _ fun _ e => by cases e; exact ⟨h1, h2⟩
theorem AllK.rem {lo hi : Int} {ks : Ks} (h : AllK lo hi ks) {x : Int} : AllK lo hi (remK ks x) := by
  unfold remK; cases hasK ks x
  · exact h
  · exact h.set _ fun _ e => by cases e
theorem AllK.pop {lo hi : Int} {ks : Ks} (h : AllK lo hi ks) : AllK lo hi (popK ks) := by
  unfold popK; split
  · exact h
  · exact h.set _ fun _ e => by cases e
theorem AllK.due {lo hi : Int} {ks : Ks} (t : Int) (h : AllK lo hi ks) : AllK lo hi (duR ks t) := by
  refine due_ind (P := fun ks => AllK lo hi ks → AllK lo hi (duR ks t)) t (fun ks h0 h => ?_) (fun ks h0 ih h => ?_) ks h
  · rw [(due_no h0).2]; exact h
  · rw [(due_yes h0).2]; exact ih h.pop
theorem AllK.fst {lo hi : Int} {ks : Ks} (h : AllK lo hi ks) (hb : fstB ks = true) : lo ≤ fstV ks ∧ fstV ks ≤ hi := by
  obtain ⟨i, k, hm⟩ := fst_some (fstB_pos.1 hb)
  rw [hm.fv]; exact h i k hm.at_
def stopB (ks : Ks) (x : Int) : Bool := remE ks x == 0
theorem remK_len (ks : Ks) (x : Int) : (remK ks x).length = ks.length := by unfold remK; cases hasK ks x <;> simp
theorem pushK_len (ks : Ks) (x k : Int) : (pushK ks x k).length = ks.length := by unfold pushK; cases (pushE ks x == 0) <;> simp
end Go.Proofs.Ytombnfgkgcjihaa.Sp
