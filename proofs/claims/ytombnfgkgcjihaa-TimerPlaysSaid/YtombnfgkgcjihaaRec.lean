/- Rows of records, and rows of pointers, as cells. No program in it. -/
import Derived.Test.YtombnfgkgcjihaaVal2
set_option linter.unusedVariables false
set_option linter.unusedSimpArgs false
namespace Go.Proofs.Ytombnfgkgcjihaa.Sp
open Go
variable {L : List HP}
/-- a row of records, n cells each -/
def recs {α : Type} (F : α → List Value) (xs : List α) : List Value := xs.flatMap F
theorem recs_len {α : Type} {F : α → List Value} {n : Nat} (hF : ∀ x, (F x).length = n) (xs : List α) : (recs F xs).length = xs.length * n := by
  unfold recs
  induction xs with
  | nil => simp
  | cons x xs ih => rw [List.flatMap_cons, List.length_append, ih, hF, List.length_cons, Nat.succ_mul, Nat.add_comm]
theorem recs_append {α : Type} (F : α → List Value) (xs ys : List α) : recs F (xs ++ ys) = recs F xs ++ recs F ys := by simp [recs]
theorem recs_snoc {α : Type} (F : α → List Value) (xs : List α) (y : α) : recs F xs ++ F y = recs F (xs ++ [y]) := by simp [recs]
theorem recs_nil {α : Type} (F : α → List Value) : recs F [] = [] := rfl
theorem recs_split {α : Type} {F : α → List Value} {n : Nat} (hF : ∀ x, (F x).length = n) (xs : List α) (k : Nat) : (recs F xs).take (k * n) = recs F (xs.take k) ∧ (recs F xs).drop (k * n) = recs F (xs.drop k) := by
  rcases Nat.lt_or_ge xs.length k with h | h
  · have hl := recs_len hF xs
    have hle : xs.length * n ≤ k * n := Nat.mul_le_mul_right n (by omega)
    rw [List.take_of_length_le (by omega), List.drop_of_length_le (by omega), List.take_of_length_le (by omega), List.drop_of_length_le (by omega)]
    exact ⟨rfl, rfl⟩
  · have e : recs F xs = recs F (xs.take k) ++ recs F (xs.drop k) := by rw [← recs_append, List.take_append_drop]
    have hl : (recs F (xs.take k)).length = k * n := by rw [recs_len hF, List.length_take, Nat.min_eq_left h]
    rw [e, List.take_append_of_le_length (by omega), List.drop_append_of_le_length (by omega), ← hl, List.take_length, List.drop_length, List.nil_append]
    exact ⟨rfl, rfl⟩
theorem recs_take {α : Type} {F : α → List Value} {n : Nat} (hF : ∀ x, (F x).length = n) (xs : List α) (k : Nat) : (recs F xs).take (k * n) = recs F (xs.take k) := (recs_split hF xs k).1
theorem recs_drop {α : Type} {F : α → List Value} {n : Nat} (hF : ∀ x, (F x).length = n) (xs : List α) (k : Nat) : (recs F xs).drop (k * n) = recs F (xs.drop k) := (recs_split hF xs k).2
theorem recs_get {α : Type} {F : α → List Value} {n : Nat} (hF : ∀ x, (F x).length = n) {xs : List α} {d : α} {k j : Nat} (h : k < xs.length) (hj : j < n) : (recs F xs)[k * n + j]? = (F (xs.getD k d))[j]? := by
  have h1 : (recs F xs)[k * n + j]? = ((recs F xs).drop (k * n))[j]? := by rw [List.getElem?_drop]
  rw [h1, recs_drop hF, List.drop_eq_getElem_cons h]
  unfold recs
  rw [List.flatMap_cons, List.getElem?_append_left (by rw [hF]; exact hj)]
  simp [List.getD, h]
theorem recs_set {α : Type} {F : α → List Value} {n : Nat} (hF : ∀ x, (F x).length = n) {xs : List α} {d x' : α} {k j : Nat} {v : Value} (h : k < xs.length) (hj : j < n) (hx : (F (xs.getD k d)).set j v = F x') : (recs F xs).set (k * n + j) v = recs F (xs.set k x') := by
  have e1 : xs = xs.take k ++ xs.getD k d :: xs.drop (k + 1) := by
    rw [show xs.getD k d = xs[k] from by simp [List.getD, h], ← List.drop_eq_getElem_cons h, List.take_append_drop]
  have e2 : xs.set k x' = xs.take k ++ x' :: xs.drop (k + 1) := by
    rw [List.set_eq_take_append_cons_drop, if_pos h]
  have hl : (recs F (xs.take k)).length = k * n := by rw [recs_len hF, List.length_take, Nat.min_eq_left (by omega)]
  rw [e2, recs_append]
  conv => lhs; rw [e1, recs_append]
  rw [List.set_append_right _ _ (by omega), hl, Nat.add_sub_cancel_left]
  congr 1
  unfold recs
  rw [List.flatMap_cons, List.flatMap_cons, List.set_append_left _ _ (by rw [hF]; exact hj), hx]
theorem recs_one {α : Type} {F : α → List Value} (h : ∀ x, ∀ u ∈ F x, u.oneCell' = true) {xs : List α} : ∀ u ∈ recs F xs, u.oneCell' = true := by
  intro u hu
  obtain ⟨x, _, hx⟩ := List.mem_flatMap.1 hu
  exact h x u hx
theorem recs_rep {α : Type} (F : α → List Value) (n : Nat) (x : α) : (List.replicate n (F x)).flatten = recs F (List.replicate n x) := by
  unfold recs; rw [List.flatMap_replicate]
theorem rd_sb_recs {α : Type} {F : α → List Value} {sz : Nat} (hF : ∀ x, (F x).length = sz) {bs : Option Addr} {n l m : Nat} {xs : List α} (hrd : Rd L bs (recs F xs)) (h : SlOk bs n) (hl : xs.length = n) (hnm : n ≤ m) : Rd L (sbase bs l m sz) (recs F (xs.drop l)) := by
  rw [← recs_drop hF]; exact rd_sbase hrd h (by rw [recs_len hF, hl]) hnm
theorem rd_tk_recs {α : Type} {F : α → List Value} {sz : Nat} (hF : ∀ x, (F x).length = sz) {bs : Option Addr} {xs : List α} (n : Nat) (hrd : Rd L bs (recs F xs)) : Rd L bs (recs F (xs.take n)) := by
  rw [← recs_take hF]; exact rd_take hrd _
theorem recs_splice {α : Type} {F : α → List Value} {sz : Nat} (hF : ∀ x, (F x).length = sz) {xs ys : List α} {a b : Nat} : (recs F xs).take (a * sz) ++ recs F ys ++ (recs F xs).drop (b * sz) = recs F (xs.take a ++ ys ++ xs.drop b) := by
  rw [recs_take hF, recs_drop hF, recs_append, recs_append]
/-- a row of pointers -/
def ptrF (p : Nat) : List Value := [.pointer (some ⟨p, 0, none⟩)]
theorem ptrF_len (p : Nat) : (ptrF p).length = 1 := rfl
theorem ptrF_one (p : Nat) : ∀ u ∈ ptrF p, u.oneCell' = true := by intro u hu; simp [ptrF] at hu; subst hu; rfl
abbrev ptrs (ps : List Nat) : List Value := recs ptrF ps
theorem ptrs_get {ps : List Nat} {k : Nat} (h : k < ps.length) : (ptrs ps)[k]? = some (.pointer (some ⟨ps.getD k 0, 0, none⟩)) := by
  have := recs_get ptrF_len (d := 0) h (show 0 < 1 by omega)
  rw [Nat.mul_one, Nat.add_zero] at this; exact this
theorem ptrs_len (ps : List Nat) : (ptrs ps).length = ps.length := by rw [recs_len ptrF_len, Nat.mul_one]
/-- the rest of a row that was cut -/
theorem sat_cut_recs {α : Type} {F : α → List Value} {sz : Nat} (hF : ∀ x, (F x).length = sz) {T cp n a b : Nat} {bs : Option Addr} {xs : List α} {zs : List Value} {w : World} (h0 : 0 < n) (ha : a ≤ n) (hx : xs.length = n) (h : Sat (SlV T sz (.slice bs n cp) n ((recs F xs).take (a * sz) ++ zs ++ (recs F xs).drop (b * sz)) :: L) w) :
    Sat (SlV T sz (.slice bs a cp) a (recs F (xs.take a)) :: L) w := by
  have := sat_short (k := a) ha h0 h
  rw [List.append_assoc, List.take_append_of_le_length (by rw [List.length_take, recs_len hF, hx]; exact Nat.le_min.2 ⟨Nat.le_refl _, Nat.mul_le_mul_right _ ha⟩), List.take_take, Nat.min_self, recs_take hF] at this
  exact this
theorem erase_takeG {α : Type} {xs : List α} {i : Nat} (h : i < xs.length) (n : Nat) (hn : n = xs.length - 1) (zs : List α) : (xs.take i ++ xs.drop (i + 1) ++ zs).take n = xs.eraseIdx i := by
  have hl : (xs.take i ++ xs.drop (i + 1)).length = n := by simp; omega
  rw [List.take_append_of_le_length (by omega), List.take_of_length_le (by omega), List.eraseIdx_eq_take_drop_succ]
end Go.Proofs.Ytombnfgkgcjihaa.Sp
