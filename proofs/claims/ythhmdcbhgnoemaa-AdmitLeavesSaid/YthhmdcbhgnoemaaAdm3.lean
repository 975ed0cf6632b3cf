/- Who waits and goes: plain facts. No program in it. -/
import Derived.Test.YthhmdcbhgnoemaaAdm2
set_option linter.unusedVariables false
set_option linter.unusedSimpArgs false
namespace Go.Proofs.Ythhmdcbhgnoemaa.Sp
open Go
def iotaL (k : Nat) : List Int := (List.range k).map fun i : Nat => (i : Int)
theorem iotaL_succ (k : Nat) : iotaL (k + 1) = iotaL k ++ [(k : Int)] := by unfold iotaL; rw [List.range_succ, List.map_append]; rfl
theorem mem_iotaL {k : Nat} {x : Int} : x ∈ iotaL k ↔ 0 ≤ x ∧ x < k := by
  unfold iotaL; simp only [List.mem_map, List.mem_range]
  exact ⟨fun ⟨i, h, e⟩ => by omega, fun h => ⟨x.toNat, by omega, by omega⟩⟩
theorem iotaL_len (k : Nat) : (iotaL k).length = k := by simp [iotaL]
def waitS (k : Nat) : AS := ⟨[500], iotaL k⟩
theorem waitS_push (k : Nat) : pushQ (waitS k) (k : Int) = waitS (k + 1) := by unfold pushQ waitS; rw [iotaL_succ]
theorem waitS_not {k : Nat} (h : k ≤ 20) : (k : Int) ∉ (waitS k).a ++ (waitS k).q := by
  simp only [waitS, List.mem_append, List.mem_singleton, mem_iotaL]; omega
/-- those that stay of the first k -/
def leftL (bs : List Bool) (k : Nat) : List Int := ((List.range k).filter fun i => !bs.getD i false).map fun i : Nat => (i : Int)
def restL (k n : Nat) : List Int := ((List.range n).drop k).map fun i : Nat => (i : Int)
theorem restL_zero (n : Nat) : restL 0 n = iotaL n := by unfold restL iotaL; rw [List.drop_zero]
theorem restL_end (n : Nat) : restL n n = [] := by unfold restL; rw [List.drop_of_length_le (by simp)]; rfl
theorem restL_cons {k n : Nat} (h : k < n) : restL k n = (k : Int) :: restL (k + 1) n := by
  unfold restL
  rw [List.drop_eq_getElem_cons (by simpa using h)]; simp
theorem leftL_go {bs : List Bool} {k : Nat} (h : bs.getD k false = true) : leftL bs (k + 1) = leftL bs k := by
  unfold leftL; rw [List.range_succ, List.filter_append, List.filter_cons, h]; simp
theorem leftL_stay {bs : List Bool} {k : Nat} (h : bs.getD k false = false) : leftL bs (k + 1) = leftL bs k ++ [(k : Int)] := by
  unfold leftL; rw [List.range_succ, List.filter_append, List.filter_cons, h]; simp
theorem mem_leftL {bs : List Bool} {k : Nat} {x : Int} (h : x ∈ leftL bs k) : 0 ≤ x ∧ x < k := by
  unfold leftL at h; simp only [List.mem_map, List.mem_filter, List.mem_range] at h
  obtain ⟨i, h, e⟩ := h; omega
theorem leftL_le (bs : List Bool) (k : Nat) : (leftL bs k).length ≤ k := by
  unfold leftL; rw [List.length_map]; exact Nat.le_trans (List.length_filter_le ..) (by simp)
theorem restL_len (k n : Nat) : (restL k n).length = n - k := by unfold restL; simp
theorem leftL_nodup (bs : List Bool) (k : Nat) : (leftL bs k).Nodup := by
  unfold leftL
  refine List.Pairwise.map (R := (· < ·)) _ (fun a b h => ?_) (List.pairwise_lt_range.sublist List.filter_sublist)
  omega
def goS (bs : List Bool) (k n : Nat) : AS := ⟨[500], leftL bs k ++ restL k n⟩
theorem goS_end {bs : List Bool} {k n : Nat} (h : k < n) (hb : bs.getD k false = true) : endS (goS bs k n) (k : Int) = goS bs (k + 1) n ∧ endV (goS bs k n) (k : Int) = -1 ∧ endEr (goS bs k n) (k : Int) = 0 := by
  have hm : (k : Int) ∈ (goS bs k n).q := by unfold goS; rw [restL_cons h]; simp
  obtain ⟨h1, h2, h3⟩ := end_waits hm
  refine ⟨?_, h2, h3⟩
  rw [h1]
  unfold goS
  rw [leftL_go hb]
  have hn : (k : Int) ∉ leftL bs k := fun hx => by have := mem_leftL hx; omega
  simp only
  rw [List.erase_append_right _ hn, restL_cons h, List.erase_cons_head]
theorem goS_stay {bs : List Bool} {k n : Nat} (h : k < n) (hb : bs.getD k false = false) : goS bs (k + 1) n = goS bs k n := by
  unfold goS; rw [leftL_stay hb, restL_cons h]; simp
/-- who is active behind k that came and went -/
def nowV (l : List Int) (k : Nat) : Int := match k with
  | 0 => 500
  | j + 1 => l.getD j 0
def nowS (l : List Int) (k : Nat) : AS := ⟨[nowV l k], l.drop k⟩
theorem goS_now (bs : List Bool) (n : Nat) : goS bs n n = nowS (leftL bs n) 0 := by unfold goS nowS; rw [restL_end, List.append_nil]; rfl
theorem nowV_not {l : List Int} (hn : l.Nodup) (h5 : ∀ y ∈ l, y < 500) {k : Nat} (hk : k ≤ l.length) : nowV l k ∉ l.drop k := by
  cases k with
  | zero => intro hm; have := h5 _ hm; simp [nowV] at this
  | succ j =>
    intro hm
    have hj : j < l.length := by omega
    obtain ⟨i, hi, e⟩ := List.getElem_of_mem hm
    rw [List.getElem_drop] at e
    have hi' : j + 1 + i < l.length := by rw [List.length_drop] at hi; omega
    have : l.getD (j + 1 + i) 0 = l.getD j 0 := by simp only [nowV] at e; simp only [List.getD, List.getElem?_eq_getElem hi', Option.getD_some, e]
    exact nodup_at hn hi' (by omega) this
theorem nowS_end {l : List Int} (hn : l.Nodup) (h5 : ∀ y ∈ l, y < 500) {k : Nat} (hk : k < l.length) :
    endS (nowS l k) (nowV l k) = nowS l (k + 1) ∧ endV (nowS l k) (nowV l k) = l.getD k 0 ∧ endEr (nowS l k) (nowV l k) = 0 := by
  have hq : (nowS l k).q = l.getD k 0 :: l.drop (k + 1) := by
    show l.drop k = _
    rw [List.drop_eq_getElem_cons hk]; simp [List.getD, hk]
  obtain ⟨h1, h2, h3⟩ := end_moves (x := nowV l k) hq (by simp [nowS]) (nowV_not hn h5 (by omega))
  refine ⟨?_, h2, h3⟩
  rw [h1]; unfold nowS; simp [nowV]
theorem nowS_last {l : List Int} {k : Nat} (hk : l.length ≤ k) : endS (nowS l k) (nowV l k) = ⟨[], []⟩ ∧ endV (nowS l k) (nowV l k) = -1 ∧ endEr (nowS l k) (nowV l k) = 0 := by
  obtain ⟨h1, h2, h3⟩ := end_alone (s := nowS l k) (x := nowV l k) (List.drop_of_length_le hk) (by simp [nowS])
  refine ⟨?_, h2, h3⟩
  rw [h1]; simp [nowS]
theorem start500 : addS 1 20 ⟨[], []⟩ 500 = waitS 0 ∧ addV 1 20 ⟨[], []⟩ 500 = 1 ∧ addEr 1 20 ⟨[], []⟩ 500 = 0 := ⟨rfl, rfl, rfl⟩
end Go.Proofs.Ythhmdcbhgnoemaa.Sp
