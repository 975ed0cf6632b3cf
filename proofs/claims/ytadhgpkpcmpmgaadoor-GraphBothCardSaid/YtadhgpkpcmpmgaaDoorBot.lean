/- Each edge once among those out, and once among those in: plain facts. No program in it. -/
import Derived.Test.YtadhgpkpcmpmgaaDoorApa
namespace Go.Proofs.YtadhgpkpcmpmgaaDoor.Sp
open Go
def cntO (es : Es) (k : Nat) : Nat := es.countP fun e => decide (0 ≤ e.1 ∧ e.1 < (k : Int))
def cntI (es : Es) (k : Nat) : Nat := es.countP fun e => decide (0 ≤ e.2 ∧ e.2 < (k : Int))
theorem cntO_zero (es : Es) : cntO es 0 = 0 := by
  unfold cntO; rw [List.countP_eq_zero]; intro e _ h; have := of_decide_eq_true h; omega
theorem cntI_zero (es : Es) : cntI es 0 = 0 := by
  unfold cntI; rw [List.countP_eq_zero]; intro e _ h; have := of_decide_eq_true h; omega
theorem cntO_succ (es : Es) (k : Nat) : cntO es (k + 1) = cntO es k + (outs es (k : Int)).length := by
  unfold cntO outs
  rw [List.length_map, ← List.countP_eq_length_filter]
  induction es with
  | nil => rfl
  | cons e es ih =>
    rw [List.countP_cons, List.countP_cons, List.countP_cons, ih]
    simp only [decide_eq_true_eq, beq_iff_eq]
    split <;> split <;> split <;> omega
theorem cntI_succ (es : Es) (k : Nat) : cntI es (k + 1) = cntI es k + (inns es (k : Int)).length := by
  unfold cntI inns
  rw [List.length_map, ← List.countP_eq_length_filter]
  induction es with
  | nil => rfl
  | cons e es ih =>
    rw [List.countP_cons, List.countP_cons, List.countP_cons, ih]
    simp only [decide_eq_true_eq, beq_iff_eq]
    split <;> split <;> split <;> omega
theorem cntO_le (es : Es) (k : Nat) : cntO es k ≤ es.length := List.countP_le_length
theorem cntI_le (es : Es) (k : Nat) : cntI es k ≤ es.length := List.countP_le_length
theorem cntO_all {N : Nat} {es : Es} (h : GOk N es) : cntO es N = es.length := by
  unfold cntO; rw [List.countP_eq_length]; intro e he; have := h.inn e he; simp; omega
theorem cntI_all {N : Nat} {es : Es} (h : GOk N es) : cntI es N = es.length := by
  unfold cntI; rw [List.countP_eq_length]; intro e he; have := h.inn e he; simp; omega
theorem madeE_len (N : Nat) (l : List (Int × Int)) : (madeE N l).length ≤ l.length := by
  have key : ∀ (l : List (Int × Int)) (es : Es), (l.foldl (fun es e => addE N es e.1 e.2) es).length ≤ es.length + l.length := by
    intro l
    induction l with
    | nil => intro es; simp
    | cons e l ih =>
      intro es
      rw [List.foldl_cons]
      have h1 := ih (addE N es e.1 e.2)
      have h2 : (addE N es e.1 e.2).length ≤ es.length + 1 := by
        unfold addE; cases isNew N es e.1 e.2 <;> simp
      simp only [List.length_cons]; omega
  have := key l []; simpa [madeE] using this
theorem made_len (n : Int) (l : List (Int × Int)) : (madeE (clampN n) (l.take 200)).length ≤ 200 := by
  have h := madeE_len (clampN n) (l.take 200)
  have : (l.take 200).length ≤ 200 := by rw [List.length_take]; omega
  omega
theorem cntO_wr {es : Es} (h : es.length ≤ 200) (k : Nat) : IntKind.i64.wrap (((cntO es k : Nat) : Int) + (((outs es (k : Int)).length : Nat) : Int)) = ((cntO es (k + 1) : Nat) : Int) := by
  have h1 := cntO_succ es k
  have h2 := cntO_le es (k + 1)
  rw [wr_i64 (by omega) (by omega), h1]; push_cast; rfl
theorem cntI_wr {es : Es} (h : es.length ≤ 200) (k : Nat) : IntKind.i64.wrap (((cntI es k : Nat) : Int) + (((inns es (k : Int)).length : Nat) : Int)) = ((cntI es (k + 1) : Nat) : Int) := by
  have h1 := cntI_succ es k
  have h2 := cntI_le es (k + 1)
  rw [wr_i64 (by omega) (by omega), h1]; push_cast; rfl
theorem outs_le (es : Es) (a : Int) : (outs es a).length ≤ es.length := by
  unfold outs; rw [List.length_map]; exact List.length_filter_le ..
theorem inns_le (es : Es) (a : Int) : (inns es a).length ≤ es.length := by
  unfold inns; rw [List.length_map]; exact List.length_filter_le ..
def cntK (l : List Int) (k : Nat) (x : Int) : Nat := (l.take k).count x
theorem cntK_yes {l : List Int} {k : Nat} {x : Int} (h : k < l.length) (e : l.getD k 0 = x) : cntK l (k + 1) x = cntK l k x + 1 := by
  unfold cntK; rw [take_succ_getD h 0, e, List.count_append, List.count_singleton_self]
theorem cntK_no {l : List Int} {k : Nat} {x : Int} (h : k < l.length) (e : ¬ l.getD k 0 = x) : cntK l (k + 1) x = cntK l k x := by
  unfold cntK; rw [take_succ_getD h 0, List.count_append]
  have : List.count x [l.getD k 0] = 0 := by rw [List.count_eq_zero]; simp only [List.mem_singleton]; exact fun h => e h.symm
  rw [this, Nat.add_zero]
theorem cntK_le (l : List Int) (k : Nat) (x : Int) : cntK l k x ≤ k := by
  unfold cntK; exact Nat.le_trans List.count_le_length (by rw [List.length_take]; omega)
theorem count_nodup {l : List Int} (h : l.Nodup) {x : Int} (hm : x ∈ l) : l.count x = 1 := by
  induction l with
  | nil => cases hm
  | cons y l ih =>
    have hn := List.nodup_cons.1 h
    rw [List.count_cons]
    by_cases e : y = x
    · subst e
      rw [List.count_eq_zero.2 hn.1]; simp
    · rcases List.mem_cons.1 hm with h' | h'
      · exact absurd h'.symm e
      · rw [ih hn.2 h']; simp [e]
theorem mem_outs_at {es : Es} {x : Int} {i : Nat} (h : i < (outs es x).length) : (x, (outs es x).getD i 0) ∈ es := by
  rw [← mem_outs]; simp [List.getD, h]
theorem once_at {N : Nat} {es : Es} (hg : GOk N es) {x : Int} {i k : Nat} (h : i < (outs es x).length) (hk : k = (inns es ((outs es x).getD i 0)).length) :
    ((cntK (inns es ((outs es x).getD i 0)) k x : Nat) : Int) = 1 := by
  have hm := mem_inns.2 (mem_outs_at h)
  unfold cntK
  rw [List.take_of_length_le (by omega), count_nodup (nodup_inns hg.nodup _) hm]; rfl
theorem has_at {es : Es} {x : Int} {i : Nat} (h : i < (outs es x).length) : hasE es (x, (outs es x).getD i 0) = true := by
  unfold hasE; rw [List.contains_iff_mem]; exact mem_outs_at h
end Go.Proofs.YtadhgpkpcmpmgaaDoor.Sp
