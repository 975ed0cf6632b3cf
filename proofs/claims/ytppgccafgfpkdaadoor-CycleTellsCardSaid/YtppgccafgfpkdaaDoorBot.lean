/- Each edge once among those out, and once among those in: plain facts. No program in it. -/
import Derived.Test.YtppgccafgfpkdaaDoorApa
namespace Go.Proofs.YtppgccafgfpkdaaDoor.Sp
open Go
def cntO (es : Es) (k : Nat) : Nat := es.countP fun e => decide (0 ≤ e.1 ∧ e.1 < (k : Int))
def cntI (es : Es) (k : Nat) : Nat := es.countP fun e => decide (0 ≤ e.2 ∧ e.2 < (k : Int))
theorem cntO_zero (es : Es) : cntO es 0 = 0 := by
  unfold cntO; rw [List.countP_eq_zero]; intro e _ h; have := of_decide_eq_true h; omega
theorem cntI_zero (es : Es) : cntI es 0 = 0 := by
  unfold cntI; rw [List.countP_eq_zero]; intro e _ h; have := of_decide_eq_true h; omega
theorem cntO_succ (es : Es) (k : Nat) : cntO es (k + 1) = cntO es k + (outs es (k : Int)).length := by
  unfold cntO outs
  rw [List.length_map, ← List.countP_eq_length_filter]
  induction es with
  | nil => rfl
  | cons e es ih =>
    rw [List.countP_cons, List.countP_cons, List.countP_cons, ih]
    simp only [decide_eq_true_eq, beq_iff_eq]
    split <;> split <;> split <;> omega
theorem cntI_succ (es : Es) (k : Nat) : cntI es (k + 1) = cntI es k + (inns es (k : Int)).length := by
  unfold cntI inns
  rw [List.length_map, ← List.countP_eq_length_filter]
  induction es with
  | nil => rfl
  | cons e es ih =>
    rw [List.countP_cons, List.countP_cons, List.countP_cons, ih]
    simp only [decide_eq_true_eq, beq_iff_eq]
    split <;> split <;> split <;> omega
theorem cntO_le (es : Es) (k : Nat) : cntO es k ≤ es.length := List.countP_le_length
theorem cntI_le (es : Es) (k : Nat) : cntI es k ≤ es.length := List.countP_le_length
theorem cntO_all {N : Nat} {es : Es} (h : GOk N es) : cntO es N = es.length := by
  unfold cntO; rw [List.countP_eq_length]; intro e he; have := h.inn e he; simp; omega
theorem cntI_all {N : Nat} {es : Es} (h : GOk N es) : cntI es N = es.length := by
  unfold cntI; rw [List.countP_eq_length]; intro e he; have := h.inn e he; simp; omega
theorem madeE_len (N : Nat) (l : List (Int × Int)) : (madeE N l).length ≤ l.length := by
  have key : ∀ (l : List (Int × Int)) (es : Es), (l.foldl (fun es e => addE N es e.1 e.2) es).length ≤ es.length + l.length := by
    intro l
    induction l with
    | nil => intro es; simp
    | cons e l ih =>
      intro es
      rw [List.foldl_cons]
      have h1 := ih (addE N es e.1 e.2)
      have h2 : (addE N es e.1 e.2).length ≤ es.length + 1 := by
        unfold addE; cases isNew N es e.1 e.2 <;> simp
      simp only [List.length_cons]; omega
  have := key l []; simpa [madeE] using this
theorem made_len (n : Int) (l : List (Int × Int)) : (madeE (clampN n) (l.take 200)).length ≤ 200 := by
  have h := madeE_len (clampN n) (l.take 200)
  have : (l.take 200).length ≤ 200 := by rw [List.length_take]; omega
  omega
theorem cntO_wr {es : Es} (h : es.length ≤ 200) (k : Nat) : IntKind.i64.wrap (((cntO es k : Nat) : Int) + (((outs es (k : Int)).length : Nat) : Int)) = ((cntO es (k + 1) : Nat) : Int) := by
  have h1 := cntO_succ es k
  have h2 := cntO_le es (k + 1)
  rw [wr_i64 (by omega) (by omega), h1]; push_cast; rfl
theorem cntI_wr {es : Es} (h : es.length ≤ 200) (k : Nat) : IntKind.i64.wrap (((cntI es k : Nat) : Int) + (((inns es (k : Int)).length : Nat) : Int)) = ((cntI es (k + 1) : Nat) : Int) := by
  have h1 := cntI_succ es k
  have h2 := cntI_le es (k + 1)
  rw [wr_i64 (by omega) (by omega), h1]; push_cast; rfl
theorem outs_le (es : Es) (a : Int) : (outs es a).length ≤ es.length := by
  unfold outs; rw [List.length_map]; exact List.length_filter_le ..
theorem inns_le (es : Es) (a : Int) : (inns es a).length ≤ es.length := by
  unfold inns; rw [List.length_map]; exact List.length_filter_le ..
theorem reachL_le (N : Nat) (es : Es) (a : Int) : (reachL N es a).length ≤ N := by
  unfold reachL
  cases valid N a with
  | false => exact Nat.zero_le _
  | true => rw [cond_true, List.length_map]; exact Nat.le_trans (List.length_filter_le ..) (by simp)
def cntK (l : List Int) (k : Nat) (x : Int) : Nat := (l.take k).count x
theorem cntK_yes {l : List Int} {k : Nat} {x : Int} (h : k < l.length) (e : l.getD k 0 = x) : cntK l (k + 1) x = cntK l k x + 1 := by
  unfold cntK; rw [take_succ_getD h 0, e, List.count_append, List.count_singleton_self]
theorem cntK_no {l : List Int} {k : Nat} {x : Int} (h : k < l.length) (e : ¬ l.getD k 0 = x) : cntK l (k + 1) x = cntK l k x := by
  unfold cntK; rw [take_succ_getD h 0, List.count_append]
  have : List.count x [l.getD k 0] = 0 := by rw [List.count_eq_zero]; simp only [List.mem_singleton]; exact fun h => e h.symm
  rw [this, Nat.add_zero]
theorem cntK_le (l : List Int) (k : Nat) (x : Int) : cntK l k x ≤ k := by
  unfold cntK; exact Nat.le_trans List.count_le_length (by rw [List.length_take]; omega)
theorem count_nodup {l : List Int} (h : l.Nodup) {x : Int} (hm : x ∈ l) : l.count x = 1 := by
  induction l with
  | nil => cases hm
  | cons y l ih =>
    have hn := List.nodup_cons.1 h
    rw [List.count_cons]
    by_cases e : y = x
    · subst e
      rw [List.count_eq_zero.2 hn.1]; simp
    · rcases List.mem_cons.1 hm with h' | h'
      · exact absurd h'.symm e
      · rw [ih hn.2 h']; simp [e]
theorem mem_outs_at {es : Es} {x : Int} {i : Nat} (h : i < (outs es x).length) : (x, (outs es x).getD i 0) ∈ es := by
  rw [← mem_outs]; simp [List.getD, h]
theorem once_at {N : Nat} {es : Es} (hg : GOk N es) {x : Int} {i k : Nat} (h : i < (outs es x).length) (hk : k = (inns es ((outs es x).getD i 0)).length) :
    ((cntK (inns es ((outs es x).getD i 0)) k x : Nat) : Int) = 1 := by
  have hm := mem_inns.2 (mem_outs_at h)
  unfold cntK
  rw [List.take_of_length_le (by omega), count_nodup (nodup_inns hg.nodup _) hm]; rfl
theorem has_at {es : Es} {x : Int} {i : Nat} (h : i < (outs es x).length) : hasE es (x, (outs es x).getD i 0) = true := by
  unfold hasE; rw [List.contains_iff_mem]; exact mem_outs_at h
/-- the order in which edges are told -/
def wantL (l : List Int) : List Int := l.foldl (fun w x => bif w.contains (x % 64) then w else w ++ [x % 64]) []
theorem wantL_yes {l : List Int} {k : Nat} (h : k < l.length) (e : (wantL (l.take k)).contains (l.getD k 0 % 64) = true) : wantL (l.take (k + 1)) = wantL (l.take k) := by
  rw [take_succ_getD h 0]; unfold wantL at e ⊢; rw [List.foldl_append, List.foldl_cons, List.foldl_nil, e, cond_true]
theorem wantL_no {l : List Int} {k : Nat} (h : k < l.length) (e : (wantL (l.take k)).contains (l.getD k 0 % 64) = false) : wantL (l.take (k + 1)) = wantL (l.take k) ++ [l.getD k 0 % 64] := by
  rw [take_succ_getD h 0]; unfold wantL at e ⊢; rw [List.foldl_append, List.foldl_cons, List.foldl_nil, e, cond_false]
theorem wantL_len (l : List Int) : (wantL l).length ≤ l.length := by
  have key : ∀ (l w : List Int), (l.foldl (fun w x => bif w.contains (x % 64) then w else w ++ [x % 64]) w).length ≤ w.length + l.length := by
    intro l
    induction l with
    | nil => intro w; simp
    | cons x l ih =>
      intro w
      rw [List.foldl_cons]
      have h1 := ih (bif w.contains (x % 64) then w else w ++ [x % 64])
      have h2 : (bif w.contains (x % 64) then w else w ++ [x % 64]).length ≤ w.length + 1 := by cases w.contains (x % 64) <;> simp
      simp only [List.length_cons]; omega
  have := key l []; simpa [wantL] using this
def inP (l : List Int) (i : Nat) (b : Int) : Bool := (l.take i).contains b
theorem inP_succ {l : List Int} {i : Nat} (b : Int) (h : i < l.length) : inP l (i + 1) b = (inP l i b || l.getD i 0 == b) := by
  unfold inP; rw [take_succ_getD h 0, Bool.eq_iff_iff]; simp only [List.contains_iff_mem, List.mem_append, List.mem_singleton, Bool.or_eq_true, beq_iff_eq]
  constructor <;> rintro (h | h) <;> first | exact .inl h | exact .inr h.symm
theorem inP_all {l : List Int} {i : Nat} (b : Int) (h : l.length ≤ i) : inP l i b = l.contains b := by unfold inP; rw [List.take_of_length_le h]
theorem there_ne {l : List Int} {i : Nat} {b : Int} (h : l.length ≤ i) : ((!l.contains b) == inP l i b) = false := by rw [inP_all b h]; cases l.contains b <;> rfl
/-- the edges out of one task -/
def starE (a : Int) (l : List Int) : Es := (wantL l).map fun b => (a, b)
theorem star_outs (a : Int) (l : List Int) : outs (starE a l) a = wantL l := by
  unfold outs starE
  rw [List.filter_map, List.map_map]
  have : (wantL l).filter ((fun e : Int × Int => e.1 == a) ∘ fun b => (a, b)) = wantL l := by rw [List.filter_eq_self]; intro x _; simp
  rw [this]; simp [Function.comp_def]
theorem star_has (a b : Int) (l : List Int) : (starE a l).contains (a, b) = (wantL l).contains b := by
  rw [Bool.eq_iff_iff]; simp [starE]
theorem star_new {a b : Int} (l : List Int) (ha : 0 ≤ a ∧ a < 64) (hb : 0 ≤ b ∧ b < 64) : isNew 64 (starE a l) a b = !(wantL l).contains b := by
  unfold isNew; rw [valid_iff.2 ha, valid_iff.2 hb, star_has]; rfl
theorem star_err {a b : Int} (ha : 0 ≤ a ∧ a < 64) (hb : 0 ≤ b ∧ b < 64) : addErr 64 a b = 0 := by
  unfold addErr; rw [valid_iff.2 ha, valid_iff.2 hb]; rfl
theorem star_add {a : Int} {l : List Int} {k : Nat} (h : k < l.length) (ha : 0 ≤ a ∧ a < 64) : addE 64 (starE a (l.take k)) a (l.getD k 0 % 64) = starE a (l.take (k + 1)) := by
  unfold addE
  rw [star_new _ ha (by omega)]
  cases e : (wantL (l.take k)).contains (l.getD k 0 % 64) with
  | true => rw [Bool.not_true, cond_false]; unfold starE; rw [wantL_yes h e]
  | false => rw [Bool.not_false, cond_true]; unfold starE; rw [wantL_no h e, List.map_append]; rfl
end Go.Proofs.YtppgccafgfpkdaaDoor.Sp
