/- What the document's graph computes: plain facts (rounds over a row of bools). No program in it but for the numbers of its types. -/
import Derived.Test.YtppgccafgfpkdaaDoorRea
import Derived.Test.YtppgccafgfpkdaaDoorOpm
set_option linter.unusedVariables false
set_option linter.unusedSimpArgs false
namespace Go.Proofs.YtppgccafgfpkdaaDoor.Sp
open Go
def stepS (s : List Bool) (e : Int × Int) : List Bool := bif s.getD e.1.toNat false then s.set e.2.toNat true else s
def passS (es : Es) (s : List Bool) : List Bool := es.foldl stepS s
def iterS (es : Es) (s : List Bool) : Nat → List Bool
  | 0 => s
  | n + 1 => passS es (iterS es s n)
def startS (N : Nat) (a : Int) : List Bool := (List.replicate N false).set a.toNat true
@[simp] theorem stepS_length (s : List Bool) (e : Int × Int) : (stepS s e).length = s.length := by unfold stepS; cases s.getD e.1.toNat false <;> simp
@[simp] theorem passS_length (es : Es) (s : List Bool) : (passS es s).length = s.length := by
  unfold passS
  induction es generalizing s with
  | nil => rfl
  | cons e es ih => rw [List.foldl_cons, ih, stepS_length]
@[simp] theorem iterS_length (es : Es) (s : List Bool) (n : Nat) : (iterS es s n).length = s.length := by
  induction n with
  | zero => rfl
  | succ n ih => rw [iterS, passS_length, ih]
@[simp] theorem startS_length (N : Nat) (a : Int) : (startS N a).length = N := by simp [startS]
theorem passS_yes {es : Es} {i : Nat} {s : List Bool} (h : i < es.length) (hb : (passS (es.take i) s).getD (es.getD i (0, 0)).1.toNat false = true) :
    (passS (es.take i) s).set (es.getD i (0, 0)).2.toNat true = passS (es.take (i + 1)) s := by
  rw [take_succ_getD h (0, 0)]; unfold passS at hb ⊢
  rw [List.foldl_append, List.foldl_cons, List.foldl_nil]
  generalize (es.take i).foldl stepS s = t at hb ⊢
  unfold stepS; rw [hb, cond_true]
theorem passS_no {es : Es} {i : Nat} {s : List Bool} (h : i < es.length) (hb : (passS (es.take i) s).getD (es.getD i (0, 0)).1.toNat false = false) :
    passS (es.take i) s = passS (es.take (i + 1)) s := by
  rw [take_succ_getD h (0, 0)]; unfold passS at hb ⊢
  rw [List.foldl_append, List.foldl_cons, List.foldl_nil]
  generalize (es.take i).foldl stepS s = t at hb ⊢
  unfold stepS; rw [hb, cond_false]
theorem passS_all {es : Es} {i : Nat} {s : List Bool} (h : es.length ≤ i) : passS (es.take i) s = passS es s := by rw [List.take_of_length_le h]
theorem getD_set_b {s : List Bool} {i j : Nat} : (s.set i true).getD j false = true ↔ (j = i ∧ j < s.length) ∨ s.getD j false = true := by
  simp only [List.getD, List.getElem?_set]
  split
  · rename_i e; subst e
    split
    · rename_i h; simp [h]
    · rename_i h; simp [h]
  · rename_i e
    have : ¬ j = i := fun x => e x.symm
    simp [this]
theorem stepS_mono {s : List Bool} {e : Int × Int} {j : Nat} (h : s.getD j false = true) : (stepS s e).getD j false = true := by
  unfold stepS
  cases s.getD e.1.toNat false with
  | false => exact h
  | true => rw [cond_true]; exact getD_set_b.2 (.inr h)
theorem passS_mono {es : Es} {s : List Bool} {j : Nat} (h : s.getD j false = true) : (passS es s).getD j false = true := by
  unfold passS
  induction es generalizing s with
  | nil => exact h
  | cons e es ih => rw [List.foldl_cons]; exact ih (stepS_mono h)
theorem iterS_mono {es : Es} {s : List Bool} {j : Nat} (n : Nat) (h : s.getD j false = true) : (iterS es s n).getD j false = true := by
  induction n with
  | zero => exact h
  | succ n ih => rw [iterS]; exact passS_mono ih
theorem count_set {s : List Bool} {i : Nat} (h : i < s.length) (hb : s.getD i false = false) : (s.set i true).count true = s.count true + 1 := by
  induction s generalizing i with
  | nil => simp at h
  | cons b s ih =>
    cases i with
    | zero =>
      have : b = false := by simpa [List.getD] using hb
      subst this; simp
    | succ i =>
      rw [List.set_cons_succ, List.count_cons, List.count_cons, ih (by simpa using h) (by simpa [List.getD] using hb)]
      omega
theorem set_self {s : List Bool} {i : Nat} (hb : s.getD i false = true) : s.set i true = s := by
  apply List.ext_getElem?
  intro j
  rw [List.getElem?_set]
  split
  · rename_i e; subst e
    have h : i < s.length := by
      rcases Nat.lt_or_ge i s.length with h | h
      · exact h
      · simp [List.getD, h] at hb
    rw [if_pos h]
    simp [List.getD, h] at hb
    simp [h, hb]
  · rfl
theorem stepS_cases {N : Nat} {s : List Bool} {e : Int × Int} (hs : s.length = N) (h2 : 0 ≤ e.2 ∧ e.2 < N) : stepS s e = s ∨ (stepS s e).count true = s.count true + 1 := by
  unfold stepS
  cases s.getD e.1.toNat false with
  | false => exact .inl rfl
  | true =>
    rw [cond_true]
    cases hb : s.getD e.2.toNat false with
    | true => exact .inl (set_self hb)
    | false => exact .inr (count_set (by omega) hb)
theorem passS_cases {N : Nat} {es : Es} (hi : ∀ e ∈ es, 0 ≤ e.2 ∧ e.2 < (N : Int)) {s : List Bool} (hs : s.length = N) : passS es s = s ∨ s.count true + 1 ≤ (passS es s).count true := by
  unfold passS
  induction es generalizing s with
  | nil => exact .inl rfl
  | cons e es ih =>
    rw [List.foldl_cons]
    have h1 := stepS_cases hs (hi e (List.mem_cons_self ..))
    have h2 := ih (fun x hx => hi x (List.mem_cons_of_mem _ hx)) (s := stepS s e) (by rw [stepS_length, hs])
    rcases h1 with h1 | h1
    · rw [h1] at h2 ⊢; exact h2
    · rcases h2 with h2 | h2
      · rw [h2]; right; omega
      · right; omega
theorem passS_fix {N : Nat} {es : Es} (hi : ∀ e ∈ es, 0 ≤ e.2 ∧ e.2 < (N : Int)) {s : List Bool} (hs : s.length = N) (h : passS es s = s) : ∀ e ∈ es, s.getD e.1.toNat false = true → s.getD e.2.toNat false = true := by
  induction es generalizing s with
  | nil => exact fun e he => by cases he
  | cons e es ih =>
    have hi' : ∀ x ∈ es, 0 ≤ x.2 ∧ x.2 < (N : Int) := fun x hx => hi x (List.mem_cons_of_mem _ hx)
    have e1 : passS (e :: es) s = passS es (stepS s e) := rfl
    have h1 := stepS_cases hs (hi e (List.mem_cons_self ..))
    have h2 := passS_cases hi' (s := stepS s e) (by rw [stepS_length, hs])
    rw [e1] at h
    have hst : stepS s e = s := by
      rcases h1 with h1 | h1
      · exact h1
      · rcases h2 with h2 | h2
        · rw [h2] at h; exact h
        · rw [h] at h2; omega
    rw [hst] at h
    intro x hx hb
    rcases List.mem_cons.1 hx with rfl | hx
    · have : s.set x.2.toNat true = s := by unfold stepS at hst; rw [hb, cond_true] at hst; exact hst
      rw [← this]
      have := hi x (List.mem_cons_self ..)
      exact getD_set_b.2 (.inl ⟨rfl, by omega⟩)
    · exact ih hi' hs h x hx hb
theorem iterS_many {N : Nat} {es : Es} (hi : ∀ e ∈ es, 0 ≤ e.2 ∧ e.2 < (N : Int)) {s : List Bool} (hs : s.length = N) (h1 : 1 ≤ s.count true) (n : Nat) : passS es (iterS es s n) = iterS es s n ∨ n + 1 ≤ (iterS es s n).count true := by
  induction n with
  | zero => exact .inr h1
  | succ n ih =>
    rcases ih with ih | ih
    · left; rw [iterS, ih, ih]
    · have := passS_cases hi (s := iterS es s n) (by rw [iterS_length, hs])
      rcases this with h | h
      · left; rw [iterS, h, h]
      · right; rw [iterS]; omega
theorem iterS_sound {N : Nat} {es : Es} (hg : GOk N es) {a : Int} (s : List Bool) (hs : ∀ j : Nat, s.getD j false = true → Rch es a (j : Int)) (n : Nat) : ∀ j : Nat, (iterS es s n).getD j false = true → Rch es a (j : Int) := by
  have step : ∀ (l : Es), (∀ e ∈ l, e ∈ es) → ∀ t : List Bool, (∀ j : Nat, t.getD j false = true → Rch es a (j : Int)) → ∀ j : Nat, (passS l t).getD j false = true → Rch es a (j : Int) := by
    intro l
    induction l with
    | nil => exact fun _ t ht => ht
    | cons e l ih =>
      intro hl t ht
      refine ih (fun x hx => hl x (List.mem_cons_of_mem _ hx)) (stepS t e) fun j hj => ?_
      have he := hl e (List.mem_cons_self ..)
      have hv := hg.inn _ he
      unfold stepS at hj
      cases hb : t.getD e.1.toNat false with
      | false => rw [hb, cond_false] at hj; exact ht j hj
      | true =>
        rw [hb, cond_true] at hj
        rcases getD_set_b.1 hj with ⟨hj, _⟩ | hj
        · have h1 := ht _ hb
          rw [Int.toNat_of_nonneg hv.1] at h1
          have : (j : Int) = e.2 := by omega
          rw [this]; exact h1.step he
        · exact ht j hj
  induction n with
  | zero => exact hs
  | succ n ih => rw [iterS]; exact step es (fun _ h => h) _ ih
theorem startS_get {N : Nat} {a : Int} (ha : 0 ≤ a ∧ a < N) (j : Nat) : (startS N a).getD j false = true ↔ (j : Int) = a := by
  unfold startS
  rw [getD_set_b]
  have : (List.replicate N false).getD j false = false := by
    simp only [List.getD, List.getElem?_replicate]; split <;> rfl
  rw [this]
  simp only [List.length_replicate, Bool.false_eq_true, or_false]
  omega
def outR (s : List Bool) (k : Nat) : List Int := ((List.range k).filter fun i : Nat => s.getD i false).map fun i : Nat => (i : Int)
theorem outR_yes {s : List Bool} {k : Nat} (h : s.getD k false = true) : outR s (k + 1) = outR s k ++ [(k : Int)] := by
  unfold outR; rw [List.range_succ, List.filter_append, List.map_append, List.filter_cons, h, if_pos rfl]; rfl
theorem outR_no {s : List Bool} {k : Nat} (h : s.getD k false = false) : outR s (k + 1) = outR s k := by
  unfold outR; rw [List.range_succ, List.filter_append, List.map_append, List.filter_cons, h, if_neg (by simp)]; simp
theorem outR_le (s : List Bool) (k : Nat) : (outR s k).length ≤ k := by
  unfold outR; rw [List.length_map]; exact Nat.le_trans (List.length_filter_le ..) (by simp)
theorem outR_reach {N : Nat} {es : Es} (hg : GOk N es) {a : Int} (ha : 0 ≤ a ∧ a < N) : outR (iterS es (startS N a) N) N = reachL N es a := by
  have hi : ∀ e ∈ es, 0 ≤ e.2 ∧ e.2 < (N : Int) := fun e he => ⟨(hg.inn e he).2.2.1, (hg.inn e he).2.2.2⟩
  have h1 : 1 ≤ (startS N a).count true := by
    have : true ∈ startS N a := by
      have hx := (startS_get ha a.toNat).2 (Int.toNat_of_nonneg ha.1)
      have hl : a.toNat < (startS N a).length := by rw [startS_length]; omega
      have : (startS N a)[a.toNat] = true := by rw [List.getD_eq_getElem?_getD, List.getElem?_eq_getElem hl] at hx; exact hx
      exact this ▸ List.getElem_mem hl
    exact List.count_pos_iff.2 this
  have hfix : passS es (iterS es (startS N a) N) = iterS es (startS N a) N := by
    rcases iterS_many hi (startS_length N a) h1 N with h | h
    · exact h
    · have := List.count_le_length (a := true) (l := iterS es (startS N a) N)
      rw [iterS_length, startS_length] at this; omega
  have hcl := passS_fix hi (by rw [iterS_length, startS_length]) hfix
  have hso := iterS_sound hg (a := a) (startS N a) (fun j hj => by rw [(startS_get ha j).1 hj]; exact .refl) N
  have hco : ∀ b, Rch es a b → (iterS es (startS N a) N).getD b.toNat false = true := by
    intro b hb
    induction hb with
    | refl => exact iterS_mono N ((startS_get ha a.toNat).2 (Int.toNat_of_nonneg ha.1))
    | step _ he ih => exact hcl _ he ih
  unfold outR reachL
  rw [valid_iff.2 ha, cond_true]
  congr 1
  apply List.filter_congr
  intro i _
  rw [Bool.eq_iff_iff, rch_iff]
  exact ⟨hso i, fun h => by have := hco _ h; simpa using this⟩
theorem outs_take_yes {es : Es} {a : Int} {k : Nat} (h : k < es.length) (e : (es.getD k (0, 0)).1 = a) : outs (es.take (k + 1)) a = outs (es.take k) a ++ [(es.getD k (0, 0)).2] := by
  rw [take_succ_getD h (0, 0)]
  have := outs_snoc (es.take k) (es.getD k (0, 0)).1 (es.getD k (0, 0)).2 a
  rw [if_pos e] at this; exact this
theorem outs_take_no {es : Es} {a : Int} {k : Nat} (h : k < es.length) (e : ¬ (es.getD k (0, 0)).1 = a) : outs (es.take (k + 1)) a = outs (es.take k) a := by
  rw [take_succ_getD h (0, 0)]
  have := outs_snoc (es.take k) (es.getD k (0, 0)).1 (es.getD k (0, 0)).2 a
  rw [if_neg e] at this; exact this
theorem inns_take_yes {es : Es} {a : Int} {k : Nat} (h : k < es.length) (e : (es.getD k (0, 0)).2 = a) : inns (es.take (k + 1)) a = inns (es.take k) a ++ [(es.getD k (0, 0)).1] := by
  rw [take_succ_getD h (0, 0)]
  have := inns_snoc (es.take k) (es.getD k (0, 0)).1 (es.getD k (0, 0)).2 a
  rw [if_pos e] at this; exact this
theorem inns_take_no {es : Es} {a : Int} {k : Nat} (h : k < es.length) (e : ¬ (es.getD k (0, 0)).2 = a) : inns (es.take (k + 1)) a = inns (es.take k) a := by
  rw [take_succ_getD h (0, 0)]
  have := inns_snoc (es.take k) (es.getD k (0, 0)).1 (es.getD k (0, 0)).2 a
  rw [if_neg e] at this; exact this
theorem hasE_true {es : Es} {a b : Int} {k : Nat} (h : k < es.length) (e1 : (es.getD k (0, 0)).1 = a) (e2 : (es.getD k (0, 0)).2 = b) : hasE es (a, b) = true := by
  unfold hasE; rw [List.contains_iff_mem]
  have : es.getD k (0, 0) = (a, b) := by rw [← e1, ← e2]
  rw [← this]; simp [List.getD, h]
theorem hasE_none {es : Es} {a b : Int} {k : Nat} (hk : es.length ≤ k) (h : ∀ j, j < k → ¬ ((es.getD j (0, 0)).1 = a ∧ (es.getD j (0, 0)).2 = b)) : hasE es (a, b) = false := by
  cases hb : hasE es (a, b) with
  | false => rfl
  | true =>
    unfold hasE at hb; rw [List.contains_iff_mem] at hb
    obtain ⟨j, hj, e⟩ := List.getElem_of_mem hb
    refine absurd ?_ (h j (by omega))
    have : es.getD j (0, 0) = (a, b) := by simp [List.getD, hj, e]
    rw [this]; exact ⟨rfl, rfl⟩
theorem allE_succ {es : Es} {a b : Int} {k : Nat} (h : ∀ j, j < k → ¬ ((es.getD j (0, 0)).1 = a ∧ (es.getD j (0, 0)).2 = b)) (hk : ¬ ((es.getD k (0, 0)).1 = a ∧ (es.getD k (0, 0)).2 = b)) : ∀ j, j < k + 1 → ¬ ((es.getD j (0, 0)).1 = a ∧ (es.getD j (0, 0)).2 = b) := by
  intro j hj
  rcases Nat.lt_or_ge j k with h' | h'
  · exact h j h'
  · have : j = k := by omega
    subst this; exact hk
theorem mem_at_not {l : List Int} {b : Int} {k : Nat} (hk : l.length ≤ k) (h : ∀ j, j < k → ¬ l.getD j 0 = b) : b ∉ l := by
  intro hm
  obtain ⟨j, hj, e⟩ := List.getElem_of_mem hm
  exact h j (by omega) (by simp [List.getD, hj, e])
theorem allN_succ {l : List Int} {b : Int} {k : Nat} (h : ∀ j, j < k → ¬ l.getD j 0 = b) (hk : ¬ l.getD k 0 = b) : ∀ j, j < k + 1 → ¬ l.getD j 0 = b := by
  intro j hj
  rcases Nat.lt_or_ge j k with h' | h'
  · exact h j h'
  · have : j = k := by omega
    subst this; exact hk
theorem reachB_mem_t {N : Nat} {es : Es} {a b : Int} {k : Nat} (h : k < (reachL N es a).length) (e : (reachL N es a).getD k 0 = b) : reachB N es a b = true := by
  rw [← mem_reachL, ← e]; simp [List.getD, h]
theorem reachB_mem_f {N : Nat} {es : Es} {a b : Int} (h : b ∉ reachL N es a) : reachB N es a b = false := by
  cases hb : reachB N es a b with
  | false => rfl
  | true => exact absurd (mem_reachL.2 hb) h
theorem reachB_badb {N : Nat} {es : Es} {a b : Int} (h : ¬ (0 ≤ b ∧ b < N)) : reachB N es a b = false := by
  unfold reachB
  have : valid N b = false := by
    cases hv : valid N b with
    | false => rfl
    | true => exact absurd (valid_iff.1 hv) h
  rw [this]; simp
/-- the document's graph in memory -/
def RefO (p N : Nat) (es : Es) : HP := fun f => ∃ bl cl, (SlOk bl es.length ∧ es.length ≤ cl) ∧ Parts [Blk p [.int .i64 ((N : Nat) : Int), .slice bl es.length cl] 52, SlV 54 2 (.slice bl es.length cl) es.length (pairs es)] f
theorem Sat.openR {p N : Nat} {es : Es} {L : List HP} {w : World} (h : Sat (RefO p N es :: L) w) :
    ∃ bl cl, (SlOk bl es.length ∧ es.length ≤ cl) ∧ Sat (Blk p [.int .i64 ((N : Nat) : Int), .slice bl es.length cl] 52 :: SlV 54 2 (.slice bl es.length cl) es.length (pairs es) :: L) w := by
  obtain ⟨_, ⟨f1, f2, rfl, ⟨bl, cl, hk, g1, g2, rfl, hg1, g3, g4, rfl, hg3, hg4⟩, hp⟩, hh⟩ := h
  obtain rfl := hg4
  refine ⟨bl, cl, hk, _, ⟨g1, g3 ++ f2, rfl, hg1, g3, f2, rfl, hg3, hp⟩, ?_⟩
  simpa [List.append_assoc] using hh
theorem Sat.shutR {p N : Nat} {es : Es} {bl : Option Addr} {cl : Nat} {L : List HP} {w : World} (hk : SlOk bl es.length ∧ es.length ≤ cl)
    (h : Sat (Blk p [.int .i64 ((N : Nat) : Int), .slice bl es.length cl] 52 :: SlV 54 2 (.slice bl es.length cl) es.length (pairs es) :: L) w) : Sat (RefO p N es :: L) w := by
  obtain ⟨_, ⟨g1, _, rfl, hg1, g3, f2, rfl, hg3, hp⟩, hh⟩ := h
  refine ⟨_, ⟨g1 ++ (g3 ++ []), f2, rfl, ⟨bl, cl, hk, g1, g3 ++ [], rfl, hg1, g3, [], rfl, hg3, rfl⟩, hp⟩, ?_⟩
  simpa [List.append_assoc] using hh
section
variable {K : Act → World → Prop} {W : World} {N' : Nat} {E : List (Nat × Value)} {L : List HP}
theorem t_openR {p N : Nat} {es : Es} (k : ∀ bl cl, SlOk bl es.length → es.length ≤ cl → Tri K W N' E (Blk p [.int .i64 ((N : Nat) : Int), .slice bl es.length cl] 52 :: SlV 54 2 (.slice bl es.length cl) es.length (pairs es) :: L)) : Tri K W N' E (RefO p N es :: L) := fun a w s => by
  obtain ⟨bl, cl, h1, h2⟩ := s.sat.openR
  exact k bl cl h1.1 h1.2 a w ⟨s.size, s.defers, s.env, h2, s.ext⟩
theorem t_shutR {p N : Nat} {es : Es} {bl : Option Addr} {cl : Nat} (h1 : SlOk bl es.length) (h2 : es.length ≤ cl) (k : Tri K W N' E (RefO p N es :: L)) :
    Tri K W N' E (Blk p [.int .i64 ((N : Nat) : Int), .slice bl es.length cl] 52 :: SlV 54 2 (.slice bl es.length cl) es.length (pairs es) :: L) :=
  t_sat (fun _ hs => hs.shutR ⟨h1, h2⟩) k
end
end Go.Proofs.YtppgccafgfpkdaaDoor.Sp
