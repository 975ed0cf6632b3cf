/- The lowest bit of a set, the set without it, the sets of what is reached: plain numbers. No program in it. -/
import Derived.Test.YtppgccafgfpkdaaDoorGra
import Derived.Lib.TrailingZeros
namespace Go.Proofs.YtppgccafgfpkdaaDoor.Sp
open Go
def Tab (L : List HP) : Prop := ∀ j, j < 64 → Gives L ⟨0, j, none⟩ (.int .u8 ((Lib.deBruijn64tab.getD j 0 : Nat) : Int))
theorem Tab.cons {A : HP} {L : List HP} (h : Tab L) : Tab (A :: L) := fun j hj => (h j hj).cons
theorem u64_wrap (x : Int) : IntKind.u64.wrap x = x % 18446744073709551616 := by simp [IntKind.wrap, IntKind.bits, IntKind.signed]
theorem neg_u64 {m : Nat} (h0 : m ≠ 0) (hm : m < 2 ^ 64) : IntKind.u64.wrap (0 - (m : Int)) = ((2 ^ 64 - m : Nat) : Int) := by
  rw [u64_wrap]; omega
theorem and_low {m : Nat} (h0 : m ≠ 0) (hm : m < 2 ^ 64) : bAnd .u64 (m : Int) ((2 ^ 64 - m : Nat) : Int) = ((2 ^ Lib.ctz 64 m : Nat) : Int) := by
  rw [bAnd_nat m _ hm (by omega), (Lib.lowest_bit 64 m h0 hm).1]
theorem mul_low (k : Nat) : IntKind.u64.wrap (((2 ^ k : Nat) : Int) * 285870213051353865) = ((2 ^ k * 285870213051353865 % 18446744073709551616 : Nat) : Int) := by
  rw [u64_wrap]; generalize 2 ^ k = t; omega
theorem shr_58 (m : Nat) : bShr .u64 (m : Int) 58 = ((m / 288230376151711744 : Nat) : Int) := by
  have := bShr_nat m 58 (by omega)
  exact this
theorem ctz_lt {m : Nat} (h0 : m ≠ 0) (hm : m < 2 ^ 64) : Lib.ctz 64 m < 64 := (Lib.lowest_bit 64 m h0 hm).2
theorem ctz_bit {m : Nat} (h0 : m ≠ 0) (hm : m < 2 ^ 64) : m.testBit (Lib.ctz 64 m) = true := by
  have h := (Lib.lowest_bit 64 m h0 hm).1
  have h1 : (m &&& (2 ^ 64 - m)).testBit (Lib.ctz 64 m) = true := by rw [h]; simp
  rw [Nat.testBit_and] at h1
  simp only [Bool.and_eq_true] at h1
  exact h1.1
theorem ctz_least {m : Nat} (h0 : m ≠ 0) (hm : m < 2 ^ 64) {i : Nat} (hi : m.testBit i = true) : Lib.ctz 64 m ≤ i := by
  obtain ⟨q, hq, _⟩ := Lib.ctzFrom_spec 64 m (by omega) hm
  have e : Lib.ctz 64 m = Lib.ctzFrom 64 m := by simp [Lib.ctz, h0]
  rw [e]
  apply Nat.le_of_not_lt
  intro hlt
  rw [hq, Nat.mul_comm, Nat.testBit_mul_two_pow] at hi
  simp only [Bool.and_eq_true, decide_eq_true_eq] at hi
  omega
theorem low_off {m : Nat} (h0 : m ≠ 0) (hm : m < 2 ^ 64) : ∃ r : Nat, bAnd .u64 (m : Int) (IntKind.u64.wrap ((m : Int) - 1)) = (r : Int) ∧ r < m ∧ ∀ i, r.testBit i = (m.testBit i && decide (i ≠ Lib.ctz 64 m)) := by
  have e1 : IntKind.u64.wrap ((m : Int) - 1) = ((m - 1 : Nat) : Int) := by rw [u64_wrap]; omega
  rw [e1]
  refine ⟨m &&& (m - 1), bAnd_nat m (m - 1) hm (by omega), ?_, fun i => ?_⟩
  · have := Nat.and_le_right (n := m) (m := m - 1); omega
  · obtain ⟨q, hq, hk⟩ := Lib.ctzFrom_spec 64 m (by omega) hm
    have e : Lib.ctz 64 m = Lib.ctzFrom 64 m := by simp [Lib.ctz, h0]
    rw [← e] at hq hk
    generalize Lib.ctz 64 m = k at *
    have hm1 : m - 1 = 2 ^ k * (2 * q) + (2 ^ k - 1) := by
      have : 0 < 2 ^ k := Nat.two_pow_pos k
      rw [hq, Nat.mul_add, Nat.mul_one]; omega
    rw [Nat.testBit_and, hm1, Nat.testBit_two_pow_mul_add _ (by have : 0 < 2 ^ k := Nat.two_pow_pos k; omega), hq]
    rw [Nat.mul_comm (2 ^ k), Nat.testBit_mul_two_pow]
    by_cases hik : i < k
    · have h1 : ¬ k ≤ i := by omega
      simp [h1]
    · have h1 : k ≤ i := by omega
      simp only [hik, if_false, h1, decide_true, Bool.true_and]
      by_cases he : i = k
      · subst he; simp
      · obtain ⟨j, rfl⟩ : ∃ j, i = k + (j + 1) := ⟨i - k - 1, by omega⟩
        have e3 : k + (j + 1) - k = j + 1 := by omega
        rw [e3, Nat.testBit_succ, Nat.testBit_succ]
        have d1 : (2 * q + 1) / 2 = q := by omega
        have d2 : 2 * q / 2 = q := by omega
        rw [d1, d2]; simp
/-- the tasks of a set, rising -/
def bitsOf (m : Nat) : List Int := ((List.range 64).filter fun i => m.testBit i).map fun i : Nat => (i : Int)
theorem bits_lt {m : Nat} (h : ∀ i, m.testBit i = true → i < 64) : m < 2 ^ 64 := by
  refine Nat.lt_pow_two_of_testBit m fun i hi => ?_
  cases hb : m.testBit i with
  | false => rfl
  | true => have := h i hb; omega
theorem bits_zero {m : Nat} (h : ∀ i, m.testBit i = false) : m = 0 := Nat.eq_of_testBit_eq fun i => by rw [h i, Nat.zero_testBit]
theorem filter_first {p : Nat → Bool} {n k : Nat} (hk : k < n) (hp : p k = true) (hl : ∀ i, p i = true → k ≤ i) : (List.range n).filter p = k :: (List.range n).filter fun i => p i && decide (i ≠ k) := by
  have h1 : List.range n = List.range' 0 k ++ k :: List.range' (k + 1) (n - k - 1) := by
    rw [List.range_eq_range']
    have : List.range' 0 n = List.range' 0 k ++ List.range' k (n - k) := by
      have := List.range'_append_1 (s := 0) (m := k) (n := n - k)
      rw [Nat.zero_add] at this
      rw [this]; congr 1; omega
    rw [this]
    congr 1
    obtain ⟨d, hd⟩ : ∃ d, n - k = d + 1 := ⟨n - k - 1, by omega⟩
    rw [hd, List.range'_succ]; congr 1
  rw [h1, List.filter_append, List.filter_append, List.filter_cons, List.filter_cons]
  have e1 : (List.range' 0 k).filter p = [] := by
    rw [List.filter_eq_nil_iff]
    intro i hi h
    have := hl i h
    have := (List.mem_range'_1.1 hi)
    omega
  have e2 : (List.range' 0 k).filter (fun i => p i && decide (i ≠ k)) = [] := by
    rw [List.filter_eq_nil_iff]
    intro i hi h
    simp only [Bool.and_eq_true] at h
    have := hl i h.1
    have := (List.mem_range'_1.1 hi)
    omega
  rw [e1, e2, hp]
  simp only [if_true, List.nil_append, ne_eq, not_true_eq_false, decide_false, Bool.and_false, Bool.false_eq_true, if_false]
  congr 1
  apply List.filter_congr
  intro i hi
  have := (List.mem_range'_1.1 hi)
  have : i ≠ k := by omega
  simp [this]
theorem bitsOf_step {m r : Nat} (h0 : m ≠ 0) (hm : m < 2 ^ 64) (hr : ∀ i, r.testBit i = (m.testBit i && decide (i ≠ Lib.ctz 64 m))) : bitsOf m = ((Lib.ctz 64 m : Nat) : Int) :: bitsOf r := by
  unfold bitsOf
  rw [filter_first (p := fun i => m.testBit i) (ctz_lt h0 hm) (ctz_bit h0 hm) (fun i hi => ctz_least h0 hm hi), List.map_cons]
  congr 2
  apply List.filter_congr
  intro i _
  rw [hr]
theorem bitsOf_zero : bitsOf 0 = [] := by simp [bitsOf]
theorem bitsOf_len (m : Nat) : (bitsOf m).length ≤ 64 := by
  unfold bitsOf
  rw [List.length_map]
  exact Nat.le_trans (List.length_filter_le _ _) (by simp)
theorem filter_range_mono (p : Nat → Bool) (n N : Nat) (h : N ≤ n) (hp : ∀ i, p i = true → i < N) : (List.range n).filter p = (List.range N).filter p := by
  induction n with
  | zero => have : N = 0 := by omega
            subst this; rfl
  | succ n ih =>
    by_cases e : N = n + 1
    · subst e; rfl
    · have hn : p n = false := by cases hb : p n with | false => rfl | true => have := hp n hb; omega
      rw [List.range_succ, List.filter_append, ih (by omega)]
      simp [hn]
/-- a set that holds just what is reached: its tasks, rising -/
theorem bitsOf_reach {N : Nat} {es : Es} {m a : Nat} (hg : GOk N es) (ha : a < N) (h : ∀ i : Nat, m.testBit i = true ↔ Rch es (a : Int) (i : Int)) : bitsOf m = reachL N es (a : Int) := by
  have hin : ∀ i : Nat, Rch es (a : Int) (i : Int) → i < N := fun i hi => by have := hi.inn hg ⟨by omega, by omega⟩; omega
  unfold bitsOf reachL
  rw [valid_nat ha, cond_true]
  congr 1
  have e : ∀ i : Nat, m.testBit i = rch es (a : Int) (i : Int) := fun i => by
    rw [Bool.eq_iff_iff, h, rch_iff]
  rw [filter_range_mono (fun i => m.testBit i) 64 N hg.small (fun i hi => hin i ((h i).1 hi))]
  exact List.filter_congr fun i _ => e i
/-! the sets seen and open, round by round -/
structure RInv (N : Nat) (es : Es) (a : Nat) (seen opn : Nat) : Prop where
  sl : seen < 2 ^ 64
  ol : opn < 2 ^ 64
  reach : ∀ i : Nat, (seen.testBit i = true ∨ opn.testBit i = true) → Rch es (a : Int) (i : Int)
  start : seen.testBit a = true ∨ opn.testBit a = true
  apart : ∀ i : Nat, opn.testBit i = true → seen.testBit i = false
  closed : ∀ i j : Nat, seen.testBit i = true → ((i : Int), (j : Int)) ∈ es → seen.testBit j = true ∨ opn.testBit j = true
def unseen (seen : Nat) : Nat := ((List.range 64).filter fun i => !seen.testBit i).length
theorem RInv.init {N : Nat} {es : Es} (a : Nat) (ha : a < 64) : RInv N es a 0 (2 ^ a) := by
  refine ⟨by omega, Nat.pow_lt_pow_right (by omega) ha, fun i hi => ?_, .inr (by simp), fun i _ => by simp, fun i j hi => by simp at hi⟩
  rcases hi with h | h
  · simp at h
  · simp [Nat.testBit_two_pow] at h; subst h; exact .refl
theorem RInv.step {N : Nat} {es : Es} {a seen opn : Nat} (hg : GOk N es) (h : RInv N es a seen opn) (h0 : opn ≠ 0) {o2 : Nat}
    (ho2 : ∀ i, o2.testBit i = ((opn ||| maskL (outs es ((Lib.ctz 64 opn : Nat) : Int))).testBit i && !(seen ||| 2 ^ Lib.ctz 64 opn).testBit i)) :
    RInv N es a (seen ||| 2 ^ Lib.ctz 64 opn) o2 ∧ unseen (seen ||| 2 ^ Lib.ctz 64 opn) < unseen seen := by
  have hx := ctz_bit h0 h.ol
  have hxl := ctz_lt h0 h.ol
  generalize Lib.ctz 64 opn = x at *
  have hxs := h.apart x hx
  have hxr := h.reach x (.inr hx)
  have hs2 := fun i => with_test seen x i
  have hsl2 := with_lt seen x hxl h.sl
  refine ⟨⟨hsl2, ?_, fun i hi => ?_, ?_, fun i hi => ?_, fun i j hi hij => ?_⟩, ?_⟩
  · apply bits_lt
    intro i hi
    rw [ho2, Nat.testBit_or] at hi
    simp only [Bool.and_eq_true, Bool.or_eq_true] at hi
    rcases hi.1 with h1 | h1
    · apply Nat.lt_of_not_le; intro hle
      rw [Nat.testBit_lt_two_pow (Nat.lt_of_lt_of_le h.ol (Nat.pow_le_pow_right (by omega) hle))] at h1; cases h1
    · apply Nat.lt_of_not_le; intro hle
      rw [Nat.testBit_lt_two_pow (Nat.lt_of_lt_of_le (hg.mask_lt _) (Nat.pow_le_pow_right (by omega) hle))] at h1; cases h1
  · rw [hs2, ho2, Nat.testBit_or] at hi
    simp only [Bool.or_eq_true, Bool.and_eq_true, decide_eq_true_eq] at hi
    rcases hi with (h1 | h1) | ⟨h1 | h1, _⟩
    · exact h.reach i (.inl h1)
    · subst h1; exact hxr
    · exact h.reach i (.inr h1)
    · exact hxr.step ((hg.mask_bit _ _).1 h1)
  · rw [hs2, ho2, Nat.testBit_or, hs2]
    rcases h.start with h1 | h1
    · exact .inl (by simp [h1])
    · by_cases e : a = x
      · exact .inl (by simp [e])
      · by_cases hs : seen.testBit a = true
        · exact .inl (by simp [hs])
        · exact .inr (by simp [h1, hs, e])
  · rw [ho2] at hi
    simp only [Bool.and_eq_true, Bool.not_eq_true'] at hi
    exact hi.2
  · rw [hs2] at hi
    simp only [Bool.or_eq_true, decide_eq_true_eq] at hi
    rw [hs2, ho2, Nat.testBit_or, hs2]
    by_cases hj : (seen.testBit j || decide (j = x)) = true
    · exact .inl hj
    · refine .inr ?_
      simp only [Bool.not_eq_true] at hj
      rw [hj]
      simp only [Bool.not_false, Bool.and_true, Bool.or_eq_true]
      rcases hi with h1 | h1
      · rcases h.closed i j h1 hij with h2 | h2
        · rw [h2] at hj; cases hj
        · exact .inl h2
      · subst h1; exact .inr ((hg.mask_bit _ _).2 hij)
  · unfold unseen
    have hsub : ((List.range 64).filter fun i => !(seen ||| 2 ^ x).testBit i) = ((List.range 64).filter fun i => !seen.testBit i).filter fun i => decide (i ≠ x) := by
      rw [List.filter_filter]
      apply List.filter_congr
      intro i _
      rw [hs2]; cases seen.testBit i <;> simp
    rw [hsub]
    have hmem : x ∈ (List.range 64).filter fun i => !seen.testBit i := List.mem_filter.2 ⟨List.mem_range.2 hxl, by simp [hxs]⟩
    exact List.length_filter_lt_length_iff_exists.2 ⟨x, hmem, by simp⟩
theorem RInv.done {N : Nat} {es : Es} {a seen : Nat} (hg : GOk N es) (h : RInv N es a seen 0) : ∀ i : Nat, seen.testBit i = true ↔ Rch es (a : Int) (i : Int) := by
  intro i
  refine ⟨fun hi => h.reach i (.inl hi), fun hr => ?_⟩
  have key : ∀ j : Int, Rch es (a : Int) j → ∃ k : Nat, j = (k : Int) ∧ seen.testBit k = true := by
    intro j hj
    induction hj with
    | refl => rcases h.start with h1 | h1
              · exact ⟨a, rfl, h1⟩
              · simp at h1
    | step _ he ih =>
      obtain ⟨k, rfl, hk⟩ := ih
      have hin := hg.inn _ he
      simp only at hin
      rename_i c _
      obtain ⟨c, rfl⟩ := Int.eq_ofNat_of_zero_le hin.2.2.1
      rcases h.closed k c hk he with h1 | h1
      · exact ⟨c, rfl, h1⟩
      · simp at h1
  obtain ⟨k, hk, hb⟩ := key _ hr
  have : i = k := by omega
  rw [this]; exact hb
theorem rowsL_nils (n : Nat) {L : List HP} {w : World} (h : Sat L w) : Sat (Join (rowsL (List.replicate n (.slice none 0 0)) (rowsOf n fun _ => [])) :: L) w := by
  refine Sat.join.2 ?_
  have e : rowsOf n (fun _ => []) = List.replicate n [] := by
    apply List.ext_getElem
    · simp [rowsOf]
    · intro i h1 h2; simp [rowsOf]
  rw [e]
  unfold rowsL
  rw [List.zipWith_replicate, Nat.min_self]
  induction n with
  | zero => exact h
  | succ n ih => rw [List.replicate_succ, List.cons_append]; exact Sat.shutI slok_none (Nat.le_refl _) (sat_nilsl 3 1 (ih (by
      apply List.ext_getElem
      · simp [rowsOf]
      · intro i h1 h2; simp [rowsOf])))
theorem masksOf_nil (n : Nat) : masksOf n ([] : Es) = List.replicate n 0 := by
  apply List.ext_getElem
  · simp [masksOf]
  · intro i h1 h2; simp [masksOf, outs, maskL]
theorem sat_newG {b n : Nat} {bo bi bt : Option Addr} {co ci ct : Nat} {L : List HP} {w : World} (hn : n ≤ 64) (ho : SlOk bo n) (hi : SlOk bi n) (ht : SlOk bt n)
    (h : Sat (Blk b [.slice bo n co, .slice bi n ci, .slice bt n ct, .int .i64 0] 64 :: SlV 33 1 (.slice bo n co) n (List.replicate n (.slice none 0 0)) :: SlV 33 1 (.slice bi n ci) n (List.replicate n (.slice none 0 0)) :: SlV 68 1 (.slice bt n ct) n (ints .u64 (List.replicate n 0)) :: L) w) :
    Sat (GraphO b n ([] : Es) :: L) w := by
  refine Sat.shutG (bo := bo) (co := co) (bi := bi) (ci := ci) (bt := bt) (ct := ct) (vo := List.replicate n (.slice none 0 0)) (vi := List.replicate n (.slice none 0 0)) ⟨⟨hn, List.nodup_nil, fun e he => by cases he⟩, ho, hi, ht, by simp, by simp⟩ ?_
  have h1 := rowsL_nils n (rowsL_nils n h)
  have e1 : rowsOf n (outs []) = rowsOf n fun _ => [] := rfl
  have e2 : rowsOf n (inns []) = rowsOf n fun _ => [] := rfl
  unfold GParts
  rw [e1, e2, masksOf_nil]
  exact h1.perm (List.perm_append_comm (l₁ := [_, _]) (l₂ := [_, _, _, _]) |>.append_right L)
end Go.Proofs.YtppgccafgfpkdaaDoor.Sp
