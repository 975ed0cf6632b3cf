/- The document's Best, Fits, Wants: contracts. -/
import Derived.Test.YtfoiopbjomaclaaDoorRa
import Derived.Test.YtfoiopbjomaclaaDoorPib
set_option maxRecDepth 100000
set_option linter.unusedVariables false
set_option linter.unusedSimpArgs false
namespace Go.Proofs.YtfoiopbjomaclaaDoor
open Go Go.Proofs Sp
set_option maxHeartbeats 4000000 in
theorem rbest_ok {R : List HP} {bx bb : Option Addr} {cx cy n1 n2 m : Nat} (xs ys : List Int) (h1 : n1 ≤ xs.length) (h2 : n2 ≤ ys.length) (hm : m = min n1 n2) (hx : Rd R bx (ints .i64 xs)) (hy : Rd R bb (ints .i64 ys)) (okx : SlOk bx n1) (oky : SlOk bb n2) (lx : n1 ≤ 1000000) (ly : n2 ≤ 1000000) (hcy : n2 ≤ cy) :
    Ok Tryd.prog 14 [(.slice bx n1 cx), (.slice bb n2 cy)] R
      (fun v M => ∃ bs cp, SlOk bs (bestN xs ys m).2.length ∧ (bestN xs ys m).2.length ≤ cp ∧ v = .tuple #[.int .i64 (bestN xs ys m).1, .slice bs (bestN xs ys m).2.length cp] ∧ M = SlV 3 1 (.slice bs (bestN xs ys m).2.length cp) (bestN xs ys m).2.length (ints .i64 (bestN xs ys m).2) :: R) := by
  refine ok_of (N := 57) Tryd.func14 rfl rfl rfl (fun W => ?_)
  refine c_seq (fun K1 hK1 => ?_)
  refine c_region ?_
  refine tp rfl (lv_assign rfl) ?_
  refine tp rfl (lv_assign rfl) ?_
  refine t_done ?_
  refine q_then_n (hK1 _ _ ?_)
  refine c_seq (fun K2 hK2 => ?_)
  refine c_region ?_
  refine tp rfl (lv_assign rfl) ?_
  refine t_done ?_
  refine q_then_n (hK2 _ _ ?_)
  refine c_seq (fun K3 hK3 => ?_)
  refine c_region ?_
  refine tm rfl (mv_buildSlice (cs := []) Tryd.underlying22 Tryd.sizeOf3 Tryd.zeroValue3 (by decide) rfl rfl rfl rfl) ?_
  rintro _ _ ⟨bs1, cp2, hok3, hle4, rfl, rfl⟩
  refine tp rfl (lv_assign rfl) ?_
  refine t_done ?_
  refine q_then_n (hK3 _ _ ?_)
  refine c_seq (fun K4 hK4 => ?_)
  refine c_seq (fun K5 hK5 => ?_)
  refine c_region ?_
  refine tp rfl (lv_assign rfl) ?_
  refine t_done ?_
  refine q_then_n (hK5 _ _ ?_)
  refine c_block ?_
  refine c_loop (γ := (Nat) × (Int) × (List Int) × (Option Addr) × (Nat)) (fun (k, p, qs, bt, ct) => k ≤ m ∧ bestN xs ys k = (p, qs) ∧ SlOk bt qs.length ∧ qs.length ≤ ct) (fun (k, p, qs, bt, ct) => [(0, (.slice bx n1 cx)), (1, (.slice bb n2 cy)), (4, (.int .i64 0)), (5, (.slice none 0 0)), (6, (.int .i64 p)), (7, (.slice bt qs.length ct)), (8, (.int .i64 ((k : Nat) : Int)))]) (fun (k, p, qs, bt, ct) => (SlV 3 1 (.slice bt qs.length ct) qs.length (ints .i64 qs)) :: R) (fun (k, p, qs, bt, ct) => m - k) (0, (-1), [], bs1, cp2) ⟨by omega, rfl, hok3, hle4⟩ ⟨rfl, rfl, rfl, rfl, rfl, rfl, rfl, trivial⟩ (fun _ h => h) ?_
  rintro ⟨k, p, qs, bt, ct⟩ K6 hF hK6
  try dsimp only at hF hK6 ⊢
  obtain ⟨hk, hb, hok, hle⟩ := hF
  have htl : qs.length ≤ k := by have := bestN_len xs ys k; rw [hb] at this; exact this
  refine c_seq (fun K7 hK7 => ?_)
  refine c_seq (fun K8 hK8 => ?_)
  refine c_region ?_
  by_cases hc5 : ((k : Nat) : Int) < ((n1 : Nat) : Int) ∧ ((k : Nat) : Int) < ((n2 : Nat) : Int)
  · -- both
    have hc5a := hc5.1
    have hc5b := hc5.2
    refine tp rfl (lv_move rfl) ?_
    refine tp rfl (lv_move rfl) ?_
    refine tp rfl (lv_len Tryd.underlying22 rfl rfl) ?_
    refine tp rfl (lv_lss rfl rfl (decide_eq_true hc5.1)) ?_
    refine tp rfl (lv_move rfl) ?_
    refine t_guard rfl rfl ?_
    refine tp rfl (lv_move rfl) ?_
    refine t_guard rfl rfl ?_
    refine tp rfl (lv_move rfl) ?_
    refine t_guard rfl rfl ?_
    refine tp rfl (lv_len Tryd.underlying22 rfl rfl) ?_
    refine t_guard rfl rfl ?_
    refine tp rfl (lv_lss rfl rfl (decide_eq_true hc5.2)) ?_
    refine tp rfl (lv_pick_t rfl rfl) ?_
    refine t_done ?_
    refine q_then_n (hK8 _ _ ?_)
    refine c_true rfl ?_
    refine c_skip ?_
    refine q_then_n (hK7 _ _ ?_)
    refine c_seq (fun K9 hK9 => ?_)
    refine c_block ?_
    refine c_seq (fun K10 hK10 => ?_)
    refine c_seq (fun K11 hK11 => ?_)
    refine c_region ?_
    refine tp rfl (lv_move rfl) ?_
    refine tp rfl (lv_move rfl) ?_
    refine tp rfl (lv_indexAddr (k' := k) Tryd.underlying22 Tryd.sizeOf3 rfl rfl okx (by omega) (by omega) (by omega)) ?_
    refine tp rfl (lv_load Tryd.isAgg3 rfl (Rd.gives (Rd.cons hx) (ints_get (by first | omega | (simp; omega))))) ?_
    by_cases hst : ((xs).getD k 0) = 1
    · -- yes
      refine tp rfl (lv_neq rfl rfl (bne_eq_false_iff_eq.2 hst)) ?_
      refine tp rfl (lv_move rfl) ?_
      refine t_guard rfl rfl ?_
      refine tp rfl (lv_move rfl) ?_
      refine t_guard rfl rfl ?_
      refine tp rfl (lv_move rfl) ?_
      refine t_guard rfl rfl ?_
      refine tp rfl (lv_indexAddr (k' := k) Tryd.underlying22 Tryd.sizeOf3 rfl rfl oky (by omega) (by omega) (by omega)) ?_
      refine t_guard rfl rfl ?_
      refine tp rfl (lv_load Tryd.isAgg3 rfl (Rd.gives (Rd.cons hy) (ints_get (by first | omega | (simp; omega))))) ?_
      refine t_guard rfl rfl ?_
      by_cases hlt : ((ys).getD k 0) < 0
      · -- yes
        refine tp rfl (lv_lss rfl rfl (decide_eq_true hlt)) ?_
        refine tp rfl (lv_pick_f rfl rfl) ?_
        refine t_done ?_
        refine q_then_n (hK11 _ _ ?_)
        refine c_true rfl ?_
        refine c_exit ?_
        refine q_then_x ?_
        refine q_in_x ?_
        refine q_then_n (hK9 _ _ ?_)
        refine c_region ?_
        refine tp rfl (lv_move rfl) ?_
        refine tp rfl (lv_add (c := ((k + 1 : Nat) : Int)) rfl rfl (wr_i64_succ (by omega))) ?_
        refine tp rfl (lv_assign rfl) ?_
        refine t_done ?_
        refine q_then_n ?_
        exact t_weak (by exact ⟨rfl, rfl, rfl, rfl, rfl, rfl, rfl, trivial⟩) ((hK6 (k + 1, p, qs, bt, ct) (by dsimp only; exact ⟨by omega, (by first | exact best_no hb (fun hh => hst hh.1) | exact best_no hb (fun hh => hh.2 (by omega))), hok, hle⟩) (by omega)))
      · -- no
        refine tp rfl (lv_lss rfl rfl (decide_eq_false hlt)) ?_
        refine tp rfl (lv_pick_f rfl rfl) ?_
        refine t_done ?_
        refine q_then_n (hK11 _ _ ?_)
        refine c_false rfl ?_
        refine c_skip ?_
        refine q_then_n (hK10 _ _ ?_)
        refine c_seq (fun K12 hK12 => ?_)
        refine c_seq (fun K13 hK13 => ?_)
        refine c_region ?_
        refine tp rfl (lv_move rfl) ?_
        refine tp rfl (lv_move rfl) ?_
        refine tp rfl (lv_indexAddr (k' := k) Tryd.underlying22 Tryd.sizeOf3 rfl rfl oky (by omega) (by omega) (by omega)) ?_
        refine tp rfl (lv_load Tryd.isAgg3 rfl (Rd.gives (Rd.cons hy) (ints_get (by first | omega | (simp; omega))))) ?_
        refine tp rfl (lv_move rfl) ?_
        by_cases hgt : ((ys).getD k 0) > p
        · -- yes
         refine tp rfl (lv_gtr rfl rfl (decide_eq_true hgt)) ?_
         refine t_done ?_
         refine q_then_n (hK13 _ _ ?_)
         refine c_true rfl ?_
         refine c_seq (fun K14 hK14 => ?_)
         refine c_region ?_
         refine tp rfl (lv_move rfl) ?_
         refine tp rfl (lv_move rfl) ?_
         refine tp rfl (lv_indexAddr (k' := k) Tryd.underlying22 Tryd.sizeOf3 rfl rfl oky (by omega) (by omega) (by omega)) ?_
         refine tp rfl (lv_load Tryd.isAgg3 rfl (Rd.gives (Rd.cons hy) (ints_get (by first | omega | (simp; omega))))) ?_
         refine tp rfl (lv_assign rfl) ?_
         refine t_done ?_
         refine q_then_n (hK14 _ _ ?_)
         refine c_region ?_
         refine tm rfl (mv_buildSlice (cs := []) Tryd.underlying22 Tryd.sizeOf3 Tryd.zeroValue3 (by decide) rfl rfl rfl rfl) ?_
         rintro _ _ ⟨bs6, cp7, hok8, hle9, rfl, rfl⟩
         refine tp rfl (lv_assign rfl) ?_
         refine t_done ?_
         refine q_then_n (hK12 _ _ ?_)
         refine c_seq (fun K15 hK15 => ?_)
         refine c_region ?_
         refine tp rfl (lv_move rfl) ?_
         refine tp rfl (lv_move rfl) ?_
         refine tp rfl (lv_indexAddr (k' := k) Tryd.underlying22 Tryd.sizeOf3 rfl rfl oky (by omega) (by omega) (by omega)) ?_
         refine tp rfl (lv_load Tryd.isAgg3 rfl (Rd.gives (Rd.cons (Rd.cons hy)) (ints_get (by first | omega | (simp; omega))))) ?_
         refine tp rfl (lv_move rfl) ?_
         refine tp rfl (lv_eql rfl rfl (beq_iff_eq.2 rfl)) ?_
         refine t_done ?_
         refine q_then_n (hK15 _ _ ?_)
         refine c_true rfl ?_
         refine c_region ?_
         refine tp rfl (lv_move rfl) ?_
         refine tp rfl (lv_move rfl) ?_
         refine tm rfl (mv_buildSlice (cs := [(.int .i64 ((k : Nat) : Int))]) Tryd.underlying22 Tryd.sizeOf3 Tryd.zeroValue3 (by decide) rfl rfl rfl rfl) ?_
         rintro _ _ ⟨bs10, cp11, hok12, hle13, rfl, rfl⟩
         refine t_f1 ?_
         refine tm rfl (mv_append (i := Tryd.t3) Tryd.underlying22 Tryd.type3 rfl rfl rfl (by decide) rfl rfl hok12 (by first | (simp; done) | (simp; omega)) (rd_sl (.tail _ (.head _))) (by simp [Value.oneCell']) (by rw [show Tryd.t3.bytes = 8 from rfl]; omega)) ?_
         rintro _ _ ⟨bs14, cp15, hok16, hle17, rfl, rfl⟩
         simp only [Nat.zero_add] at hok16 hle17 ⊢
         refine tp rfl (lv_assign rfl) ?_
         refine t_done ?_
         refine q_in_n ?_
         refine q_then_n (hK9 _ _ ?_)
         refine c_region ?_
         refine tp rfl (lv_move rfl) ?_
         refine tp rfl (lv_add (c := ((k + 1 : Nat) : Int)) rfl rfl (wr_i64_succ (by omega))) ?_
         refine tp rfl (lv_assign rfl) ?_
         refine t_done ?_
         refine q_then_n ?_
         refine t_f1 ?_
         refine t_drop ?_
         refine t_f1 ?_
         refine t_drop ?_
         exact t_weak (by exact ⟨rfl, rfl, rfl, rfl, rfl, rfl, rfl, trivial⟩) ((hK6 (k + 1, (ys).getD k 0, [((k : Nat) : Int)], bs14, cp15) (by dsimp only; exact ⟨by omega, best_new hb hst (by omega) hgt, hok16, hle17⟩) (by omega)))
        · -- no
         refine tp rfl (lv_gtr rfl rfl (decide_eq_false hgt)) ?_
         refine t_done ?_
         refine q_then_n (hK13 _ _ ?_)
         refine c_false rfl ?_
         refine c_skip ?_
         refine q_then_n (hK12 _ _ ?_)
         refine c_seq (fun K14 hK14 => ?_)
         refine c_region ?_
         refine tp rfl (lv_move rfl) ?_
         refine tp rfl (lv_move rfl) ?_
         refine tp rfl (lv_indexAddr (k' := k) Tryd.underlying22 Tryd.sizeOf3 rfl rfl oky (by omega) (by omega) (by omega)) ?_
         refine tp rfl (lv_load Tryd.isAgg3 rfl (Rd.gives (Rd.cons hy) (ints_get (by first | omega | (simp; omega))))) ?_
         refine tp rfl (lv_move rfl) ?_
         by_cases heq : ((ys).getD k 0) = p
         · -- yes
          refine tp rfl (lv_eql rfl rfl (beq_iff_eq.2 heq)) ?_
          refine t_done ?_
          refine q_then_n (hK14 _ _ ?_)
          refine c_true rfl ?_
          refine c_region ?_
          refine tp rfl (lv_move rfl) ?_
          refine tp rfl (lv_move rfl) ?_
          refine tm rfl (mv_buildSlice (cs := [(.int .i64 ((k : Nat) : Int))]) Tryd.underlying22 Tryd.sizeOf3 Tryd.zeroValue3 (by decide) rfl rfl rfl rfl) ?_
          rintro _ _ ⟨bs18, cp19, hok20, hle21, rfl, rfl⟩
          refine t_f1 ?_
          refine tm rfl (mv_append (i := Tryd.t3) Tryd.underlying22 Tryd.type3 rfl rfl rfl (by decide) rfl rfl hok20 (by first | (simp; done) | (simp; omega)) (rd_sl (.tail _ (.head _))) (by simp [Value.oneCell']) (by rw [show Tryd.t3.bytes = 8 from rfl]; omega)) ?_
          rintro _ _ ⟨bs22, cp23, hok24, hle25, rfl, rfl⟩
          rw [show ints .i64 qs ++ [(.int .i64 ((k : Nat) : Int))] = ints .i64 (qs ++ [((k : Nat) : Int)]) from ints_snoc _ _ _]
          rw [show qs.length + 1 = (qs ++ [((k : Nat) : Int)]).length from by simp] at hok24 hle25 ⊢
          refine tp rfl (lv_assign rfl) ?_
          refine t_done ?_
          refine q_in_n ?_
          refine q_then_n (hK9 _ _ ?_)
          refine c_region ?_
          refine tp rfl (lv_move rfl) ?_
          refine tp rfl (lv_add (c := ((k + 1 : Nat) : Int)) rfl rfl (wr_i64_succ (by omega))) ?_
          refine tp rfl (lv_assign rfl) ?_
          refine t_done ?_
          refine q_then_n ?_
          refine t_f1 ?_
          refine t_drop ?_
          exact t_weak (by exact ⟨rfl, rfl, rfl, rfl, rfl, rfl, rfl, trivial⟩) ((hK6 (k + 1, p, qs ++ [((k : Nat) : Int)], bs22, cp23) (by dsimp only; exact ⟨by omega, best_add hb hst (by omega) hgt, hok24, hle25⟩) (by omega)))
         · -- no
          refine tp rfl (lv_eql rfl rfl (beq_eq_false_iff_ne.2 heq)) ?_
          refine t_done ?_
          refine q_then_n (hK14 _ _ ?_)
          refine c_false rfl ?_
          refine c_skip ?_
          refine q_in_n ?_
          refine q_then_n (hK9 _ _ ?_)
          refine c_region ?_
          refine tp rfl (lv_move rfl) ?_
          refine tp rfl (lv_add (c := ((k + 1 : Nat) : Int)) rfl rfl (wr_i64_succ (by omega))) ?_
          refine tp rfl (lv_assign rfl) ?_
          refine t_done ?_
          refine q_then_n ?_
          exact t_weak (by exact ⟨rfl, rfl, rfl, rfl, rfl, rfl, rfl, trivial⟩) ((hK6 (k + 1, p, qs, bt, ct) (by dsimp only; exact ⟨by omega, (by first | exact best_no hb (fun hh => hst hh.1) | exact best_no hb (fun hh => hh.2 (by omega))), hok, hle⟩) (by omega)))
    · -- no
      refine tp rfl (lv_neq rfl rfl (bne_iff_ne.2 hst)) ?_
      refine tp rfl (lv_move rfl) ?_
      refine t_skip rfl rfl rfl ?_
      refine t_skip rfl rfl rfl ?_
      refine t_skip rfl rfl rfl ?_
      refine t_skip rfl rfl rfl ?_
      refine t_skip rfl rfl rfl ?_
      refine tp rfl (lv_pick_t rfl rfl) ?_
      refine t_done ?_
      refine q_then_n (hK11 _ _ ?_)
      refine c_true rfl ?_
      refine c_exit ?_
      refine q_then_x ?_
      refine q_in_x ?_
      refine q_then_n (hK9 _ _ ?_)
      refine c_region ?_
      refine tp rfl (lv_move rfl) ?_
      refine tp rfl (lv_add (c := ((k + 1 : Nat) : Int)) rfl rfl (wr_i64_succ (by omega))) ?_
      refine tp rfl (lv_assign rfl) ?_
      refine t_done ?_
      refine q_then_n ?_
      exact t_weak (by exact ⟨rfl, rfl, rfl, rfl, rfl, rfl, rfl, trivial⟩) ((hK6 (k + 1, p, qs, bt, ct) (by dsimp only; exact ⟨by omega, (by first | exact best_no hb (fun hh => hst hh.1) | exact best_no hb (fun hh => hh.2 (by omega))), hok, hle⟩) (by omega)))
  · -- not both
    refine t_cut0 (E' := [(0, (.slice bx n1 cx)), (1, (.slice bb n2 cy)), (4, (.int .i64 0)), (5, (.slice none 0 0)), (6, (.int .i64 p)), (7, (.slice bt qs.length ct)), (8, (.int .i64 ((k : Nat) : Int))), (19, (.bool false))]) ?_ (fun KK hKK => ?_)
    ·
      refine q_then_n (hK8 _ _ ?_)
      refine c_false rfl ?_
      refine c_exit ?_
      refine q_then_x ?_
      refine q_then_x ?_
      refine q_in_x ?_
      refine q_then_n (hK4 _ _ ?_)
      refine c_seq (fun K9 hK9 => ?_)
      refine c_region ?_
      refine tp rfl (lv_move rfl) ?_
      refine tp rfl (lv_move rfl) ?_
      refine tp rfl (lv_assign rfl) ?_
      refine tp rfl (lv_assign rfl) ?_
      refine t_done ?_
      refine q_then_n (hK9 _ _ ?_)
      refine c_ret ?_
      refine q_ret2 rfl rfl rfl ?_
      have e : k = m := by omega
      subst e
      rw [hb]
      exact ⟨bt, ct, hok, hle, rfl, rfl⟩
    · -- which
      by_cases hc5A : ((k : Nat) : Int) < ((n1 : Nat) : Int)
      ·
        have hc5B : ¬ (((k : Nat) : Int) < ((n2 : Nat) : Int)) := fun hh => hc5 ⟨hc5A, hh⟩
        refine tp rfl (lv_move rfl) ?_
        refine tp rfl (lv_move rfl) ?_
        refine tp rfl (lv_len Tryd.underlying22 rfl rfl) ?_
        refine tp rfl (lv_lss rfl rfl (decide_eq_true hc5A)) ?_
        refine tp rfl (lv_move rfl) ?_
        refine t_guard rfl rfl ?_
        refine tp rfl (lv_move rfl) ?_
        refine t_guard rfl rfl ?_
        refine tp rfl (lv_move rfl) ?_
        refine t_guard rfl rfl ?_
        refine tp rfl (lv_len Tryd.underlying22 rfl rfl) ?_
        refine t_guard rfl rfl ?_
        refine tp rfl (lv_lss rfl rfl (decide_eq_false hc5B)) ?_
        refine tp rfl (lv_pick_t rfl rfl) ?_
        exact t_done (t_weak (by exact ⟨rfl, rfl, rfl, rfl, rfl, rfl, rfl, rfl, trivial⟩) hKK)
      ·
        refine tp rfl (lv_move rfl) ?_
        refine tp rfl (lv_move rfl) ?_
        refine tp rfl (lv_len Tryd.underlying22 rfl rfl) ?_
        refine tp rfl (lv_lss rfl rfl (decide_eq_false hc5A)) ?_
        refine tp rfl (lv_move rfl) ?_
        refine t_skip rfl rfl rfl ?_
        refine t_skip rfl rfl rfl ?_
        refine t_skip rfl rfl rfl ?_
        refine t_skip rfl rfl rfl ?_
        refine tp rfl (lv_pick_f rfl rfl) ?_
        exact t_done (t_weak (by exact ⟨rfl, rfl, rfl, rfl, rfl, rfl, rfl, rfl, trivial⟩) hKK)

theorem rfits_ok {R : List HP} {bx bl : Option Addr} {cx cl n nx : Nat} (xs : List Int) (es : List (Int × Int)) (room : Int) (hxn : xs.length = nx) (hn : n ≤ es.length) (hx : Rd R bx (ints .i64 xs)) (hl : Rd R bl (pairs es)) (okx : SlOk bx nx) (okl : SlOk bl n) (lx : nx ≤ 1000000) :
    Ok Tryd.prog 16 [(.slice bx nx cx), (.slice bl n cl), (.int .i64 room)] R
      (OutSl 3 1 (xs.filter (fitB n es room)).length (ints .i64 (xs.filter (fitB n es room))) R) := by
  refine ok_of (N := 43) Tryd.func16 rfl rfl rfl (fun W => ?_)
  refine c_seq (fun K1 hK1 => ?_)
  refine c_region ?_
  refine tp rfl (lv_assign rfl) ?_
  refine t_done ?_
  refine q_then_n (hK1 _ _ ?_)
  refine c_seq (fun K2 hK2 => ?_)
  refine c_region ?_
  refine tm rfl (mv_buildSlice (cs := []) Tryd.underlying22 Tryd.sizeOf3 Tryd.zeroValue3 (by decide) rfl rfl rfl rfl) ?_
  rintro _ _ ⟨bs1, cp2, hok3, hle4, rfl, rfl⟩
  refine tp rfl (lv_assign rfl) ?_
  refine t_done ?_
  refine q_then_n (hK2 _ _ ?_)
  refine c_seq (fun K3 hK3 => ?_)
  refine c_seq (fun K4 hK4 => ?_)
  refine c_region ?_
  refine tp rfl (lv_assign rfl) ?_
  refine t_done ?_
  refine q_then_n (hK4 _ _ ?_)
  refine c_block ?_
  refine c_loop (γ := (Nat) × (Option Addr) × (Nat)) (fun (i, bt, ct) => i ≤ nx ∧ SlOk bt ((xs.take i).filter (fitB n es room)).length ∧ ((xs.take i).filter (fitB n es room)).length ≤ ct) (fun (i, bt, ct) => [(0, (.slice bx nx cx)), (1, (.slice bl n cl)), (2, (.int .i64 room)), (6, (.slice none 0 0)), (7, (.slice bt (((xs.take i).filter (fitB n es room)).length) ct)), (8, (.int .i64 ((i : Nat) : Int)))]) (fun (i, bt, ct) => (SlV 3 1 (.slice bt (((xs.take i).filter (fitB n es room)).length) ct) (((xs.take i).filter (fitB n es room)).length) (ints .i64 ((xs.take i).filter (fitB n es room)))) :: R) (fun (i, bt, ct) => nx - i) (0, bs1, cp2) ⟨by omega, hok3, hle4⟩ ⟨rfl, rfl, rfl, rfl, rfl, rfl, trivial⟩ (fun _ h => h) ?_
  rintro ⟨i, bt, ct⟩ K5 hF hK5
  try dsimp only at hF hK5 ⊢
  obtain ⟨hi, hok, hle⟩ := hF
  have hfc := take_filt_le (f := fitB n es room) (us := xs) (i := i)
  refine c_seq (fun K6 hK6 => ?_)
  refine c_seq (fun K7 hK7 => ?_)
  refine c_region ?_
  refine tp rfl (lv_move rfl) ?_
  refine tp rfl (lv_move rfl) ?_
  refine tp rfl (lv_len Tryd.underlying22 rfl rfl) ?_
  by_cases h5 : ((i : Nat) : Int) < ((nx : Nat) : Int)
  · -- yes
    refine tp rfl (lv_lss rfl rfl (decide_eq_true h5)) ?_
    refine t_done ?_
    refine q_then_n (hK7 _ _ ?_)
    refine c_true rfl ?_
    refine c_skip ?_
    refine q_then_n (hK6 _ _ ?_)
    refine c_seq (fun K8 hK8 => ?_)
    refine c_block ?_
    refine c_seq (fun K9 hK9 => ?_)
    refine c_region ?_
    refine tp rfl (lv_move rfl) ?_
    refine tp rfl (lv_move rfl) ?_
    refine tp rfl (lv_indexAddr (k' := i) Tryd.underlying22 Tryd.sizeOf3 rfl rfl okx (by omega) (by omega) (by omega)) ?_
    refine tp rfl (lv_load Tryd.isAgg3 rfl (Rd.gives (Rd.cons hx) (ints_get (by first | omega | (simp; omega))))) ?_
    refine tp rfl (lv_assign rfl) ?_
    refine t_done ?_
    refine q_then_n (hK9 _ _ ?_)
    refine c_seq (fun K10 hK10 => ?_)
    refine c_region ?_
    refine tp rfl (lv_move rfl) ?_
    by_cases hge : ((xs).getD i 0) ≥ 0
    · -- yes
      refine tp rfl (lv_geq rfl rfl (decide_eq_true hge)) ?_
      refine tp rfl (lv_move rfl) ?_
      refine t_guard rfl rfl ?_
      refine tp rfl (lv_move rfl) ?_
      refine t_guard rfl rfl ?_
      refine tp rfl (lv_move rfl) ?_
      refine t_guard rfl rfl ?_
      refine tp rfl (lv_len Tryd.underlying24 rfl rfl) ?_
      refine t_guard rfl rfl ?_
      by_cases hlt : ((xs).getD i 0) < ((n : Nat) : Int)
      · -- yes
        refine tp rfl (lv_lss rfl rfl (decide_eq_true hlt)) ?_
        refine tp rfl (lv_pick_t rfl rfl) ?_
        refine tp rfl (lv_move rfl) ?_
        refine t_guard rfl rfl ?_
        refine tp rfl (lv_move rfl) ?_
        refine t_guard rfl rfl ?_
        refine tp rfl (lv_move rfl) ?_
        refine t_guard rfl rfl ?_
        refine tp rfl (lv_indexAddr (k' := (((xs).getD i 0).toNat) * 2) Tryd.underlying24 Tryd.sizeOf51 rfl rfl okl (by omega) (by omega) (by omega)) ?_
        refine t_guard rfl rfl ?_
        refine tp rfl (lv_fieldAddr_ad (o' := (((xs).getD i 0).toNat) * 2) Tryd.underlying51 rfl Tryd.sizeOf3 rfl rfl) ?_
        refine t_guard rfl rfl ?_
        refine tp rfl (lv_load Tryd.isAgg3 rfl (Rd.gives (Rd.cons hl) (pairs_get0 (by first | omega | (simp; omega))))) ?_
        refine t_guard rfl rfl ?_
        refine tp rfl (lv_move rfl) ?_
        refine t_guard rfl rfl ?_
        by_cases hfl : (((es).getD (((xs).getD i 0).toNat) (0, 0)).1) ≤ room
        · -- yes
         refine tp rfl (lv_leq rfl rfl (decide_eq_true hfl)) ?_
         refine tp rfl (lv_pick_t rfl rfl) ?_
         refine t_done ?_
         refine q_then_n (hK10 _ _ ?_)
         refine c_true rfl ?_
         refine c_region ?_
         refine tp rfl (lv_move rfl) ?_
         refine tp rfl (lv_move rfl) ?_
         refine tm rfl (mv_buildSlice (cs := [(.int .i64 ((xs).getD i 0))]) Tryd.underlying22 Tryd.sizeOf3 Tryd.zeroValue3 (by decide) rfl rfl rfl rfl) ?_
         rintro _ _ ⟨bs6, cp7, hok8, hle9, rfl, rfl⟩
         refine t_f1 ?_
         refine tm rfl (mv_append (i := Tryd.t3) Tryd.underlying22 Tryd.type3 rfl rfl rfl (by decide) rfl rfl hok8 (by first | (simp; done) | (simp; omega)) (rd_sl (.tail _ (.head _))) (by simp [Value.oneCell']) (by rw [show Tryd.t3.bytes = 8 from rfl]; omega)) ?_
         rintro _ _ ⟨bs10, cp11, hok12, hle13, rfl, rfl⟩
         rw [show ints .i64 ((xs.take i).filter (fitB n es room)) ++ [(.int .i64 ((xs).getD i 0))] = ints .i64 (((xs.take i).filter (fitB n es room)) ++ [(xs).getD i 0]) from ints_snoc _ _ _]
         rw [show (((xs.take i).filter (fitB n es room)).length) + 1 = ((xs.take i).filter (fitB n es room) ++ [xs.getD i 0]).length from by simp] at hok12 hle13 ⊢
         refine tp rfl (lv_assign rfl) ?_
         refine t_done ?_
         refine q_in_n ?_
         refine q_then_n (hK8 _ _ ?_)
         refine c_region ?_
         refine tp rfl (lv_move rfl) ?_
         refine tp rfl (lv_add (c := ((i + 1 : Nat) : Int)) rfl rfl (wr_i64_succ (by omega))) ?_
         refine tp rfl (lv_assign rfl) ?_
         refine t_done ?_
         refine q_then_n ?_
         refine t_f1 ?_
         refine t_drop ?_
         rw [← filt_yes (f := fitB n es room) (us := xs) (i := i) (by omega) (fit_t hge hlt hfl)] at hok12 hle13 ⊢
         exact t_weak (by exact ⟨rfl, rfl, rfl, rfl, rfl, rfl, trivial⟩) ((hK5 (i + 1, bs10, cp11) ⟨by omega, hok12, hle13⟩ (by dsimp only; omega)))
        · -- no
         refine tp rfl (lv_leq rfl rfl (decide_eq_false hfl)) ?_
         refine tp rfl (lv_pick_t rfl rfl) ?_
         refine t_done ?_
         refine q_then_n (hK10 _ _ ?_)
         refine c_false rfl ?_
         refine c_skip ?_
         refine q_in_n ?_
         refine q_then_n (hK8 _ _ ?_)
         refine c_region ?_
         refine tp rfl (lv_move rfl) ?_
         refine tp rfl (lv_add (c := ((i + 1 : Nat) : Int)) rfl rfl (wr_i64_succ (by omega))) ?_
         refine tp rfl (lv_assign rfl) ?_
         refine t_done ?_
         refine q_then_n ?_
         rw [show (xs.take i).filter (fitB n es room) = (xs.take (i + 1)).filter (fitB n es room) from (filt_no (by omega) (by first | exact fit_no1 hge | exact fit_f2 hlt | exact fit_f3 hfl)).symm] at hok hle ⊢
         exact t_weak (by exact ⟨rfl, rfl, rfl, rfl, rfl, rfl, trivial⟩) ((hK5 (i + 1, bt, ct) ⟨by omega, hok, hle⟩ (by dsimp only; omega)))
      · -- no
        refine tp rfl (lv_lss rfl rfl (decide_eq_false hlt)) ?_
        refine tp rfl (lv_pick_t rfl rfl) ?_
        refine tp rfl (lv_move rfl) ?_
        refine t_skip rfl rfl rfl ?_
        refine t_skip rfl rfl rfl ?_
        refine t_skip rfl rfl rfl ?_
        refine t_skip rfl rfl rfl ?_
        refine t_skip rfl rfl rfl ?_
        refine t_skip rfl rfl rfl ?_
        refine t_skip rfl rfl rfl ?_
        refine tp rfl (lv_pick_f rfl rfl) ?_
        refine t_done ?_
        refine q_then_n (hK10 _ _ ?_)
        refine c_false rfl ?_
        refine c_skip ?_
        refine q_in_n ?_
        refine q_then_n (hK8 _ _ ?_)
        refine c_region ?_
        refine tp rfl (lv_move rfl) ?_
        refine tp rfl (lv_add (c := ((i + 1 : Nat) : Int)) rfl rfl (wr_i64_succ (by omega))) ?_
        refine tp rfl (lv_assign rfl) ?_
        refine t_done ?_
        refine q_then_n ?_
        rw [show (xs.take i).filter (fitB n es room) = (xs.take (i + 1)).filter (fitB n es room) from (filt_no (by omega) (by first | exact fit_no1 hge | exact fit_f2 hlt | exact fit_f3 hfl)).symm] at hok hle ⊢
        exact t_weak (by exact ⟨rfl, rfl, rfl, rfl, rfl, rfl, trivial⟩) ((hK5 (i + 1, bt, ct) ⟨by omega, hok, hle⟩ (by dsimp only; omega)))
    · -- no
      refine tp rfl (lv_geq rfl rfl (decide_eq_false hge)) ?_
      refine tp rfl (lv_move rfl) ?_
      refine t_skip rfl rfl rfl ?_
      refine t_skip rfl rfl rfl ?_
      refine t_skip rfl rfl rfl ?_
      refine t_skip rfl rfl rfl ?_
      refine tp rfl (lv_pick_f rfl rfl) ?_
      refine tp rfl (lv_move rfl) ?_
      refine t_skip rfl rfl rfl ?_
      refine t_skip rfl rfl rfl ?_
      refine t_skip rfl rfl rfl ?_
      refine t_skip rfl rfl rfl ?_
      refine t_skip rfl rfl rfl ?_
      refine t_skip rfl rfl rfl ?_
      refine t_skip rfl rfl rfl ?_
      refine tp rfl (lv_pick_f rfl rfl) ?_
      refine t_done ?_
      refine q_then_n (hK10 _ _ ?_)
      refine c_false rfl ?_
      refine c_skip ?_
      refine q_in_n ?_
      refine q_then_n (hK8 _ _ ?_)
      refine c_region ?_
      refine tp rfl (lv_move rfl) ?_
      refine tp rfl (lv_add (c := ((i + 1 : Nat) : Int)) rfl rfl (wr_i64_succ (by omega))) ?_
      refine tp rfl (lv_assign rfl) ?_
      refine t_done ?_
      refine q_then_n ?_
      rw [show (xs.take i).filter (fitB n es room) = (xs.take (i + 1)).filter (fitB n es room) from (filt_no (by omega) (by first | exact fit_no1 hge | exact fit_f2 hlt | exact fit_f3 hfl)).symm] at hok hle ⊢
      exact t_weak (by exact ⟨rfl, rfl, rfl, rfl, rfl, rfl, trivial⟩) ((hK5 (i + 1, bt, ct) ⟨by omega, hok, hle⟩ (by dsimp only; omega)))
  · -- no
    refine tp rfl (lv_lss rfl rfl (decide_eq_false h5)) ?_
    refine t_done ?_
    refine q_then_n (hK7 _ _ ?_)
    refine c_false rfl ?_
    refine c_exit ?_
    refine q_then_x ?_
    refine q_then_x ?_
    refine q_in_x ?_
    refine q_then_n (hK3 _ _ ?_)
    refine c_seq (fun K8 hK8 => ?_)
    refine c_region ?_
    refine tp rfl (lv_move rfl) ?_
    refine tp rfl (lv_assign rfl) ?_
    refine t_done ?_
    refine q_then_n (hK8 _ _ ?_)
    refine c_ret ?_
    refine q_ret rfl rfl ?_
    rw [show xs.take i = xs from List.take_of_length_le (by omega)] at hok hle ⊢
    exact ⟨bt, ct, hok, hle, rfl, rfl⟩

set_option maxHeartbeats 4000000 in
theorem rwants_ok {R : List HP} {g N : Nat} {E : Es} {bx bl bi bq : Option Addr} {cx cl ci cr nt n ni m m1 : Nat} (tl : List Int) (es : List (Int × Int)) (is rs : List Int) (htn : tl.length = nt) (hn : n ≤ es.length) (hi : ni ≤ is.length) (hm : m ≤ rs.length) (hm1 : m1 = min ni m) (hx : Rd R bx (ints .i64 tl)) (hl : Rd R bl (pairs es)) (hs : Rd R bi (ints .i64 is)) (hr : Rd R bq (ints .i64 rs)) (okt : SlOk bx nt) (okl : SlOk bl n) (oki : SlOk bi ni) (okr : SlOk bq m) (lt : nt ≤ 1000000) (li : ni ≤ 1000000) (hE : E.length ≤ 1000) (hg : GOk N E) :
    Ok Tryd.prog 18 [(.pointer (some ⟨g, 0, none⟩)), (.slice bx nt cx), (.slice bl n cl), (.slice bi ni ci), (.slice bq m cr)] ((RefO g N E) :: R)
      (fun v M => ∃ b1 d1 b2 d2, SlOk b1 (wantN n N E es tl is rs m1).1.length ∧ (wantN n N E es tl is rs m1).1.length ≤ d1 ∧ SlOk b2 (wantN n N E es tl is rs m1).2.length ∧ (wantN n N E es tl is rs m1).2.length ≤ d2 ∧ v = .tuple #[.slice b1 (wantN n N E es tl is rs m1).1.length d1, .slice b2 (wantN n N E es tl is rs m1).2.length d2] ∧ M = SlV 47 2 (.slice b1 (wantN n N E es tl is rs m1).1.length d1) (wantN n N E es tl is rs m1).1.length (pairs (wantN n N E es tl is rs m1).1) :: SlV 3 1 (.slice b2 (wantN n N E es tl is rs m1).2.length d2) (wantN n N E es tl is rs m1).2.length (ints .i64 (wantN n N E es tl is rs m1).2) :: RefO g N E :: R) := by
  refine ok_of (N := 87) Tryd.func18 rfl rfl rfl (fun W => ?_)
  refine t_openR (fun bs1 cp2 hok3 hle4 => ?_)
  refine c_seq (fun K1 hK1 => ?_)
  refine c_region ?_
  refine tp rfl (lv_assign rfl) ?_
  refine tp rfl (lv_assign rfl) ?_
  refine t_done ?_
  refine q_then_n (hK1 _ _ ?_)
  refine c_seq (fun K2 hK2 => ?_)
  refine c_region ?_
  refine tm rfl (mv_buildSlice (cs := []) Tryd.underlying41 Tryd.sizeOf47 Tryd.zeroValue47 (by decide) rfl rfl rfl rfl) ?_
  rintro _ _ ⟨bs5, cp6, hok7, hle8, rfl, rfl⟩
  refine tp rfl (lv_assign rfl) ?_
  refine t_done ?_
  refine q_then_n (hK2 _ _ ?_)
  refine c_seq (fun K3 hK3 => ?_)
  refine c_region ?_
  refine tm rfl (mv_buildSlice (cs := []) Tryd.underlying22 Tryd.sizeOf3 Tryd.zeroValue3 (by decide) rfl rfl rfl rfl) ?_
  rintro _ _ ⟨bs9, cp10, hok11, hle12, rfl, rfl⟩
  refine tp rfl (lv_assign rfl) ?_
  refine t_done ?_
  refine q_then_n (hK3 _ _ ?_)
  refine c_seq (fun K4 hK4 => ?_)
  refine c_seq (fun K5 hK5 => ?_)
  refine c_region ?_
  refine tp rfl (lv_assign rfl) ?_
  refine t_done ?_
  refine q_then_n (hK5 _ _ ?_)
  refine c_block ?_
  refine c_loop (γ := (Nat) × (List (Int × Int)) × (List Int) × (Option Addr) × (Nat) × (Option Addr) × (Nat)) (fun (k, ps, qs, bv, d1, bw, d2) => k ≤ m1 ∧ wantN n N E es tl is rs k = (ps, qs) ∧ SlOk bv ps.length ∧ ps.length ≤ d1 ∧ SlOk bw qs.length ∧ qs.length ≤ d2) (fun (k, ps, qs, bv, d1, bw, d2) => [(0, (.pointer (some ⟨g, 0, none⟩))), (1, (.slice bx nt cx)), (2, (.slice bl n cl)), (3, (.slice bi ni ci)), (4, (.slice bq m cr)), (10, (.slice none 0 0)), (11, (.slice none 0 0)), (12, (.slice bv ps.length d1)), (13, (.slice bw qs.length d2)), (14, (.int .i64 ((k : Nat) : Int)))]) (fun (k, ps, qs, bv, d1, bw, d2) => (SlV 3 1 (.slice bw qs.length d2) qs.length (ints .i64 qs)) :: (SlV 47 2 (.slice bv ps.length d1) ps.length (pairs ps)) :: (Blk g [(.int .i64 ((N : Nat) : Int)), (.slice bs1 E.length cp2)] 62) :: (SlV 68 2 (.slice bs1 E.length cp2) E.length (pairs E)) :: R) (fun (k, ps, qs, bv, d1, bw, d2) => m1 - k) (0, [], [], bs5, cp6, bs9, cp10) ⟨by omega, rfl, hok7, hle8, hok11, hle12⟩ ⟨rfl, rfl, rfl, rfl, rfl, rfl, rfl, rfl, rfl, rfl, trivial⟩ (fun _ h => h) ?_
  rintro ⟨k, ps, qs, bv, d1, bw, d2⟩ K6 hF hK6
  try dsimp only at hF hK6 ⊢
  obtain ⟨hk, hb, hok1, hle1, hok2, hle2⟩ := hF
  have hwl := wantN_len n N E es tl is rs k
  rw [hb] at hwl
  dsimp only at hwl
  refine c_seq (fun K7 hK7 => ?_)
  refine c_seq (fun K8 hK8 => ?_)
  refine c_region ?_
  by_cases hc13 : ((k : Nat) : Int) < ((ni : Nat) : Int) ∧ ((k : Nat) : Int) < ((m : Nat) : Int)
  · -- both
    have hc13a := hc13.1
    have hc13b := hc13.2
    refine tp rfl (lv_move rfl) ?_
    refine tp rfl (lv_move rfl) ?_
    refine tp rfl (lv_len Tryd.underlying22 rfl rfl) ?_
    refine tp rfl (lv_lss rfl rfl (decide_eq_true hc13.1)) ?_
    refine tp rfl (lv_move rfl) ?_
    refine t_guard rfl rfl ?_
    refine tp rfl (lv_move rfl) ?_
    refine t_guard rfl rfl ?_
    refine tp rfl (lv_move rfl) ?_
    refine t_guard rfl rfl ?_
    refine tp rfl (lv_len Tryd.underlying22 rfl rfl) ?_
    refine t_guard rfl rfl ?_
    refine tp rfl (lv_lss rfl rfl (decide_eq_true hc13.2)) ?_
    refine tp rfl (lv_pick_t rfl rfl) ?_
    refine t_done ?_
    refine q_then_n (hK8 _ _ ?_)
    refine c_true rfl ?_
    refine c_skip ?_
    refine q_then_n (hK7 _ _ ?_)
    refine c_seq (fun K9 hK9 => ?_)
    refine c_block ?_
    refine c_seq (fun K10 hK10 => ?_)
    refine c_region ?_
    refine tp rfl (lv_assign rfl) ?_
    refine t_done ?_
    refine q_then_n (hK10 _ _ ?_)
    refine c_seq (fun K11 hK11 => ?_)
    refine c_seq (fun K12 hK12 => ?_)
    refine c_region ?_
    refine tp rfl (lv_assign rfl) ?_
    refine t_done ?_
    refine q_then_n (hK12 _ _ ?_)
    refine c_block ?_
    refine c_loop (γ := (Nat) × (Int)) (fun (j, v) => j ≤ nt ∧ FirstI (wp n N E (rs.getD k 0)) tl j v) (fun (j, v) => [(0, (.pointer (some ⟨g, 0, none⟩))), (1, (.slice bx nt cx)), (2, (.slice bl n cl)), (3, (.slice bi ni ci)), (4, (.slice bq m cr)), (10, (.slice none 0 0)), (11, (.slice none 0 0)), (12, (.slice bv ps.length d1)), (13, (.slice bw qs.length d2)), (14, (.int .i64 ((k : Nat) : Int))), (15, (.int .i64 v)), (16, (.int .i64 ((j : Nat) : Int))), (30, (.bool true))]) (fun (j, v) => (SlV 3 1 (.slice bw qs.length d2) qs.length (ints .i64 qs)) :: (SlV 47 2 (.slice bv ps.length d1) ps.length (pairs ps)) :: (Blk g [(.int .i64 ((N : Nat) : Int)), (.slice bs1 E.length cp2)] 62) :: (SlV 68 2 (.slice bs1 E.length cp2) E.length (pairs E)) :: R) (fun (j, v) => nt - j) (0, (-1)) ⟨by omega, first_zero _ _⟩ ⟨rfl, rfl, rfl, rfl, rfl, rfl, rfl, rfl, rfl, rfl, rfl, rfl, rfl, trivial⟩ (fun _ h => h) ?_
    rintro ⟨j, v⟩ K13 hF hK13
    try dsimp only at hF hK13 ⊢
    obtain ⟨hj, hfi⟩ := hF
    refine c_seq (fun K14 hK14 => ?_)
    refine c_seq (fun K15 hK15 => ?_)
    refine c_region ?_
    refine tp rfl (lv_move rfl) ?_
    refine tp rfl (lv_move rfl) ?_
    refine tp rfl (lv_len Tryd.underlying22 rfl rfl) ?_
    by_cases h14 : ((j : Nat) : Int) < ((nt : Nat) : Int)
    · -- yes
      refine tp rfl (lv_lss rfl rfl (decide_eq_true h14)) ?_
      refine t_done ?_
      refine q_then_n (hK15 _ _ ?_)
      refine c_true rfl ?_
      refine c_skip ?_
      refine q_then_n (hK14 _ _ ?_)
      refine c_seq (fun K16 hK16 => ?_)
      refine c_block ?_
      refine c_seq (fun K17 hK17 => ?_)
      refine c_region ?_
      refine tp rfl (lv_move rfl) ?_
      refine tp rfl (lv_move rfl) ?_
      refine tp rfl (lv_indexAddr (k' := j) Tryd.underlying22 Tryd.sizeOf3 rfl rfl okt (by omega) (by omega) (by omega)) ?_
      refine tp rfl (lv_load Tryd.isAgg3 rfl (Rd.gives (Rd.cons (Rd.cons (Rd.cons (Rd.cons hx)))) (ints_get (by first | omega | (simp; omega))))) ?_
      refine tp rfl (lv_assign rfl) ?_
      refine t_done ?_
      refine q_then_n (hK17 _ _ ?_)
      refine c_seq (fun K18 hK18 => ?_)
      refine c_region ?_
      refine tp rfl (lv_move rfl) ?_
      by_cases hge : ((tl).getD j 0) ≥ 0
      · -- yes
        refine tp rfl (lv_geq rfl rfl (decide_eq_true hge)) ?_
        refine tp rfl (lv_move rfl) ?_
        refine t_guard rfl rfl ?_
        refine tp rfl (lv_move rfl) ?_
        refine t_guard rfl rfl ?_
        refine tp rfl (lv_move rfl) ?_
        refine t_guard rfl rfl ?_
        refine tp rfl (lv_len Tryd.underlying24 rfl rfl) ?_
        refine t_guard rfl rfl ?_
        by_cases hlt : ((tl).getD j 0) < ((n : Nat) : Int)
        · -- yes
         refine tp rfl (lv_lss rfl rfl (decide_eq_true hlt)) ?_
         refine tp rfl (lv_pick_t rfl rfl) ?_
         refine tp rfl (lv_move rfl) ?_
         refine t_guard rfl rfl ?_
         refine tp rfl (lv_move rfl) ?_
         refine t_guard rfl rfl ?_
         refine tp rfl (lv_move rfl) ?_
         refine t_guard rfl rfl ?_
         refine tp rfl (lv_move rfl) ?_
         refine t_guard rfl rfl ?_
         refine tp rfl (lv_indexAddr (k' := k) Tryd.underlying22 Tryd.sizeOf3 rfl rfl okr (by omega) (by omega) (by omega)) ?_
         refine t_guard rfl rfl ?_
         refine tp rfl (lv_load Tryd.isAgg3 rfl (Rd.gives (Rd.cons (Rd.cons (Rd.cons (Rd.cons hr)))) (ints_get (by first | omega | (simp; omega))))) ?_
         refine t_guard rfl rfl ?_
         refine tp rfl (lv_move rfl) ?_
         refine t_guard rfl rfl ?_
         refine t_f3 ?_
         refine t_f3 ?_
         refine tc rfl (en_fn Tryd.call32 rfl) (rreaches_ok (N := N) (es := E) ((rs).getD k 0) ((tl).getD j 0) hok3 hE hg) ?_
         rintro _ _ ⟨rfl, rfl⟩
         refine tp rfl (lv_pick_t rfl rfl) ?_
         refine tp rfl (lv_assign rfl) ?_
         refine t_done ?_
         refine q_then_n (hK18 _ _ ?_)
         refine c_seq (fun K19 hK19 => ?_)
         refine c_region ?_
         refine tp rfl (lv_move rfl) ?_
         refine tp rfl (lv_move rfl) ?_
         rcases hb15 : reachB N E ((rs).getD k 0) ((tl).getD j 0) with _ | _
         · -- false
          refine t_skip rfl rfl rfl ?_
          refine t_skip rfl rfl rfl ?_
          refine tp rfl (lv_pick_f rfl rfl) ?_
          refine t_done ?_
          refine q_then_n (hK19 _ _ ?_)
          refine c_false rfl ?_
          refine c_skip ?_
          refine q_in_n ?_
          refine q_then_n (hK16 _ _ ?_)
          refine c_region ?_
          refine tp rfl (lv_move rfl) ?_
          refine tp rfl (lv_add (c := ((j + 1 : Nat) : Int)) rfl rfl (wr_i64_succ (by omega))) ?_
          refine tp rfl (lv_assign rfl) ?_
          refine t_done ?_
          refine q_then_n ?_
          refine t_f1 ?_
          refine t_f1 ?_
          refine t_f3 ?_
          refine t_f3 ?_
          exact t_weak (by exact ⟨rfl, rfl, rfl, rfl, rfl, rfl, rfl, rfl, rfl, rfl, rfl, rfl, rfl, trivial⟩) ((hK13 (j + 1, v) ⟨by omega, (by first | exact first_no hfi (wp_1 hge) | exact first_no hfi (wp_2 hlt) | exact first_no hfi (wp_3 ‹reachB N E (rs.getD k 0) (tl.getD j 0) = false›) | exact first_keep hfi hv)⟩ (by dsimp only; omega)))
         · -- true
          refine t_guard rfl rfl ?_
          refine tp rfl (lv_move rfl) ?_
          refine t_guard rfl rfl ?_
          by_cases hv : v < 0
          · -- yes
           refine tp rfl (lv_lss rfl rfl (decide_eq_true hv)) ?_
           refine tp rfl (lv_pick_t rfl rfl) ?_
           refine t_done ?_
           refine q_then_n (hK19 _ _ ?_)
           refine c_true rfl ?_
           refine c_region ?_
           refine tp rfl (lv_move rfl) ?_
           refine tp rfl (lv_assign rfl) ?_
           refine t_done ?_
           refine q_in_n ?_
           refine q_then_n (hK16 _ _ ?_)
           refine c_region ?_
           refine tp rfl (lv_move rfl) ?_
           refine tp rfl (lv_add (c := ((j + 1 : Nat) : Int)) rfl rfl (wr_i64_succ (by omega))) ?_
           refine tp rfl (lv_assign rfl) ?_
           refine t_done ?_
           refine q_then_n ?_
           refine t_f1 ?_
           refine t_f1 ?_
           refine t_f3 ?_
           refine t_f3 ?_
           exact t_weak (by exact ⟨rfl, rfl, rfl, rfl, rfl, rfl, rfl, rfl, rfl, rfl, rfl, rfl, rfl, trivial⟩) ((hK13 (j + 1, (tl).getD j 0) ⟨by omega, first_new hfi hv (by omega) (wp_4 hge hlt ‹reachB N E (rs.getD k 0) (tl.getD j 0) = true›) hge⟩ (by dsimp only; omega)))
          · -- no
           refine tp rfl (lv_lss rfl rfl (decide_eq_false hv)) ?_
           refine tp rfl (lv_pick_t rfl rfl) ?_
           refine t_done ?_
           refine q_then_n (hK19 _ _ ?_)
           refine c_false rfl ?_
           refine c_skip ?_
           refine q_in_n ?_
           refine q_then_n (hK16 _ _ ?_)
           refine c_region ?_
           refine tp rfl (lv_move rfl) ?_
           refine tp rfl (lv_add (c := ((j + 1 : Nat) : Int)) rfl rfl (wr_i64_succ (by omega))) ?_
           refine tp rfl (lv_assign rfl) ?_
           refine t_done ?_
           refine q_then_n ?_
           refine t_f1 ?_
           refine t_f1 ?_
           refine t_f3 ?_
           refine t_f3 ?_
           exact t_weak (by exact ⟨rfl, rfl, rfl, rfl, rfl, rfl, rfl, rfl, rfl, rfl, rfl, rfl, rfl, trivial⟩) ((hK13 (j + 1, v) ⟨by omega, (by first | exact first_no hfi (wp_1 hge) | exact first_no hfi (wp_2 hlt) | exact first_no hfi (wp_3 ‹reachB N E (rs.getD k 0) (tl.getD j 0) = false›) | exact first_keep hfi hv)⟩ (by dsimp only; omega)))
        · -- no
         refine tp rfl (lv_lss rfl rfl (decide_eq_false hlt)) ?_
         refine tp rfl (lv_pick_t rfl rfl) ?_
         refine tp rfl (lv_move rfl) ?_
         refine t_skip rfl rfl rfl ?_
         refine t_skip rfl rfl rfl ?_
         refine t_skip rfl rfl rfl ?_
         refine t_skip rfl rfl rfl ?_
         refine t_skip rfl rfl rfl ?_
         refine t_skip rfl rfl rfl ?_
         refine t_skip rfl rfl rfl ?_
         refine tp rfl (lv_pick_f rfl rfl) ?_
         refine tp rfl (lv_assign rfl) ?_
         refine t_done ?_
         refine q_then_n (hK18 _ _ ?_)
         refine c_seq (fun K19 hK19 => ?_)
         refine c_region ?_
         refine tp rfl (lv_move rfl) ?_
         refine tp rfl (lv_move rfl) ?_
         refine t_skip rfl rfl rfl ?_
         refine t_skip rfl rfl rfl ?_
         refine tp rfl (lv_pick_f rfl rfl) ?_
         refine t_done ?_
         refine q_then_n (hK19 _ _ ?_)
         refine c_false rfl ?_
         refine c_skip ?_
         refine q_in_n ?_
         refine q_then_n (hK16 _ _ ?_)
         refine c_region ?_
         refine tp rfl (lv_move rfl) ?_
         refine tp rfl (lv_add (c := ((j + 1 : Nat) : Int)) rfl rfl (wr_i64_succ (by omega))) ?_
         refine tp rfl (lv_assign rfl) ?_
         refine t_done ?_
         refine q_then_n ?_
         exact t_weak (by exact ⟨rfl, rfl, rfl, rfl, rfl, rfl, rfl, rfl, rfl, rfl, rfl, rfl, rfl, trivial⟩) ((hK13 (j + 1, v) ⟨by omega, (by first | exact first_no hfi (wp_1 hge) | exact first_no hfi (wp_2 hlt) | exact first_no hfi (wp_3 ‹reachB N E (rs.getD k 0) (tl.getD j 0) = false›) | exact first_keep hfi hv)⟩ (by dsimp only; omega)))
      · -- no
        refine tp rfl (lv_geq rfl rfl (decide_eq_false hge)) ?_
        refine tp rfl (lv_move rfl) ?_
        refine t_skip rfl rfl rfl ?_
        refine t_skip rfl rfl rfl ?_
        refine t_skip rfl rfl rfl ?_
        refine t_skip rfl rfl rfl ?_
        refine tp rfl (lv_pick_f rfl rfl) ?_
        refine tp rfl (lv_move rfl) ?_
        refine t_skip rfl rfl rfl ?_
        refine t_skip rfl rfl rfl ?_
        refine t_skip rfl rfl rfl ?_
        refine t_skip rfl rfl rfl ?_
        refine t_skip rfl rfl rfl ?_
        refine t_skip rfl rfl rfl ?_
        refine t_skip rfl rfl rfl ?_
        refine tp rfl (lv_pick_f rfl rfl) ?_
        refine tp rfl (lv_assign rfl) ?_
        refine t_done ?_
        refine q_then_n (hK18 _ _ ?_)
        refine c_seq (fun K19 hK19 => ?_)
        refine c_region ?_
        refine tp rfl (lv_move rfl) ?_
        refine tp rfl (lv_move rfl) ?_
        refine t_skip rfl rfl rfl ?_
        refine t_skip rfl rfl rfl ?_
        refine tp rfl (lv_pick_f rfl rfl) ?_
        refine t_done ?_
        refine q_then_n (hK19 _ _ ?_)
        refine c_false rfl ?_
        refine c_skip ?_
        refine q_in_n ?_
        refine q_then_n (hK16 _ _ ?_)
        refine c_region ?_
        refine tp rfl (lv_move rfl) ?_
        refine tp rfl (lv_add (c := ((j + 1 : Nat) : Int)) rfl rfl (wr_i64_succ (by omega))) ?_
        refine tp rfl (lv_assign rfl) ?_
        refine t_done ?_
        refine q_then_n ?_
        exact t_weak (by exact ⟨rfl, rfl, rfl, rfl, rfl, rfl, rfl, rfl, rfl, rfl, rfl, rfl, rfl, trivial⟩) ((hK13 (j + 1, v) ⟨by omega, (by first | exact first_no hfi (wp_1 hge) | exact first_no hfi (wp_2 hlt) | exact first_no hfi (wp_3 ‹reachB N E (rs.getD k 0) (tl.getD j 0) = false›) | exact first_keep hfi hv)⟩ (by dsimp only; omega)))
    · -- no
      refine tp rfl (lv_lss rfl rfl (decide_eq_false h14)) ?_
      refine t_done ?_
      refine q_then_n (hK15 _ _ ?_)
      refine c_false rfl ?_
      refine c_exit ?_
      refine q_then_x ?_
      refine q_then_x ?_
      refine q_in_x ?_
      refine q_then_n (hK11 _ _ ?_)
      refine c_seq (fun K16 hK16 => ?_)
      refine c_region ?_
      obtain ⟨hw1, hw2⟩ := first_end hfi (by omega)
      refine tp rfl (lv_move rfl) ?_
      by_cases h16 : v ≥ 0
      · -- yes
        refine tp rfl (lv_geq rfl rfl (decide_eq_true h16)) ?_
        refine t_done ?_
        refine q_then_n (hK16 _ _ ?_)
        refine c_true rfl ?_
        refine c_seq (fun K17 hK17 => ?_)
        obtain ⟨hj0, hj1, hj2⟩ := hw2 (by omega)
        have hth := thB_t hj2
        refine c_draw (γ := Option Addr × Nat × Option Addr × Nat) (n := 14) Tryd.mixed rfl rfl (fun (bs17, cp18, bs21, cp22) S => (S 11 = true → SlOk bs17 1) ∧ (S 11 = true → 1 ≤ cp18) ∧ (S 12 = true → SlOk bs21 (ps.length + 1)) ∧ (S 12 = true → ps.length + 1 ≤ cp22)) (fun (bs17, cp18, bs21, cp22) => [(0, 68, (.slice bv ps.length d1)), (1, 69, (.slice bi ni ci)), (2, 70, (.int .i64 ((k : Nat) : Int))), (3, 71, (.pointer (some (ad bi k)))), (4, 72, (.int .i64 ((is).getD k 0))), (5, 73, (.slice bl n cl)), (6, 74, (.int .i64 v)), (7, 75, (.pointer (some (ad bl (v.toNat * 2))))), (8, 76, (.pointer (some (ad bl (v.toNat * 2 + 1))))), (9, 77, (.int .i64 (((es).getD v.toNat (0, 0)).2))), (10, 78, (.agg #[(.int .i64 ((is).getD k 0)), (.int .i64 (((es).getD v.toNat (0, 0)).2))])), (11, 79, (.slice bs17 1 cp18)), (12, 80, (.slice bs21 (ps.length + 1) cp22)), (13, 12, (.slice bs21 (ps.length + 1) cp22))]) (fun (bs17, cp18, bs21, cp22) S => (SlV 3 1 (.slice bw qs.length d2) qs.length (ints .i64 qs)) :: (bif S 12 then (SlV 47 2 (.slice bs21 (ps.length + 1) cp22) (ps.length + 1) (pairs (ps ++ [((is).getD k 0, ((es).getD v.toNat (0, 0)).2)]))) else (SlV 47 2 (.slice bv ps.length d1) ps.length (pairs ps))) :: (Blk g [(.int .i64 ((N : Nat) : Int)), (.slice bs1 E.length cp2)] 62) :: (SlV 68 2 (.slice bs1 E.length cp2) E.length (pairs E)) :: (bif S 11 then (SlV 47 2 (.slice bs17 1 cp18) 1 [(.int .i64 ((is).getD k 0)), (.int .i64 (((es).getD v.toNat (0, 0)).2))]) else Emp) :: R) (none, 0, none, 0) (by simp [Nat.ble]) (fun _ h => sat_emps [_, _, _, _] 1 h) (fun _ _ h => h) ?_ ?_
        · -- steps
         refine ⟨?_, ?_, ?_, ?_, ?_, ?_, ?_, ?_, ?_, ?_, ?_, ?_, ?_, ?_, trivial⟩
         · -- 0
          rintro ⟨bs17, cp18, bs21, cp22⟩ S hF hS D hp K hK
          try dsimp only at hF ⊢
          obtain ⟨hf0, hf1, hf2, hf3⟩ := hF
          refine d_need (small := [(12, (.slice bv ps.length d1))]) ⟨look_b1 13 (nf hS D (k := 13) (i := 0) rfl) rfl rfl, trivial⟩ ?_
          refine tp rfl (lv_move rfl) ?_
          exact d_closes ⟨look_b1 13 (nf hS D (k := 13) (i := 0) rfl) rfl rfl, trivial⟩ 0 rfl rfl rfl hS (AgreeR.refl _) (t_sat (fun _ h => h) (hK (bs17, cp18, bs21, cp22) ⟨hf0, hf1, hf2, hf3⟩))
         · -- 1
          rintro ⟨bs17, cp18, bs21, cp22⟩ S hF hS D hp K hK
          try dsimp only at hF ⊢
          obtain ⟨hf0, hf1, hf2, hf3⟩ := hF
          refine d_need (small := [(3, (.slice bi ni ci))]) ⟨look_b rfl rfl, trivial⟩ ?_
          refine tp rfl (lv_move rfl) ?_
          exact d_closes ⟨look_b rfl rfl, trivial⟩ 1 rfl rfl rfl hS (AgreeR.refl _) (t_sat (fun _ h => h) (hK (bs17, cp18, bs21, cp22) ⟨hf0, hf1, hf2, hf3⟩))
         · -- 2
          rintro ⟨bs17, cp18, bs21, cp22⟩ S hF hS D hp K hK
          try dsimp only at hF ⊢
          obtain ⟨hf0, hf1, hf2, hf3⟩ := hF
          refine d_need (small := [(14, (.int .i64 ((k : Nat) : Int)))]) ⟨look_b rfl rfl, trivial⟩ ?_
          refine tp rfl (lv_move rfl) ?_
          exact d_closes ⟨look_b rfl rfl, trivial⟩ 2 rfl rfl rfl hS (AgreeR.refl _) (t_sat (fun _ h => h) (hK (bs17, cp18, bs21, cp22) ⟨hf0, hf1, hf2, hf3⟩))
         · -- 3
          rintro ⟨bs17, cp18, bs21, cp22⟩ S hF hS D hp K hK
          try dsimp only at hF ⊢
          obtain ⟨hf0, hf1, hf2, hf3⟩ := hF
          have s1 := hp 1 rfl
          have s2 := hp 2 rfl
          refine d_need (small := [(69, (.slice bi ni ci)), (70, (.int .i64 ((k : Nat) : Int)))]) ⟨look_row rfl 1 rfl s1, look_row rfl 2 rfl s2, trivial⟩ ?_
          refine tp rfl (lv_indexAddr (k' := k) Tryd.underlying22 Tryd.sizeOf3 rfl rfl oki (by omega) (by omega) (by omega)) ?_
          exact d_closes ⟨look_row rfl 1 rfl s1, look_row rfl 2 rfl s2, trivial⟩ 3 rfl rfl rfl hS (AgreeR.refl _) (t_sat (fun _ h => h) (hK (bs17, cp18, bs21, cp22) ⟨hf0, hf1, hf2, hf3⟩))
         · -- 4
          rintro ⟨bs17, cp18, bs21, cp22⟩ S hF hS D hp K hK
          try dsimp only at hF ⊢
          obtain ⟨hf0, hf1, hf2, hf3⟩ := hF
          have s3 := hp 3 rfl
          refine d_need (small := [(71, (.pointer (some (ad bi k))))]) ⟨look_row rfl 3 rfl s3, trivial⟩ ?_
          refine tp rfl (lv_load Tryd.isAgg3 rfl (Rd.gives (Rd.cons (Rd.cons (Rd.cons (Rd.cons (Rd.cons hs))))) (ints_get (by first | omega | (simp; omega))))) ?_
          exact d_closes ⟨look_row rfl 3 rfl s3, trivial⟩ 4 rfl rfl rfl hS (AgreeR.refl _) (t_sat (fun _ h => h) (hK (bs17, cp18, bs21, cp22) ⟨hf0, hf1, hf2, hf3⟩))
         · -- 5
          rintro ⟨bs17, cp18, bs21, cp22⟩ S hF hS D hp K hK
          try dsimp only at hF ⊢
          obtain ⟨hf0, hf1, hf2, hf3⟩ := hF
          refine d_need (small := [(2, (.slice bl n cl))]) ⟨look_b rfl rfl, trivial⟩ ?_
          refine tp rfl (lv_move rfl) ?_
          exact d_closes ⟨look_b rfl rfl, trivial⟩ 5 rfl rfl rfl hS (AgreeR.refl _) (t_sat (fun _ h => h) (hK (bs17, cp18, bs21, cp22) ⟨hf0, hf1, hf2, hf3⟩))
         · -- 6
          rintro ⟨bs17, cp18, bs21, cp22⟩ S hF hS D hp K hK
          try dsimp only at hF ⊢
          obtain ⟨hf0, hf1, hf2, hf3⟩ := hF
          refine d_need (small := [(15, (.int .i64 v))]) ⟨look_b rfl rfl, trivial⟩ ?_
          refine tp rfl (lv_move rfl) ?_
          exact d_closes ⟨look_b rfl rfl, trivial⟩ 6 rfl rfl rfl hS (AgreeR.refl _) (t_sat (fun _ h => h) (hK (bs17, cp18, bs21, cp22) ⟨hf0, hf1, hf2, hf3⟩))
         · -- 7
          rintro ⟨bs17, cp18, bs21, cp22⟩ S hF hS D hp K hK
          try dsimp only at hF ⊢
          obtain ⟨hf0, hf1, hf2, hf3⟩ := hF
          have s5 := hp 5 rfl
          have s6 := hp 6 rfl
          refine d_need (small := [(73, (.slice bl n cl)), (74, (.int .i64 v))]) ⟨look_row rfl 5 rfl s5, look_row rfl 6 rfl s6, trivial⟩ ?_
          refine tp rfl (lv_indexAddr (k' := v.toNat * 2) Tryd.underlying24 Tryd.sizeOf51 rfl rfl okl (by omega) (by omega) (by omega)) ?_
          exact d_closes ⟨look_row rfl 5 rfl s5, look_row rfl 6 rfl s6, trivial⟩ 7 rfl rfl rfl hS (AgreeR.refl _) (t_sat (fun _ h => h) (hK (bs17, cp18, bs21, cp22) ⟨hf0, hf1, hf2, hf3⟩))
         · -- 8
          rintro ⟨bs17, cp18, bs21, cp22⟩ S hF hS D hp K hK
          try dsimp only at hF ⊢
          obtain ⟨hf0, hf1, hf2, hf3⟩ := hF
          have s7 := hp 7 rfl
          refine d_need (small := [(75, (.pointer (some (ad bl (v.toNat * 2)))))]) ⟨look_row rfl 7 rfl s7, trivial⟩ ?_
          refine tp rfl (lv_fieldAddr_ad (o' := v.toNat * 2 + 1) Tryd.underlying51 rfl Tryd.sizeOf3 rfl rfl) ?_
          exact d_closes ⟨look_row rfl 7 rfl s7, trivial⟩ 8 rfl rfl rfl hS (AgreeR.refl _) (t_sat (fun _ h => h) (hK (bs17, cp18, bs21, cp22) ⟨hf0, hf1, hf2, hf3⟩))
         · -- 9
          rintro ⟨bs17, cp18, bs21, cp22⟩ S hF hS D hp K hK
          try dsimp only at hF ⊢
          obtain ⟨hf0, hf1, hf2, hf3⟩ := hF
          have s8 := hp 8 rfl
          refine d_need (small := [(76, (.pointer (some (ad bl (v.toNat * 2 + 1)))))]) ⟨look_row rfl 8 rfl s8, trivial⟩ ?_
          refine tp rfl (lv_load Tryd.isAgg3 rfl (Rd.gives (Rd.cons (Rd.cons (Rd.cons (Rd.cons (Rd.cons hl))))) (pairs_get1 (by first | omega | (simp; omega))))) ?_
          exact d_closes ⟨look_row rfl 8 rfl s8, trivial⟩ 9 rfl rfl rfl hS (AgreeR.refl _) (t_sat (fun _ h => h) (hK (bs17, cp18, bs21, cp22) ⟨hf0, hf1, hf2, hf3⟩))
         · -- 10
          rintro ⟨bs17, cp18, bs21, cp22⟩ S hF hS D hp K hK
          try dsimp only at hF ⊢
          obtain ⟨hf0, hf1, hf2, hf3⟩ := hF
          have s4 := hp 4 rfl
          have s9 := hp 9 rfl
          refine d_need (small := [(72, (.int .i64 ((is).getD k 0))), (77, (.int .i64 (((es).getD v.toNat (0, 0)).2)))]) ⟨look_row rfl 4 rfl s4, look_row rfl 9 rfl s9, trivial⟩ ?_
          refine tp rfl (lv_build (cs := [(.int .i64 ((is).getD k 0)), (.int .i64 (((es).getD v.toNat (0, 0)).2))]) (pl := [(0, 1), (1, 1)]) Tryd.underlying47 Tryd.zeroValue47 (fun _ => by simp) rfl rfl) ?_
          exact d_closes ⟨look_row rfl 4 rfl s4, look_row rfl 9 rfl s9, trivial⟩ 10 rfl rfl rfl hS (AgreeR.refl _) (t_sat (fun _ h => h) (hK (bs17, cp18, bs21, cp22) ⟨hf0, hf1, hf2, hf3⟩))
         · -- 11
          rintro ⟨bs17, cp18, bs21, cp22⟩ S hF hS D hp K hK
          try dsimp only at hF ⊢
          obtain ⟨hf0, hf1, hf2, hf3⟩ := hF
          have s10 := hp 10 rfl
          refine d_need (small := [(78, (.agg #[(.int .i64 ((is).getD k 0)), (.int .i64 (((es).getD v.toNat (0, 0)).2))]))]) ⟨look_row rfl 10 rfl s10, trivial⟩ ?_
          refine tm rfl (mv_buildSlice (cs := [(.int .i64 ((is).getD k 0)), (.int .i64 (((es).getD v.toNat (0, 0)).2))]) Tryd.underlying41 Tryd.sizeOf47 Tryd.zeroValue47 (by decide) rfl rfl rfl rfl) ?_
          rintro _ _ ⟨bs17, cp18, hok19, hle20, rfl, rfl⟩
          refine t_sat (fun _ h => sat_put [_, _, _, _] h) ?_
          exact d_closes ⟨look_row rfl 10 rfl s10, trivial⟩ 11 rfl rfl rfl hS (by exact ⟨.inl rfl, .inl rfl, .inl rfl, .inl rfl, .inl rfl, .inl rfl, .inl rfl, .inl rfl, .inl rfl, .inl rfl, .inl rfl, .inr ⟨rfl, rfl, hS⟩, .inl rfl, .inl rfl, trivial⟩) (t_sat (fun _ h => h) (hK (bs17, cp18, bs21, cp22) ⟨(fun _ => hok19), (fun _ => hle20), hf2, hf3⟩))
         · -- 12
          rintro ⟨bs17, cp18, bs21, cp22⟩ S hF hS D hp K hK
          try dsimp only at hF ⊢
          obtain ⟨hf0, hf1, hf2, hf3⟩ := hF
          have s11 := hp 11 rfl
          have hok19 := hf0 s11
          have hle20 := hf1 s11
          have s0 := hp 0 rfl
          refine d_need (small := [(68, (.slice bv ps.length d1)), (79, (.slice bs17 1 cp18))]) ⟨look_row rfl 0 rfl s0, look_row rfl 11 rfl s11, trivial⟩ ?_
          refine t_f1 ?_
          refine t_cF hS ?_
          refine t_f4 ?_
          refine t_cT s11 ?_
          refine t_f1 ?_
          refine tm rfl (mv_append (i := Tryd.t47) Tryd.underlying41 Tryd.type47 rfl rfl rfl (by decide) rfl rfl hok19 (by first | (simp; done) | (simp; omega)) (rd_sl (.tail _ (.head _))) (by simp [Value.oneCell']) (by rw [show Tryd.t47.bytes = 16 from rfl]; omega)) ?_
          rintro _ _ ⟨bs21, cp22, hok23, hle24, rfl, rfl⟩
          rw [show pairs ps ++ [(.int .i64 ((is).getD k 0)), (.int .i64 (((es).getD v.toNat (0, 0)).2))] = pairs (ps ++ [((is).getD k 0, ((es).getD v.toNat (0, 0)).2)]) from pairs_snoc _ _ _]
          refine t_f1 ?_
          refine t_wT (B := Emp) s11 ?_
          refine t_f4 ?_
          refine t_f4 ?_
          refine t_f3 ?_
          refine t_f4 ?_
          exact d_closes ⟨look_row rfl 0 rfl s0, look_row rfl 11 rfl s11, trivial⟩ 12 rfl rfl rfl hS (by exact ⟨.inl rfl, .inl rfl, .inl rfl, .inl rfl, .inl rfl, .inl rfl, .inl rfl, .inl rfl, .inl rfl, .inl rfl, .inl rfl, .inl rfl, .inr ⟨rfl, rfl, hS⟩, .inr ⟨rfl, rfl, (nf hS D (k := 13) (i := 12) rfl)⟩, trivial⟩) (t_sat (fun _ h => h) (hK (bs17, cp18, bs21, cp22) ⟨hf0, hf1, (fun _ => hok23), (fun _ => hle24)⟩))
         · -- 13
          rintro ⟨bs17, cp18, bs21, cp22⟩ S hF hS D hp K hK
          try dsimp only at hF ⊢
          obtain ⟨hf0, hf1, hf2, hf3⟩ := hF
          have s12 := hp 12 rfl
          refine d_need (small := [(80, (.slice bs21 (ps.length + 1) cp22))]) ⟨look_row rfl 12 rfl s12, trivial⟩ ?_
          refine tp rfl (lv_assign rfl) ?_
          exact d_closes ⟨look_row rfl 12 rfl s12, trivial⟩ 13 rfl rfl rfl hS (AgreeR.refl _) (t_sat (fun _ h => h) (hK (bs17, cp18, bs21, cp22) ⟨hf0, hf1, hf2, hf3⟩))
        · -- behind
         rintro ⟨bs17, cp18, bs21, cp22⟩ hF
         try dsimp only at hF ⊢
         obtain ⟨hf0, hf1, hf2, hf3⟩ := hF
         have hok19 := hf0 rfl
         have hle20 := hf1 rfl
         have hok23 := hf2 rfl
         have hle24 := hf3 rfl
         refine t_weak (E' := [(0, (.pointer (some ⟨g, 0, none⟩))), (1, (.slice bx nt cx)), (2, (.slice bl n cl)), (3, (.slice bi ni ci)), (4, (.slice bq m cr)), (10, (.slice none 0 0)), (11, (.slice none 0 0)), (12, (.slice bs21 (ps.length + 1) cp22)), (13, (.slice bw qs.length d2)), (14, (.int .i64 ((k : Nat) : Int))), (15, (.int .i64 v)), (16, (.int .i64 ((j : Nat) : Int))), (30, (.bool true)), (36, (.bool false)), (67, (.bool true))]) ⟨rfl, rfl, rfl, rfl, rfl, rfl, rfl, rfl, rfl, rfl, rfl, rfl, rfl, rfl, rfl, trivial⟩ ?_
         refine q_then_n (hK17 _ _ ?_)
         refine c_region ?_
         refine tp rfl (lv_move rfl) ?_
         refine tp rfl (lv_move rfl) ?_
         refine tm rfl (mv_buildSlice (cs := [(.int .i64 v)]) Tryd.underlying22 Tryd.sizeOf3 Tryd.zeroValue3 (by decide) rfl rfl rfl rfl) ?_
         rintro _ _ ⟨bs25, cp26, hok27, hle28, rfl, rfl⟩
         refine t_f1 ?_
         refine tm rfl (mv_append (i := Tryd.t3) Tryd.underlying22 Tryd.type3 rfl rfl rfl (by decide) rfl rfl hok27 (by first | (simp; done) | (simp; omega)) (rd_sl (.tail _ (.head _))) (by simp [Value.oneCell']) (by rw [show Tryd.t3.bytes = 8 from rfl]; omega)) ?_
         rintro _ _ ⟨bs29, cp30, hok31, hle32, rfl, rfl⟩
         rw [show ints .i64 qs ++ [(.int .i64 v)] = ints .i64 (qs ++ [v]) from ints_snoc _ _ _]
         refine tp rfl (lv_assign rfl) ?_
         refine t_done ?_
         refine q_in_n ?_
         refine q_then_n (hK9 _ _ ?_)
         refine c_region ?_
         refine tp rfl (lv_move rfl) ?_
         refine tp rfl (lv_add (c := ((k + 1 : Nat) : Int)) rfl rfl (wr_i64_succ (by omega))) ?_
         refine tp rfl (lv_assign rfl) ?_
         refine t_done ?_
         refine q_then_n ?_
         refine t_f1 ?_
         refine t_drop ?_
         refine t_f4 ?_
         refine t_drop ?_
         rw [show ps.length + 1 = (ps ++ [((is).getD k 0, ((es).getD v.toNat (0, 0)).2)]).length from by simp] at hok23 hle24 ⊢
         rw [show qs.length + 1 = (qs ++ [v]).length from by simp] at hok31 hle32 ⊢
         exact t_weak (by exact ⟨rfl, rfl, rfl, rfl, rfl, rfl, rfl, rfl, rfl, rfl, trivial⟩) ((hK6 (k + 1, ps ++ [((is).getD k 0, ((es).getD v.toNat (0, 0)).2)], qs ++ [v], bs21, cp22, bs29, cp30) ⟨by omega, (by have := want_add hb hj0; rw [hj1] at this; exact this), hok23, hle24, hok31, hle32⟩ (by dsimp only; omega)))
      · -- no
        refine tp rfl (lv_geq rfl rfl (decide_eq_false h16)) ?_
        refine t_done ?_
        refine q_then_n (hK16 _ _ ?_)
        refine c_false rfl ?_
        refine c_skip ?_
        refine q_in_n ?_
        refine q_then_n (hK9 _ _ ?_)
        refine c_region ?_
        refine tp rfl (lv_move rfl) ?_
        refine tp rfl (lv_add (c := ((k + 1 : Nat) : Int)) rfl rfl (wr_i64_succ (by omega))) ?_
        refine tp rfl (lv_assign rfl) ?_
        refine t_done ?_
        refine q_then_n ?_
        exact t_weak (by exact ⟨rfl, rfl, rfl, rfl, rfl, rfl, rfl, rfl, rfl, rfl, trivial⟩) ((hK6 (k + 1, ps, qs, bv, d1, bw, d2) ⟨by omega, want_no hb (hw1 (by omega)), hok1, hle1, hok2, hle2⟩ (by dsimp only; omega)))
  · -- not both
    refine t_cut0 (E' := [(0, (.pointer (some ⟨g, 0, none⟩))), (1, (.slice bx nt cx)), (2, (.slice bl n cl)), (3, (.slice bi ni ci)), (4, (.slice bq m cr)), (10, (.slice none 0 0)), (11, (.slice none 0 0)), (12, (.slice bv ps.length d1)), (13, (.slice bw qs.length d2)), (14, (.int .i64 ((k : Nat) : Int))), (30, (.bool false))]) ?_ (fun KK hKK => ?_)
    ·
      refine q_then_n (hK8 _ _ ?_)
      refine c_false rfl ?_
      refine c_exit ?_
      refine q_then_x ?_
      refine q_then_x ?_
      refine q_in_x ?_
      refine q_then_n (hK4 _ _ ?_)
      refine c_seq (fun K9 hK9 => ?_)
      refine c_region ?_
      refine tp rfl (lv_move rfl) ?_
      refine tp rfl (lv_move rfl) ?_
      refine tp rfl (lv_assign rfl) ?_
      refine tp rfl (lv_assign rfl) ?_
      refine t_done ?_
      refine q_then_n (hK9 _ _ ?_)
      refine c_ret ?_
      refine t_f3 ?_
      refine t_f3 ?_
      refine t_shutR hok3 hle4 ?_
      refine t_f1 ?_
      refine t_f2 ?_
      refine q_ret2 rfl rfl rfl ?_
      have e : k = m1 := by omega
      subst e
      rw [hb]
      exact ⟨bv, d1, bw, d2, hok1, hle1, hok2, hle2, rfl, rfl⟩
    · -- which
      by_cases hc13A : ((k : Nat) : Int) < ((ni : Nat) : Int)
      ·
        have hc13B : ¬ (((k : Nat) : Int) < ((m : Nat) : Int)) := fun hh => hc13 ⟨hc13A, hh⟩
        refine tp rfl (lv_move rfl) ?_
        refine tp rfl (lv_move rfl) ?_
        refine tp rfl (lv_len Tryd.underlying22 rfl rfl) ?_
        refine tp rfl (lv_lss rfl rfl (decide_eq_true hc13A)) ?_
        refine tp rfl (lv_move rfl) ?_
        refine t_guard rfl rfl ?_
        refine tp rfl (lv_move rfl) ?_
        refine t_guard rfl rfl ?_
        refine tp rfl (lv_move rfl) ?_
        refine t_guard rfl rfl ?_
        refine tp rfl (lv_len Tryd.underlying22 rfl rfl) ?_
        refine t_guard rfl rfl ?_
        refine tp rfl (lv_lss rfl rfl (decide_eq_false hc13B)) ?_
        refine tp rfl (lv_pick_t rfl rfl) ?_
        exact t_done (t_weak (by exact ⟨rfl, rfl, rfl, rfl, rfl, rfl, rfl, rfl, rfl, rfl, rfl, trivial⟩) hKK)
      ·
        refine tp rfl (lv_move rfl) ?_
        refine tp rfl (lv_move rfl) ?_
        refine tp rfl (lv_len Tryd.underlying22 rfl rfl) ?_
        refine tp rfl (lv_lss rfl rfl (decide_eq_false hc13A)) ?_
        refine tp rfl (lv_move rfl) ?_
        refine t_skip rfl rfl rfl ?_
        refine t_skip rfl rfl rfl ?_
        refine t_skip rfl rfl rfl ?_
        refine t_skip rfl rfl rfl ?_
        refine tp rfl (lv_pick_f rfl rfl) ?_
        exact t_done (t_weak (by exact ⟨rfl, rfl, rfl, rfl, rfl, rfl, rfl, rfl, rfl, rfl, rfl, trivial⟩) hKK)
end Go.Proofs.YtfoiopbjomaclaaDoor
