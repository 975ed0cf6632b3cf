/- Contracts of pick: Best. -/
import Derived.Test.YtfoiopbjomaclaaDoorGb
import Derived.Test.YtfoiopbjomaclaaDoorGc
import Derived.Test.YtfoiopbjomaclaaDoorPik
import Derived.Test.YtfoiopbjomaclaaDoorOpm2
import Derived.Test.YtfoiopbjomaclaaDoorVal2
set_option maxRecDepth 100000
set_option linter.unusedVariables false
set_option linter.unusedSimpArgs false
namespace Go.Proofs.YtfoiopbjomaclaaDoor
open Go Go.Proofs Sp
theorem best_ok {R : List HP} {bx bb : Option Addr} {cx cy n1 n2 m : Nat} (xs ys : List Int) (h1 : n1 ≤ xs.length) (h2 : n2 ≤ ys.length) (hm : m = min n1 n2) (hx : Rd R bx (ints .i64 xs)) (hy : Rd R bb (ints .i64 ys)) (okx : SlOk bx n1) (oky : SlOk bb n2) (lx : n1 ≤ 1000000) (ly : n2 ≤ 1000000) (hcy : n2 ≤ cy) :
    Ok Tryd.prog 13 [(.slice bx n1 cx), (.slice bb n2 cy)] R
      (fun v M => ∃ bs cp, SlOk bs (bestN xs ys m).2.length ∧ (bestN xs ys m).2.length ≤ cp ∧ v = .tuple #[.int .i64 (bestN xs ys m).1, .slice bs (bestN xs ys m).2.length cp] ∧ M = SlV 3 1 (.slice bs (bestN xs ys m).2.length cp) (bestN xs ys m).2.length (ints .i64 (bestN xs ys m).2) :: R) := by
  refine ok_of (N := 45) Tryd.func13 rfl rfl rfl (fun W => ?_)
  refine c_seq (fun K1 hK1 => ?_)
  refine c_region ?_
  refine tp rfl (lv_assign rfl) ?_
  refine tp rfl (lv_assign rfl) ?_
  refine t_done ?_
  refine q_then_n (hK1 _ _ ?_)
  refine c_seq (fun K2 hK2 => ?_)
  refine c_region ?_
  refine tp rfl (lv_assign rfl) ?_
  refine t_done ?_
  refine q_then_n (hK2 _ _ ?_)
  refine c_seq (fun K3 hK3 => ?_)
  refine c_seq (fun K4 hK4 => ?_)
  refine c_region ?_
  refine tp rfl (lv_move rfl) ?_
  refine tp rfl (lv_move rfl) ?_
  refine tp rfl (lv_len Tryd.underlying22 rfl rfl) ?_
  refine tp rfl (lv_move rfl) ?_
  refine tp rfl (lv_len Tryd.underlying22 rfl rfl) ?_
  refine tp rfl (lv_min (c := ((m : Nat) : Int)) rfl rfl (by omega)) ?_
  refine tp rfl (lv_slice (l := 0) (h := m) (m := cy) (v := (.slice bb m cy)) Tryd.underlying22 Tryd.sizeOf3 rfl rfl rfl rfl (.inr ⟨rfl, rfl⟩) (.inl ⟨_, _, rfl, (by omega), (by omega), (by omega)⟩) (.inr ⟨rfl, rfl⟩) (by simp) (by rw [sbase_zero]; rfl)) ?_
  refine tp rfl (lv_len Tryd.underlying22 rfl rfl) ?_
  refine tp rfl (lv_move rfl) ?_
  refine t_done ?_
  refine q_then_n (hK4 _ _ ?_)
  refine c_block ?_
  refine t_sat (fun _ h => sat_nilsl 3 1 h) ?_
  refine c_loop (γ := (Nat) × (Int) × (List Int) × (Option Addr) × (Nat)) (fun (k, p, ts, bt, ct) => k ≤ m ∧ bestN xs ys k = (p, ts) ∧ SlOk bt ts.length ∧ ts.length ≤ ct) (fun (k, p, ts, bt, ct) => [(0, (.slice bx n1 cx)), (1, (.slice bb n2 cy)), (4, (.int .i64 p)), (5, (.slice bt ts.length ct)), (14, (.slice bb m cy)), (15, (.int .i64 ((m : Nat) : Int))), (16, (.int .i64 ((k : Nat) : Int)))]) (fun (k, p, ts, bt, ct) => (SlV 3 1 (.slice bt ts.length ct) ts.length (ints .i64 ts)) :: R) (fun (k, p, ts, bt, ct) => m - k) (0, (-1), [], none, 0) ⟨by omega, rfl, slok_none, Nat.le_refl _⟩ ⟨rfl, rfl, rfl, rfl, rfl, rfl, rfl, trivial⟩ (fun _ h => h) ?_
  rintro ⟨k, p, ts, bt, ct⟩ K5 hF hK5
  try dsimp only at hF hK5 ⊢
  obtain ⟨hk, hb, hok, hle⟩ := hF
  have htl : ts.length ≤ k := by have := bestN_len xs ys k; rw [hb] at this; exact this
  refine c_seq (fun K6 hK6 => ?_)
  refine c_region ?_
  by_cases h1 : ((k : Nat) : Int) < ((m : Nat) : Int)
  · -- yes
    refine tp rfl (lv_lss rfl rfl (decide_eq_true h1)) ?_
    refine t_done ?_
    refine q_then_n (hK6 _ _ ?_)
    refine c_seq (fun K7 hK7 => ?_)
    refine c_true rfl ?_
    refine c_skip ?_
    refine q_then_n (hK7 _ _ ?_)
    refine c_seq (fun K8 hK8 => ?_)
    refine c_block ?_
    refine c_seq (fun K9 hK9 => ?_)
    refine c_region ?_
    refine tp rfl (lv_move rfl) ?_
    refine tp rfl (lv_indexAddr (k' := k) Tryd.underlying22 Tryd.sizeOf3 rfl rfl (fun hz => oky (by omega)) (by omega) (by omega) (by omega)) ?_
    refine tp rfl (lv_load Tryd.isAgg3 rfl (Rd.gives (Rd.cons hy) (ints_get (by first | omega | (simp; omega))))) ?_
    refine tp rfl (lv_assign rfl) ?_
    refine tp rfl (lv_assign rfl) ?_
    refine t_done ?_
    refine q_then_n (hK9 _ _ ?_)
    refine c_block ?_
    refine c_seq (fun K10 hK10 => ?_)
    refine c_block ?_
    refine c_seq (fun K11 hK11 => ?_)
    refine c_block ?_
    refine c_seq (fun K12 hK12 => ?_)
    refine c_block ?_
    refine c_seq (fun K13 hK13 => ?_)
    refine c_seq (fun K14 hK14 => ?_)
    refine c_seq (fun K15 hK15 => ?_)
    refine c_region ?_
    refine tp rfl (lv_move rfl) ?_
    refine tp rfl (lv_move rfl) ?_
    refine tp rfl (lv_indexAddr (k' := k) Tryd.underlying22 Tryd.sizeOf3 rfl rfl okx (by omega) (by omega) (by omega)) ?_
    refine tp rfl (lv_load Tryd.isAgg3 rfl (Rd.gives (Rd.cons hx) (ints_get (by first | omega | (simp; omega))))) ?_
    by_cases hst : ((xs).getD k 0) = 1
    · -- yes
      refine tp rfl (lv_neq rfl rfl (bne_eq_false_iff_eq.2 hst)) ?_
      refine tp rfl (lv_move rfl) ?_
      refine t_guard rfl rfl ?_
      refine tp rfl (lv_move rfl) ?_
      refine t_guard rfl rfl ?_
      refine tp rfl (lv_move rfl) ?_
      refine t_guard rfl rfl ?_
      refine tp rfl (lv_max (c := max p 0) rfl rfl rfl) ?_
      refine t_guard rfl rfl ?_
      by_cases hlt : ((ys).getD k 0) < (max p 0)
      · -- yes
        refine tp rfl (lv_lss rfl rfl (decide_eq_true hlt)) ?_
        refine tp rfl (lv_pick_f rfl rfl) ?_
        refine tp rfl (lv_assign rfl) ?_
        refine t_done ?_
        refine q_then_n (hK15 _ _ ?_)
        refine c_true rfl ?_
        refine c_exit ?_
        refine q_then_x ?_
        refine q_then_x ?_
        refine q_in_x ?_
        refine q_then_n (hK12 _ _ ?_)
        refine c_seq (fun K16 hK16 => ?_)
        refine c_exit ?_
        refine q_then_x ?_
        refine q_in_y rfl ?_
        refine q_then_x ?_
        refine q_in_y rfl ?_
        refine q_then_x ?_
        refine q_in_y rfl ?_
        refine q_in_x ?_
        refine q_then_n (hK8 _ _ ?_)
        refine c_region ?_
        refine tp rfl (lv_add (c := ((k + 1 : Nat) : Int)) rfl rfl (wr_i64_succ (by omega))) ?_
        refine tp rfl (lv_move rfl) ?_
        refine t_done ?_
        refine q_then_n ?_
        exact t_weak (by exact ⟨rfl, rfl, rfl, rfl, rfl, rfl, rfl, trivial⟩) ((hK5 (k + 1, p, ts, bt, ct) ⟨by omega, best_no hb (fun hh => by first | exact hst hh.1 | exact hh.2 hlt), hok, hle⟩ (by omega)))
      · -- no
        refine tp rfl (lv_lss rfl rfl (decide_eq_false hlt)) ?_
        refine tp rfl (lv_pick_f rfl rfl) ?_
        refine tp rfl (lv_assign rfl) ?_
        refine t_done ?_
        refine q_then_n (hK15 _ _ ?_)
        refine c_false rfl ?_
        refine c_skip ?_
        refine q_then_n (hK14 _ _ ?_)
        refine c_seq (fun K16 hK16 => ?_)
        refine c_region ?_
        refine tp rfl (lv_move rfl) ?_
        refine tp rfl (lv_move rfl) ?_
        by_cases hgt : ((ys).getD k 0) > p
        · -- yes
         refine tp rfl (lv_gtr rfl rfl (decide_eq_true hgt)) ?_
         refine tp rfl (lv_assign rfl) ?_
         refine t_done ?_
         refine q_then_n (hK16 _ _ ?_)
         refine c_true rfl ?_
         refine c_exit ?_
         refine q_then_x ?_
         refine q_in_y rfl ?_
         refine q_then_x ?_
         refine q_in_x ?_
         refine q_then_n (hK11 _ _ ?_)
         refine c_region ?_
         refine tp rfl (lv_move rfl) ?_
         refine tp rfl (lv_assign rfl) ?_
         refine tp rfl (lv_assign rfl) ?_
         refine t_done ?_
         refine q_in_n ?_
         refine q_then_n (hK10 _ _ ?_)
         refine c_seq (fun K17 hK17 => ?_)
         refine c_region ?_
         refine tp rfl (lv_move rfl) ?_
         refine tp rfl (lv_move rfl) ?_
         refine tm rfl (mv_buildSlice (cs := [(.int .i64 ((k : Nat) : Int))]) Tryd.underlying22 Tryd.sizeOf3 Tryd.zeroValue3 (by decide) rfl rfl rfl rfl) ?_
         rintro _ _ ⟨bs2, cp3, hok4, hle5, rfl, rfl⟩
         refine t_sat (fun _ h => sat_nilsl 3 1 h) ?_
         refine tm rfl (mv_append (i := Tryd.t3) Tryd.underlying22 Tryd.type3 rfl rfl rfl (by decide) rfl rfl hok4 (by first | (simp; done) | (simp; omega)) (rd_sl (.tail _ (.head _))) (by simp [Value.oneCell']) (by rw [show Tryd.t3.bytes = 8 from rfl]; omega)) ?_
         rintro _ _ ⟨bs6, cp7, hok8, hle9, rfl, rfl⟩
         simp only [Nat.zero_add] at hok8 hle9 ⊢
         refine tp rfl (lv_assign rfl) ?_
         refine t_done ?_
         refine q_then_n (hK17 _ _ ?_)
         refine c_exit ?_
         refine q_in_x ?_
         refine q_in_n ?_
         refine q_then_n (hK8 _ _ ?_)
         refine c_region ?_
         refine tp rfl (lv_add (c := ((k + 1 : Nat) : Int)) rfl rfl (wr_i64_succ (by omega))) ?_
         refine tp rfl (lv_move rfl) ?_
         refine t_done ?_
         refine q_then_n ?_
         refine t_f1 ?_
         refine t_drop ?_
         refine t_f1 ?_
         refine t_drop ?_
         exact t_weak (by exact ⟨rfl, rfl, rfl, rfl, rfl, rfl, rfl, trivial⟩) ((hK5 (k + 1, (ys).getD k 0, [((k : Nat) : Int)], bs6, cp7) ⟨by omega, best_new hb hst hlt hgt, hok8, hle9⟩ (by omega)))
        · -- no
         refine tp rfl (lv_gtr rfl rfl (decide_eq_false hgt)) ?_
         refine tp rfl (lv_assign rfl) ?_
         refine t_done ?_
         refine q_then_n (hK16 _ _ ?_)
         refine c_false rfl ?_
         refine c_skip ?_
         refine q_then_n (hK13 _ _ ?_)
         refine c_exit ?_
         refine q_in_y rfl ?_
         refine q_then_x ?_
         refine q_in_y rfl ?_
         refine q_then_x ?_
         refine q_in_x ?_
         refine q_then_n (hK10 _ _ ?_)
         refine c_seq (fun K17 hK17 => ?_)
         refine c_region ?_
         refine tp rfl (lv_move rfl) ?_
         refine tp rfl (lv_move rfl) ?_
         refine tm rfl (mv_buildSlice (cs := [(.int .i64 ((k : Nat) : Int))]) Tryd.underlying22 Tryd.sizeOf3 Tryd.zeroValue3 (by decide) rfl rfl rfl rfl) ?_
         rintro _ _ ⟨bs10, cp11, hok12, hle13, rfl, rfl⟩
         refine t_f1 ?_
         refine tm rfl (mv_append (i := Tryd.t3) Tryd.underlying22 Tryd.type3 rfl rfl rfl (by decide) rfl rfl hok12 (by first | (simp; done) | (simp; omega)) (rd_sl (.tail _ (.head _))) (by simp [Value.oneCell']) (by rw [show Tryd.t3.bytes = 8 from rfl]; omega)) ?_
         rintro _ _ ⟨bs14, cp15, hok16, hle17, rfl, rfl⟩
         rw [show ints .i64 ts ++ [(.int .i64 ((k : Nat) : Int))] = ints .i64 (ts ++ [((k : Nat) : Int)]) from ints_snoc _ _ _]
         rw [show ts.length + 1 = (ts ++ [((k : Nat) : Int)]).length from by simp] at hok16 hle17 ⊢
         refine tp rfl (lv_assign rfl) ?_
         refine t_done ?_
         refine q_then_n (hK17 _ _ ?_)
         refine c_exit ?_
         refine q_in_x ?_
         refine q_in_n ?_
         refine q_then_n (hK8 _ _ ?_)
         refine c_region ?_
         refine tp rfl (lv_add (c := ((k + 1 : Nat) : Int)) rfl rfl (wr_i64_succ (by omega))) ?_
         refine tp rfl (lv_move rfl) ?_
         refine t_done ?_
         refine q_then_n ?_
         refine t_f1 ?_
         refine t_drop ?_
         exact t_weak (by exact ⟨rfl, rfl, rfl, rfl, rfl, rfl, rfl, trivial⟩) ((hK5 (k + 1, p, ts ++ [((k : Nat) : Int)], bs14, cp15) ⟨by omega, best_add hb hst hlt hgt, hok16, hle17⟩ (by omega)))
    · -- no
      refine tp rfl (lv_neq rfl rfl (bne_iff_ne.2 hst)) ?_
      refine tp rfl (lv_move rfl) ?_
      refine t_skip rfl rfl rfl ?_
      refine t_skip rfl rfl rfl ?_
      refine t_skip rfl rfl rfl ?_
      refine t_skip rfl rfl rfl ?_
      refine tp rfl (lv_pick_t rfl rfl) ?_
      refine tp rfl (lv_assign rfl) ?_
      refine t_done ?_
      refine q_then_n (hK15 _ _ ?_)
      refine c_true rfl ?_
      refine c_exit ?_
      refine q_then_x ?_
      refine q_then_x ?_
      refine q_in_x ?_
      refine q_then_n (hK12 _ _ ?_)
      refine c_seq (fun K16 hK16 => ?_)
      refine c_exit ?_
      refine q_then_x ?_
      refine q_in_y rfl ?_
      refine q_then_x ?_
      refine q_in_y rfl ?_
      refine q_then_x ?_
      refine q_in_y rfl ?_
      refine q_in_x ?_
      refine q_then_n (hK8 _ _ ?_)
      refine c_region ?_
      refine tp rfl (lv_add (c := ((k + 1 : Nat) : Int)) rfl rfl (wr_i64_succ (by omega))) ?_
      refine tp rfl (lv_move rfl) ?_
      refine t_done ?_
      refine q_then_n ?_
      exact t_weak (by exact ⟨rfl, rfl, rfl, rfl, rfl, rfl, rfl, trivial⟩) ((hK5 (k + 1, p, ts, bt, ct) ⟨by omega, best_no hb (fun hh => by first | exact hst hh.1 | exact hh.2 hlt), hok, hle⟩ (by omega)))
  · -- no
    refine tp rfl (lv_lss rfl rfl (decide_eq_false h1)) ?_
    refine t_done ?_
    refine q_then_n (hK6 _ _ ?_)
    refine c_seq (fun K7 hK7 => ?_)
    refine c_false rfl ?_
    refine c_exit ?_
    refine q_then_x ?_
    refine q_then_x ?_
    refine q_in_x ?_
    refine q_then_n (hK3 _ _ ?_)
    refine c_seq (fun K8 hK8 => ?_)
    refine c_region ?_
    refine tp rfl (lv_move rfl) ?_
    refine tp rfl (lv_move rfl) ?_
    refine tp rfl (lv_assign rfl) ?_
    refine tp rfl (lv_assign rfl) ?_
    refine t_done ?_
    refine q_then_n (hK8 _ _ ?_)
    refine c_ret ?_
    refine q_ret2 rfl rfl rfl ?_
    have e : k = m := by omega
    subst e
    rw [hb]
    exact ⟨bt, ct, hok, hle, rfl, rfl⟩
end Go.Proofs.YtfoiopbjomaclaaDoor
