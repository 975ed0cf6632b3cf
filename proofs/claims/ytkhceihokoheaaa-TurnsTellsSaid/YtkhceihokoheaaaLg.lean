/- TurnsCredit: the law's walk. -/
import Derived.Test.YtkhceihokoheaaaLa
import Derived.Test.YtkhceihokoheaaaTst
set_option maxRecDepth 100000
set_option linter.unusedVariables false
set_option linter.unusedSimpArgs false
namespace Go.Proofs.Ytkhceihokoheaaa
open Go Go.Proofs Sp
theorem few_ok {R : List HP} {bl : Option Addr} {cl : Nat} (ws : List (Int × Int)) (hw : Rd R bl (pairs ws)) (okl : SlOk bl ws.length) (lw : ws.length ≤ 9223372036854775807) :
    Ok Try.prog 15 [(.slice bl ws.length cl)] R
      (fun v M => ∃ bs cp, SlOk bs (fewL ws).length ∧ (fewL ws).length ≤ cp ∧ v = .slice bs (fewL ws).length cp ∧ M = SlV 31 2 (.slice bs (fewL ws).length cp) (fewL ws).length (pairs (fewL ws)) :: R) := by
  refine ok_of (N := 41) Try.func15 rfl rfl rfl (fun W => ?_)
  refine c_seq (fun K1 hK1 => ?_)
  refine c_region ?_
  refine tp rfl (lv_assign rfl) ?_
  refine t_done ?_
  refine q_then_n (hK1 _ _ ?_)
  refine c_seq (fun K2 hK2 => ?_)
  refine c_region ?_
  refine tp rfl (lv_assign rfl) ?_
  refine t_done ?_
  refine q_then_n (hK2 _ _ ?_)
  refine c_seq (fun K3 hK3 => ?_)
  refine c_seq (fun K4 hK4 => ?_)
  refine c_region ?_
  refine tp rfl (lv_assign rfl) ?_
  refine t_done ?_
  refine q_then_n (hK4 _ _ ?_)
  refine c_block ?_
  refine t_sat (fun _ h => sat_nilsl 31 2 h) ?_
  refine c_loop (γ := (Nat) × (Option Addr) × (Nat)) (fun (k, bo, co) => k ≤ ws.length ∧ k ≤ 10 ∧ SlOk bo k ∧ k ≤ co) (fun (k, bo, co) => [(0, (.slice bl ws.length cl)), (2, (.slice none 0 0)), (3, (.slice bo k co)), (4, (.int .i64 ((k : Nat) : Int)))]) (fun (k, bo, co) => (SlV 31 2 (.slice bo k co) k (pairs (fewL (ws.take k)))) :: R) (fun (k, bo, co) => ws.length - k) (0, none, 0) ⟨by omega, by omega, slok_none, Nat.le_refl _⟩ ⟨rfl, rfl, rfl, rfl, trivial⟩ (fun _ h => h) ?_
  rintro ⟨k, bo, co⟩ K5 hF hK5
  try dsimp only at hF hK5 ⊢
  obtain ⟨hk, hk2, hbo, hco⟩ := hF
  refine c_seq (fun K6 hK6 => ?_)
  refine c_seq (fun K7 hK7 => ?_)
  refine c_region ?_
  by_cases hc1 : ((k : Nat) : Int) < ((ws.length : Nat) : Int) ∧ ((k : Nat) : Int) < 10
  · -- both
    have hc1a := hc1.1
    have hc1b := hc1.2
    refine tp rfl (lv_move rfl) ?_
    refine tp rfl (lv_move rfl) ?_
    refine tp rfl (lv_len Try.underlying29 rfl rfl) ?_
    refine tp rfl (lv_lss rfl rfl (decide_eq_true hc1.1)) ?_
    refine tp rfl (lv_move rfl) ?_
    refine t_guard rfl rfl ?_
    refine tp rfl (lv_move rfl) ?_
    refine t_guard rfl rfl ?_
    refine tp rfl (lv_lss rfl rfl (decide_eq_true hc1.2)) ?_
    refine tp rfl (lv_pick_t rfl rfl) ?_
    refine t_done ?_
    refine q_then_n (hK7 _ _ ?_)
    refine c_true rfl ?_
    refine c_skip ?_
    refine q_then_n (hK6 _ _ ?_)
    refine c_seq (fun K8 hK8 => ?_)
    refine c_block ?_
    refine c_seq (fun K9 hK9 => ?_)
    refine c_region ?_
    refine tp rfl (lv_move rfl) ?_
    refine tp rfl (lv_move rfl) ?_
    refine tp rfl (lv_indexAddr (k' := k * 2) Try.underlying29 Try.sizeOf31 rfl rfl okl (by omega) (by omega) (by omega)) ?_
    refine tp rfl (lv_fieldAddr_ad (o' := k * 2 + 1) Try.underlying31 rfl Try.sizeOf3 rfl rfl) ?_
    refine tp rfl (lv_load Try.isAgg3 rfl (Rd.gives (Rd.cons hw) (pairs_get1 (by omega)))) ?_
    refine tp rfl (lv_assign rfl) ?_
    refine t_done ?_
    refine q_then_n (hK9 _ _ ?_)
    refine c_seq (fun K10 hK10 => ?_)
    refine c_seq (fun K11 hK11 => ?_)
    refine c_region ?_
    by_cases hc2 : (((ws).getD k (0, 0)).2) > 1024 ∧ (((ws).getD k (0, 0)).2) ≤ 1048576
    · -- both
      have hc2a := hc2.1
      have hc2b := hc2.2
      refine tp rfl (lv_move rfl) ?_
      refine tp rfl (lv_gtr rfl rfl (decide_eq_true hc2.1)) ?_
      refine tp rfl (lv_move rfl) ?_
      refine t_guard rfl rfl ?_
      refine tp rfl (lv_move rfl) ?_
      refine t_guard rfl rfl ?_
      refine tp rfl (lv_leq rfl rfl (decide_eq_true hc2.2)) ?_
      refine tp rfl (lv_pick_t rfl rfl) ?_
      refine t_done ?_
      refine q_then_n (hK11 _ _ ?_)
      refine c_true rfl ?_
      refine c_region ?_
      refine tp rfl (lv_move rfl) ?_
      refine tp rfl (lv_and (c := (ws.getD k (0, 0)).2 % 1024) rfl rfl (and_3ff _)) ?_
      refine tp rfl (lv_add (c := 1 + ((ws.getD k (0, 0)).2 % 1024)) rfl rfl (wr_i64 (by omega) (by omega))) ?_
      refine tp rfl (lv_assign rfl) ?_
      refine t_done ?_
      refine q_then_n (hK10 _ _ ?_)
      refine c_region ?_
      refine tp rfl (lv_move rfl) ?_
      refine tp rfl (lv_move rfl) ?_
      refine tp rfl (lv_move rfl) ?_
      refine tp rfl (lv_indexAddr (k' := k * 2) Try.underlying29 Try.sizeOf31 rfl rfl okl (by omega) (by omega) (by omega)) ?_
      refine tp rfl (lv_fieldAddr_ad (o' := k * 2) Try.underlying31 rfl Try.sizeOf3 rfl rfl) ?_
      refine tp rfl (lv_load Try.isAgg3 rfl (Rd.gives (Rd.cons hw) (pairs_get0 (by omega)))) ?_
      refine tp rfl (lv_move rfl) ?_
      refine tp rfl (lv_build (cs := [(.int .i64 (((ws).getD k (0, 0)).1)), (.int .i64 (1 + ((ws.getD k (0, 0)).2 % 1024)))]) (pl := [(0, 1), (1, 1)]) Try.underlying31 Try.zeroValue31 (fun _ => by simp) rfl rfl) ?_
      refine tm rfl (mv_buildSlice (cs := [(.int .i64 (((ws).getD k (0, 0)).1)), (.int .i64 (1 + ((ws.getD k (0, 0)).2 % 1024)))]) Try.underlying29 Try.sizeOf31 Try.zeroValue31 (by decide) rfl rfl rfl rfl) ?_
      rintro _ _ ⟨bs3, cp4, hok5, hle6, rfl, rfl⟩
      refine t_f1 ?_
      refine tm rfl (mv_append (i := Try.t31) Try.underlying29 Try.type31 rfl rfl rfl (by decide) rfl rfl hok5 (by first | (simp; done) | (simp; omega)) (rd_sl (.tail _ (.head _))) (by simp [Value.oneCell']) (by rw [show Try.t31.bytes = 16 from rfl]; omega)) ?_
      rintro _ _ ⟨bs7, cp8, hok9, hle10, rfl, rfl⟩
      rw [show pairs (fewL (ws.take k)) ++ [(.int .i64 (((ws).getD k (0, 0)).1)), (.int .i64 (1 + ((ws.getD k (0, 0)).2 % 1024)))] = pairs ((fewL (ws.take k)) ++ [(((ws).getD k (0, 0)).1, 1 + ((ws.getD k (0, 0)).2 % 1024))]) from pairs_snoc _ _ _]
      refine tp rfl (lv_assign rfl) ?_
      refine t_done ?_
      refine q_in_n ?_
      refine q_then_n (hK8 _ _ ?_)
      refine c_region ?_
      refine tp rfl (lv_move rfl) ?_
      refine tp rfl (lv_add (c := ((k + 1 : Nat) : Int)) rfl rfl (wr_i64_succ (by omega))) ?_
      refine tp rfl (lv_assign rfl) ?_
      refine t_done ?_
      refine q_then_n ?_
      refine t_f1 ?_
      refine t_drop ?_
      have hcut : cutC (ws.getD k (0, 0)).2 = 1 + ((ws.getD k (0, 0)).2 % 1024) := by unfold cutC; first | exact if_pos ⟨by omega, by omega⟩ | exact if_neg (fun hh => by omega)
      rw [show (fewL (ws.take k)) ++ [(((ws).getD k (0, 0)).1, 1 + ((ws.getD k (0, 0)).2 % 1024))] = fewL (ws.take (k + 1)) from by rw [few_succ (by omega) (by omega), hcut]]
      exact t_weak (by exact ⟨rfl, rfl, rfl, rfl, trivial⟩) ((hK5 (k + 1, bs7, cp8) ⟨by omega, by omega, hok9, hle10⟩ (by dsimp only; omega)))
    · -- not both
      refine t_cut0 (E' := [(0, (.slice bl ws.length cl)), (2, (.slice none 0 0)), (3, (.slice bo k co)), (4, (.int .i64 ((k : Nat) : Int))), (5, (.int .i64 (((ws).getD k (0, 0)).2))), (13, (.bool true)), (26, (.bool false))]) ?_ (fun KK hKK => ?_)
      ·
        refine q_then_n (hK11 _ _ ?_)
        refine c_false rfl ?_
        refine c_skip ?_
        refine q_then_n (hK10 _ _ ?_)
        refine c_region ?_
        refine tp rfl (lv_move rfl) ?_
        refine tp rfl (lv_move rfl) ?_
        refine tp rfl (lv_move rfl) ?_
        refine tp rfl (lv_indexAddr (k' := k * 2) Try.underlying29 Try.sizeOf31 rfl rfl okl (by omega) (by omega) (by omega)) ?_
        refine tp rfl (lv_fieldAddr_ad (o' := k * 2) Try.underlying31 rfl Try.sizeOf3 rfl rfl) ?_
        refine tp rfl (lv_load Try.isAgg3 rfl (Rd.gives (Rd.cons hw) (pairs_get0 (by omega)))) ?_
        refine tp rfl (lv_move rfl) ?_
        refine tp rfl (lv_build (cs := [(.int .i64 (((ws).getD k (0, 0)).1)), (.int .i64 (((ws).getD k (0, 0)).2))]) (pl := [(0, 1), (1, 1)]) Try.underlying31 Try.zeroValue31 (fun _ => by simp) rfl rfl) ?_
        refine tm rfl (mv_buildSlice (cs := [(.int .i64 (((ws).getD k (0, 0)).1)), (.int .i64 (((ws).getD k (0, 0)).2))]) Try.underlying29 Try.sizeOf31 Try.zeroValue31 (by decide) rfl rfl rfl rfl) ?_
        rintro _ _ ⟨bs11, cp12, hok13, hle14, rfl, rfl⟩
        refine t_f1 ?_
        refine tm rfl (mv_append (i := Try.t31) Try.underlying29 Try.type31 rfl rfl rfl (by decide) rfl rfl hok13 (by first | (simp; done) | (simp; omega)) (rd_sl (.tail _ (.head _))) (by simp [Value.oneCell']) (by rw [show Try.t31.bytes = 16 from rfl]; omega)) ?_
        rintro _ _ ⟨bs15, cp16, hok17, hle18, rfl, rfl⟩
        rw [show pairs (fewL (ws.take k)) ++ [(.int .i64 (((ws).getD k (0, 0)).1)), (.int .i64 (((ws).getD k (0, 0)).2))] = pairs ((fewL (ws.take k)) ++ [(((ws).getD k (0, 0)).1, ((ws).getD k (0, 0)).2)]) from pairs_snoc _ _ _]
        refine tp rfl (lv_assign rfl) ?_
        refine t_done ?_
        refine q_in_n ?_
        refine q_then_n (hK8 _ _ ?_)
        refine c_region ?_
        refine tp rfl (lv_move rfl) ?_
        refine tp rfl (lv_add (c := ((k + 1 : Nat) : Int)) rfl rfl (wr_i64_succ (by omega))) ?_
        refine tp rfl (lv_assign rfl) ?_
        refine t_done ?_
        refine q_then_n ?_
        refine t_f1 ?_
        refine t_drop ?_
        have hcut : cutC (ws.getD k (0, 0)).2 = ((ws).getD k (0, 0)).2 := by unfold cutC; first | exact if_pos ⟨by omega, by omega⟩ | exact if_neg (fun hh => by omega)
        rw [show (fewL (ws.take k)) ++ [(((ws).getD k (0, 0)).1, ((ws).getD k (0, 0)).2)] = fewL (ws.take (k + 1)) from by rw [few_succ (by omega) (by omega), hcut]]
        exact t_weak (by exact ⟨rfl, rfl, rfl, rfl, trivial⟩) ((hK5 (k + 1, bs15, cp16) ⟨by omega, by omega, hok17, hle18⟩ (by dsimp only; omega)))
      · -- which
        by_cases hc2A : (((ws).getD k (0, 0)).2) > 1024
        ·
         have hc2B : ¬ ((((ws).getD k (0, 0)).2) ≤ 1048576) := fun hh => hc2 ⟨hc2A, hh⟩
         refine tp rfl (lv_move rfl) ?_
         refine tp rfl (lv_gtr rfl rfl (decide_eq_true hc2A)) ?_
         refine tp rfl (lv_move rfl) ?_
         refine t_guard rfl rfl ?_
         refine tp rfl (lv_move rfl) ?_
         refine t_guard rfl rfl ?_
         refine tp rfl (lv_leq rfl rfl (decide_eq_false hc2B)) ?_
         refine tp rfl (lv_pick_t rfl rfl) ?_
         exact t_done (t_weak (by exact ⟨rfl, rfl, rfl, rfl, rfl, rfl, rfl, trivial⟩) hKK)
        ·
         refine tp rfl (lv_move rfl) ?_
         refine tp rfl (lv_gtr rfl rfl (decide_eq_false hc2A)) ?_
         refine tp rfl (lv_move rfl) ?_
         refine t_skip rfl rfl rfl ?_
         refine t_skip rfl rfl rfl ?_
         refine tp rfl (lv_pick_f rfl rfl) ?_
         exact t_done (t_weak (by exact ⟨rfl, rfl, rfl, rfl, rfl, rfl, rfl, trivial⟩) hKK)
  · -- not both
    refine t_cut0 (E' := [(0, (.slice bl ws.length cl)), (2, (.slice none 0 0)), (3, (.slice bo k co)), (4, (.int .i64 ((k : Nat) : Int))), (13, (.bool false))]) ?_ (fun KK hKK => ?_)
    ·
      refine q_then_n (hK7 _ _ ?_)
      refine c_false rfl ?_
      refine c_exit ?_
      refine q_then_x ?_
      refine q_then_x ?_
      refine q_in_x ?_
      refine q_then_n (hK3 _ _ ?_)
      refine c_seq (fun K8 hK8 => ?_)
      refine c_region ?_
      refine tp rfl (lv_move rfl) ?_
      refine tp rfl (lv_assign rfl) ?_
      refine t_done ?_
      refine q_then_n (hK8 _ _ ?_)
      refine c_ret ?_
      rw [show fewL (ws.take k) = fewL ws from few_end (by omega) (by omega)]
      have hkl : k = (fewL ws).length := by rw [few_len]; omega
      subst hkl
      refine q_ret rfl rfl ?_
      exact ⟨_, _, hbo, hco, rfl, rfl⟩
    · -- which
      by_cases hc1A : ((k : Nat) : Int) < ((ws.length : Nat) : Int)
      ·
        have hc1B : ¬ (((k : Nat) : Int) < 10) := fun hh => hc1 ⟨hc1A, hh⟩
        refine tp rfl (lv_move rfl) ?_
        refine tp rfl (lv_move rfl) ?_
        refine tp rfl (lv_len Try.underlying29 rfl rfl) ?_
        refine tp rfl (lv_lss rfl rfl (decide_eq_true hc1A)) ?_
        refine tp rfl (lv_move rfl) ?_
        refine t_guard rfl rfl ?_
        refine tp rfl (lv_move rfl) ?_
        refine t_guard rfl rfl ?_
        refine tp rfl (lv_lss rfl rfl (decide_eq_false hc1B)) ?_
        refine tp rfl (lv_pick_t rfl rfl) ?_
        exact t_done (t_weak (by exact ⟨rfl, rfl, rfl, rfl, rfl, trivial⟩) hKK)
      ·
        refine tp rfl (lv_move rfl) ?_
        refine tp rfl (lv_move rfl) ?_
        refine tp rfl (lv_len Try.underlying29 rfl rfl) ?_
        refine tp rfl (lv_lss rfl rfl (decide_eq_false hc1A)) ?_
        refine tp rfl (lv_move rfl) ?_
        refine t_skip rfl rfl rfl ?_
        refine t_skip rfl rfl rfl ?_
        refine tp rfl (lv_pick_f rfl rfl) ?_
        exact t_done (t_weak (by exact ⟨rfl, rfl, rfl, rfl, rfl, trivial⟩) hKK)

set_option maxHeartbeats 4000000 in
theorem credit_ok {R : List HP} (n : Int) {bl : Option Addr} {cl : Nat} (l : List St4) (hl : Rd R bl (recs st4F l)) (okl : SlOk bl l.length) (ll : l.length ≤ 9223372036854775807) (hg : ∀ x ∈ l, GoodS R x) :
    Ok Try.prog 6 [(.int .i64 n), (.slice bl l.length cl)] R
      (fun v M => v = .bool true ∧ M = R) := by
  obtain ⟨q, hq⟩ : ∃ q : Int, qOf n = q := ⟨_, rfl⟩
  have hqb : 1 ≤ q ∧ q ≤ 1048576 := by rw [← hq]; unfold qOf; omega
  refine ok_of (N := 102) Try.func6 rfl rfl rfl (fun W => ?_)
  refine c_seq (fun K1 hK1 => ?_)
  refine c_region ?_
  refine tp rfl (lv_assign rfl) ?_
  refine t_done ?_
  refine q_then_n (hK1 _ _ ?_)
  refine c_seq (fun K2 hK2 => ?_)
  refine c_region ?_
  refine tc rfl (en_fn Try.call10 rfl) (shown_ok) ?_
  rintro _ _ ⟨rfl, hMR⟩
  rw [hMR]; clear hMR
  refine tp rfl (lv_assign rfl) ?_
  refine t_done ?_
  refine q_then_n (hK2 _ _ ?_)
  refine c_seq (fun K3 hK3 => ?_)
  refine c_region ?_
  refine tp rfl (lv_move rfl) ?_
  refine tc rfl (en_fn Try.call11 rfl) (tnew_ok n) ?_
  rintro _ _ ⟨p1, rfl, rfl⟩
  rw [show qOf n = q from hq]
  refine tp rfl (lv_assign rfl) ?_
  refine t_done ?_
  refine q_then_n (hK3 _ _ ?_)
  refine c_seq (fun K4 hK4 => ?_)
  refine c_seq (fun K5 hK5 => ?_)
  refine c_region ?_
  refine tp rfl (lv_move rfl) ?_
  refine tp rfl (lv_eqnil Try.underlying24 rfl rfl) ?_
  refine t_done ?_
  refine q_then_n (hK5 _ _ ?_)
  refine c_false rfl ?_
  refine c_skip ?_
  refine q_then_n (hK4 _ _ ?_)
  refine c_seq (fun K6 hK6 => ?_)
  refine c_region ?_
  refine tp rfl (lv_buildArr0 (cs := (ints .i64 (List.replicate 20 0))) Try.underlying39 Try.zeroValue39 Try.sizeOf3 rfl) ?_
  refine tm rfl (mv_alloc (cs := (ints .i64 (List.replicate 20 0))) Try.zeroValue39 rfl) ?_
  rintro _ _ ⟨b2, rfl, rfl⟩
  refine ts (sv_blkAgg (news := (ints .i64 (List.replicate 20 0))) (cs' := (ints .i64 (List.replicate 20 0))) Try.sizeOf39 rfl rfl rfl (by decide) (by decide) rfl) ?_
  refine t_done ?_
  refine q_then_n (hK6 _ _ ?_)
  refine c_seq (fun K7 hK7 => ?_)
  refine c_seq (fun K8 hK8 => ?_)
  refine c_region ?_
  refine tp rfl (lv_assign rfl) ?_
  refine t_done ?_
  refine q_then_n (hK8 _ _ ?_)
  refine c_block ?_
  refine c_loop (γ := (Nat) × (List M3) × (Nat) × (List Int)) (fun (i, ms, a, wts) => i ≤ l.length ∧ i ≤ 100 ∧ ms.length ≤ i ∧ CredS q ms a wts) (fun (i, ms, a, wts) => [(0, (.int .i64 n)), (1, (.slice bl l.length cl)), (5, (.bool true)), (6, (.pointer (some ⟨p1, 0, none⟩))), (7, (.pointer (some ⟨b2, 0, none⟩))), (8, (.int .i64 ((i : Nat) : Int))), (18, (.bool false))]) (fun (i, ms, a, wts) => (Blk b2 (ints .i64 wts) 39) :: (TurnsO p1 q ms a) :: R) (fun (i, ms, a, wts) => l.length - i) (0, [], 0, List.replicate 20 0) ⟨by omega, by omega, by simp, CredS.start q⟩ ⟨rfl, rfl, rfl, rfl, rfl, rfl, rfl, trivial⟩ (fun _ h => h) ?_
  rintro ⟨i, ms, a, wts⟩ K9 hF hK9
  try dsimp only at hF hK9 ⊢
  obtain ⟨hi, hi2, hml, hc⟩ := hF
  have hwl := hc.len
  refine c_seq (fun K10 hK10 => ?_)
  refine c_seq (fun K11 hK11 => ?_)
  refine c_region ?_
  by_cases hc3 : ((i : Nat) : Int) < ((l.length : Nat) : Int) ∧ ((i : Nat) : Int) < 100
  · -- both
    have hc3a := hc3.1
    have hc3b := hc3.2
    refine tp rfl (lv_move rfl) ?_
    refine tp rfl (lv_move rfl) ?_
    refine tp rfl (lv_len Try.underlying38 rfl rfl) ?_
    refine tp rfl (lv_lss rfl rfl (decide_eq_true hc3.1)) ?_
    refine tp rfl (lv_move rfl) ?_
    refine t_guard rfl rfl ?_
    refine tp rfl (lv_move rfl) ?_
    refine t_guard rfl rfl ?_
    refine tp rfl (lv_lss rfl rfl (decide_eq_true hc3.2)) ?_
    refine tp rfl (lv_pick_t rfl rfl) ?_
    refine t_done ?_
    refine q_then_n (hK11 _ _ ?_)
    refine c_true rfl ?_
    refine c_skip ?_
    refine q_then_n (hK10 _ _ ?_)
    refine c_seq (fun K12 hK12 => ?_)
    refine c_block ?_
    refine c_seq (fun K13 hK13 => ?_)
    refine c_region ?_
    refine tp rfl (lv_move rfl) ?_
    refine tp rfl (lv_move rfl) ?_
    refine tp rfl (lv_indexAddr (k' := i * 4) Try.underlying38 Try.sizeOf41 rfl rfl okl (by omega) (by omega) (by omega)) ?_
    refine tp rfl (lv_loadAgg_ad (cs := [(.int .i64 ((l.getD i St4.d).kd)), (.int .i64 ((l.getD i St4.d).id)), (.int .i64 ((l.getD i St4.d).w)), (l.getD i St4.d).lv]) Try.isAgg41 Try.sizeOf41 rfl (gives_all4 (Rd.gives (Rd.cons (Rd.cons hl)) ((recs_get (k := i) (j := 0) st4F_len (d := St4.d) (by omega) (Nat.le_of_ble_eq_true rfl)).trans rfl)) (Rd.gives (Rd.cons (Rd.cons hl)) ((recs_get (k := i) (j := 1) st4F_len (d := St4.d) (by omega) (Nat.le_of_ble_eq_true rfl)).trans rfl)) (Rd.gives (Rd.cons (Rd.cons hl)) ((recs_get (k := i) (j := 2) st4F_len (d := St4.d) (by omega) (Nat.le_of_ble_eq_true rfl)).trans rfl)) (Rd.gives (Rd.cons (Rd.cons hl)) ((recs_get (k := i) (j := 3) st4F_len (d := St4.d) (by omega) (Nat.le_of_ble_eq_true rfl)).trans rfl)))) ?_
    obtain ⟨_, bw, cw, hlv, hlw, okw, hrw⟩ := hg _ (st4_mem (show i < l.length by omega))
    rw [hlv]
    refine tm rfl (mv_alloc Try.zeroValue41 rfl) ?_
    rintro _ _ ⟨b4, rfl, rfl⟩
    refine ts (sv_blkAgg (news := [(.int .i64 ((l.getD i St4.d).kd)), (.int .i64 ((l.getD i St4.d).id)), (.int .i64 ((l.getD i St4.d).w)), (.slice bw ((l.getD i St4.d).ws.length) cw)]) Try.sizeOf41 rfl rfl rfl rfl (Nat.le_of_ble_eq_true rfl) rfl) ?_
    refine t_done ?_
    refine q_then_n (hK13 _ _ ?_)
    refine c_seq (fun K14 hK14 => ?_)
    refine c_region ?_
    refine tp rfl (lv_fieldAddr (o' := 1) Try.underlying41 rfl Try.sizeOf3 rfl rfl) ?_
    refine tp rfl (lv_load Try.isAgg3 rfl (gives_blk (.head _) rfl)) ?_
    refine tp rfl (lv_and (c := (l.getD i St4.d).id % 16) rfl rfl (and_0f _)) ?_
    refine tp rfl (lv_assign rfl) ?_
    refine t_done ?_
    refine q_then_n (hK14 _ _ ?_)
    refine c_seq (fun K15 hK15 => ?_)
    have hM15 : ∀ (m2 : List M3) (a2 : Nat) (w2 : List Int), CredS q m2 a2 w2 ∧ m2.length ≤ i + 1 → Tri K15 W 102 [(0, (.int .i64 n)), (1, (.slice bl l.length cl)), (5, (.bool true)), (6, (.pointer (some ⟨p1, 0, none⟩))), (7, (.pointer (some ⟨b2, 0, none⟩))), (8, (.int .i64 ((i : Nat) : Int))), (9, (.pointer (some ⟨b4, 0, none⟩))), (10, (.int .i64 ((l.getD i St4.d).id % 16))), (18, (.bool false)), (27, (.bool true))] ((Blk b4 [(.int .i64 ((l.getD i St4.d).kd)), (.int .i64 ((l.getD i St4.d).id)), (.int .i64 ((l.getD i St4.d).w)), (.slice bw ((l.getD i St4.d).ws.length) cw)] 41) :: (Blk b2 (ints .i64 w2) 39) :: (TurnsO p1 q m2 a2) :: R) := by
      rintro m2 a2 w2 hF
      obtain ⟨hc2, hml2⟩ := hF
      have hwl2 := hc2.len
      refine hK15 _ _ ?_
      refine c_seq (fun K16 hK16 => ?_)
      refine c_region ?_
      refine tp rfl (lv_assign rfl) ?_
      refine t_done ?_
      refine q_then_n (hK16 _ _ ?_)
      refine c_block ?_
      refine c_loop (γ := (Nat)) (fun (k : Nat) => k ≤ 20) (fun (k : Nat) => [(0, (.int .i64 n)), (1, (.slice bl l.length cl)), (5, (.bool true)), (6, (.pointer (some ⟨p1, 0, none⟩))), (7, (.pointer (some ⟨b2, 0, none⟩))), (8, (.int .i64 ((i : Nat) : Int))), (9, (.pointer (some ⟨b4, 0, none⟩))), (10, (.int .i64 ((l.getD i St4.d).id % 16))), (11, (.int .i64 ((k : Nat) : Int))), (18, (.bool false)), (27, (.bool true))]) (fun (k : Nat) => (Blk b4 [(.int .i64 ((l.getD i St4.d).kd)), (.int .i64 ((l.getD i St4.d).id)), (.int .i64 ((l.getD i St4.d).w)), (.slice bw ((l.getD i St4.d).ws.length) cw)] 41) :: (Blk b2 (ints .i64 w2) 39) :: (TurnsO p1 q m2 a2) :: R) (fun (k : Nat) => 20 - k) (0) (by omega) ⟨rfl, rfl, rfl, rfl, rfl, rfl, rfl, rfl, rfl, rfl, rfl, trivial⟩ (fun _ h => h) ?_
      rintro k K17 hF hK17
      try dsimp only at hF hK17 ⊢
      refine c_seq (fun K18 hK18 => ?_)
      refine c_seq (fun K19 hK19 => ?_)
      refine c_region ?_
      refine tp rfl (lv_move rfl) ?_
      by_cases h5 : ((k : Nat) : Int) < 20
      · -- yes
        refine tp rfl (lv_lss rfl rfl (decide_eq_true h5)) ?_
        refine t_done ?_
        refine q_then_n (hK19 _ _ ?_)
        refine c_true rfl ?_
        refine c_skip ?_
        refine q_then_n (hK18 _ _ ?_)
        refine c_seq (fun K20 hK20 => ?_)
        refine c_block ?_
        refine c_seq (fun K21 hK21 => ?_)
        refine c_region ?_
        refine tp rfl (lv_move rfl) ?_
        refine tp rfl (lv_move rfl) ?_
        refine t_f2 ?_
        refine tc rfl (en_fn Try.call16 rfl) (tcredit_ok (q := q) (ms := m2) (a := a2) ((k : Nat) : Int) (by omega)) ?_
        rintro _ _ ⟨rfl, rfl⟩
        refine tp rfl (lv_move rfl) ?_
        refine tp rfl (lv_extract rfl rfl) ?_
        refine tp rfl (lv_extract rfl rfl) ?_
        refine tp rfl (lv_assign rfl) ?_
        refine tp rfl (lv_assign rfl) ?_
        refine t_done ?_
        refine q_then_n (hK21 _ _ ?_)
        refine c_seq (fun K22 hK22 => ?_)
        have htell := hc2.tell hqb k
        by_cases hp : placeM m2 ((k : Nat) : Int) ≥ 0
        · -- True
         rw [show decide (placeM m2 ((k : Nat) : Int) ≥ 0) = true from decide_eq_true hp]
         obtain ⟨t1, t2, t3, t4⟩ := htell.1 hp
         refine c_region ?_
         refine tp rfl (lv_move rfl) ?_
         refine tp rfl (lv_lss rfl rfl (decide_eq_false (by omega))) ?_
         refine tp rfl (lv_move rfl) ?_
         refine t_guard rfl rfl ?_
         refine tp rfl (lv_move rfl) ?_
         refine t_guard rfl rfl ?_
         refine tp rfl (lv_not (c := false) rfl rfl) ?_
         refine t_guard rfl rfl ?_
         refine tp rfl (lv_move rfl) ?_
         refine t_skip rfl rfl rfl ?_
         refine t_skip rfl rfl rfl ?_
         refine t_guard rfl rfl ?_
         refine tp rfl (lv_pick_f rfl rfl) ?_
         refine tp rfl (lv_pick_f rfl rfl) ?_
         refine tp rfl (lv_move rfl) ?_
         refine t_guard rfl rfl ?_
         refine tp rfl (lv_move rfl) ?_
         refine t_guard rfl rfl ?_
         refine tp rfl (lv_move rfl) ?_
         refine t_guard rfl rfl ?_
         refine tp rfl (lv_move rfl) ?_
         refine t_guard rfl rfl ?_
         refine tp rfl (lv_move rfl) ?_
         refine t_guard rfl rfl ?_
         refine tp rfl (lv_max (c := max n 1) rfl rfl rfl) ?_
         refine t_guard rfl rfl ?_
         refine tp rfl (lv_min (c := q) rfl rfl hq) ?_
         refine t_guard rfl rfl ?_
         refine tp rfl (lv_move rfl) ?_
         refine t_guard rfl rfl ?_
         refine tp rfl (lv_indexArr (k' := k) Try.underlying39 Try.sizeOf3 rfl rfl (by omega) (by omega) (by omega)) ?_
         refine t_guard rfl rfl ?_
         refine tp rfl (lv_load Try.isAgg3 rfl (gives_blk (.tail _ (.tail _ (.head _))) (ints_get (by omega)))) ?_
         refine t_guard rfl rfl ?_
         refine tp rfl (lv_mul (c := q * ((w2).getD k 0)) rfl rfl (wr_i64 (by omega) (by omega))) ?_
         refine t_guard rfl rfl ?_
         refine tp rfl (lv_add (c := 1024 + (q * ((w2).getD k 0))) rfl rfl (wr_i64 (by omega) (by omega))) ?_
         refine t_guard rfl rfl ?_
         refine tp rfl (lv_geq rfl rfl (decide_eq_false (by omega))) ?_
         refine t_guard rfl rfl ?_
         refine tp rfl (lv_pick_t rfl rfl) ?_
         refine tp rfl (lv_pick_f rfl rfl) ?_
         refine t_done ?_
         refine q_then_n (hK22 _ _ ?_)
         refine c_false rfl ?_
         refine c_skip ?_
         refine q_in_n ?_
         refine q_then_n (hK20 _ _ ?_)
         refine c_region ?_
         refine tp rfl (lv_move rfl) ?_
         refine tp rfl (lv_add (c := ((k + 1 : Nat) : Int)) rfl rfl (wr_i64_succ (by omega))) ?_
         refine tp rfl (lv_assign rfl) ?_
         refine t_done ?_
         refine q_then_n ?_
         refine t_f2 ?_
         refine t_f2 ?_
         exact t_weak (by exact ⟨rfl, rfl, rfl, rfl, rfl, rfl, rfl, rfl, rfl, rfl, rfl, trivial⟩) ((hK17 (k + 1) (by omega) (by omega)))
        · -- False
         rw [show decide (placeM m2 ((k : Nat) : Int) ≥ 0) = false from decide_eq_false hp]
         rw [htell.2 hp]
         refine c_region ?_
         refine tp rfl (lv_move rfl) ?_
         refine tp rfl (lv_lss (r := false) rfl rfl (by decide)) ?_
         refine tp rfl (lv_move rfl) ?_
         refine t_guard rfl rfl ?_
         refine tp rfl (lv_move rfl) ?_
         refine t_guard rfl rfl ?_
         refine tp rfl (lv_not (c := true) rfl rfl) ?_
         refine t_guard rfl rfl ?_
         refine tp rfl (lv_move rfl) ?_
         refine t_guard rfl rfl ?_
         refine tp rfl (lv_move rfl) ?_
         refine t_guard rfl rfl ?_
         refine tp rfl (lv_neq (r := false) rfl rfl (by decide)) ?_
         refine t_guard rfl rfl ?_
         refine tp rfl (lv_pick_t rfl rfl) ?_
         refine tp rfl (lv_pick_f rfl rfl) ?_
         refine tp rfl (lv_move rfl) ?_
         refine t_guard rfl rfl ?_
         refine tp rfl (lv_move rfl) ?_
         refine t_guard rfl rfl ?_
         refine tp rfl (lv_move rfl) ?_
         refine t_skip rfl rfl rfl ?_
         refine t_skip rfl rfl rfl ?_
         refine t_skip rfl rfl rfl ?_
         refine t_skip rfl rfl rfl ?_
         refine t_skip rfl rfl rfl ?_
         refine t_skip rfl rfl rfl ?_
         refine t_skip rfl rfl rfl ?_
         refine t_skip rfl rfl rfl ?_
         refine t_skip rfl rfl rfl ?_
         refine t_skip rfl rfl rfl ?_
         refine t_guard rfl rfl ?_
         refine tp rfl (lv_pick_f rfl rfl) ?_
         refine tp rfl (lv_pick_f rfl rfl) ?_
         refine t_done ?_
         refine q_then_n (hK22 _ _ ?_)
         refine c_false rfl ?_
         refine c_skip ?_
         refine q_in_n ?_
         refine q_then_n (hK20 _ _ ?_)
         refine c_region ?_
         refine tp rfl (lv_move rfl) ?_
         refine tp rfl (lv_add (c := ((k + 1 : Nat) : Int)) rfl rfl (wr_i64_succ (by omega))) ?_
         refine tp rfl (lv_assign rfl) ?_
         refine t_done ?_
         refine q_then_n ?_
         refine t_f2 ?_
         refine t_f2 ?_
         exact t_weak (by exact ⟨rfl, rfl, rfl, rfl, rfl, rfl, rfl, rfl, rfl, rfl, rfl, trivial⟩) ((hK17 (k + 1) (by omega) (by omega)))
      · -- no
        refine tp rfl (lv_lss rfl rfl (decide_eq_false h5)) ?_
        refine t_done ?_
        refine q_then_n (hK19 _ _ ?_)
        refine c_false rfl ?_
        refine c_exit ?_
        refine q_then_x ?_
        refine q_then_x ?_
        refine q_in_x ?_
        refine q_in_n ?_
        refine q_then_n (hK12 _ _ ?_)
        refine c_region ?_
        refine tp rfl (lv_move rfl) ?_
        refine tp rfl (lv_add (c := ((i + 1 : Nat) : Int)) rfl rfl (wr_i64_succ (by omega))) ?_
        refine tp rfl (lv_assign rfl) ?_
        refine t_done ?_
        refine q_then_n ?_
        refine t_drop ?_
        exact t_weak (by exact ⟨rfl, rfl, rfl, rfl, rfl, rfl, rfl, trivial⟩) ((hK9 (i + 1, m2, a2, w2) ⟨by omega, by omega, hml2, hc2⟩ (by dsimp only; omega)))
    refine c_seq (fun K16 hK16 => ?_)
    refine c_region ?_
    refine tp rfl (lv_fieldAddr (o' := 0) Try.underlying41 rfl Try.sizeOf3 rfl rfl) ?_
    refine tp rfl (lv_load Try.isAgg3 rfl (gives_blk (.head _) rfl)) ?_
    refine t_done ?_
    refine q_then_n (hK16 _ _ ?_)
    refine c_block ?_
    refine c_seq (fun K17 hK17 => ?_)
    refine c_region ?_
    by_cases h6 : ((l.getD i St4.d).kd) = 0
    · -- yes
      refine tp rfl (lv_eql rfl rfl (beq_iff_eq.2 h6)) ?_
      refine tp rfl (lv_assign rfl) ?_
      refine t_done ?_
      refine q_then_n (hK17 _ _ ?_)
      refine c_true rfl ?_
      refine c_seq (fun K18 hK18 => ?_)
      refine c_region ?_
      refine tp rfl (lv_move rfl) ?_
      refine tp rfl (lv_move rfl) ?_
      refine tp rfl (lv_fieldAddr (o' := 2) Try.underlying41 rfl Try.sizeOf3 rfl rfl) ?_
      refine tp rfl (lv_load Try.isAgg3 rfl (gives_blk (.head _) rfl)) ?_
      refine t_f2 ?_
      refine tc rfl (en_fn Try.call12 rfl) (tjoin_ok (q := q) (ms := ms) (a := a) ((l.getD i St4.d).id % 16) ((l.getD i St4.d).w) (by omega)) ?_
      rintro _ _ ⟨rfl, rfl⟩
      by_cases h7 : (joinEr ms ((l.getD i St4.d).id % 16) ((l.getD i St4.d).w)) = 0
      · -- yes
        refine tp rfl (lv_eql rfl rfl (beq_iff_eq.2 h7)) ?_
        refine t_done ?_
        refine q_then_n (hK18 _ _ ?_)
        refine c_true rfl ?_
        refine c_region ?_
        refine tp rfl (lv_move rfl) ?_
        refine tp rfl (lv_fieldAddr (o' := 2) Try.underlying41 rfl Try.sizeOf3 rfl rfl) ?_
        refine tp rfl (lv_load Try.isAgg3 rfl (gives_blk (.tail _ (.head _)) rfl)) ?_
        refine tp rfl (lv_indexArr (k' := ((l.getD i St4.d).id % 16).toNat) Try.underlying39 Try.sizeOf3 rfl rfl (by omega) (by omega) (by omega)) ?_
        refine t_f2 ?_
        refine ts (sv_blk Try.sizeOf3 rfl rfl rfl (by rw [ints_length]; omega) ints_set) ?_
        refine t_done ?_
        refine q_in_n ?_
        refine q_then_n ?_
        refine t_f1 ?_
        refine t_f1 ?_
        refine t_f2 ?_
        exact t_weak (by exact ⟨rfl, rfl, rfl, rfl, rfl, rfl, rfl, rfl, rfl, rfl, trivial⟩) (hM15 (joinM ms ((l.getD i St4.d).id % 16) ((l.getD i St4.d).w)) a ((wts).set (((l.getD i St4.d).id % 16).toNat) ((l.getD i St4.d).w)) ⟨hc.join (by omega) ⟨by omega, by omega⟩ ‹_›, by have := joinM_len ms ((l.getD i St4.d).id % 16) (l.getD i St4.d).w; omega⟩)
      · -- no
        refine tp rfl (lv_eql rfl rfl (beq_eq_false_iff_ne.2 h7)) ?_
        refine t_done ?_
        refine q_then_n (hK18 _ _ ?_)
        refine c_false rfl ?_
        refine c_skip ?_
        refine q_in_n ?_
        refine q_then_n ?_
        refine t_f2 ?_
        refine t_f2 ?_
        rw [joinM_no (ms := ms) ‹_›]
        exact t_weak (by exact ⟨rfl, rfl, rfl, rfl, rfl, rfl, rfl, rfl, rfl, rfl, trivial⟩) (hM15 ms a wts ⟨hc, by omega⟩)
    · -- no
      refine tp rfl (lv_eql rfl rfl (beq_eq_false_iff_ne.2 h6)) ?_
      refine tp rfl (lv_assign rfl) ?_
      refine t_done ?_
      refine q_then_n (hK17 _ _ ?_)
      refine c_false rfl ?_
      refine c_seq (fun K18 hK18 => ?_)
      refine c_region ?_
      by_cases h8 : ((l.getD i St4.d).kd) = 1
      · -- yes
        refine tp rfl (lv_eql rfl rfl (beq_iff_eq.2 h8)) ?_
        refine tp rfl (lv_assign rfl) ?_
        refine t_done ?_
        refine q_then_n (hK18 _ _ ?_)
        refine c_true rfl ?_
        refine c_region ?_
        refine tp rfl (lv_move rfl) ?_
        refine tp rfl (lv_move rfl) ?_
        refine t_f2 ?_
        refine tc rfl (en_fn Try.call14 rfl) (tleave_ok (q := q) (ms := ms) (a := a) ((l.getD i St4.d).id % 16) (by omega)) ?_
        rintro _ _ ⟨rfl, rfl⟩
        refine t_done ?_
        refine q_in_n ?_
        refine q_then_n ?_
        refine t_f2 ?_
        refine t_f2 ?_
        exact t_weak (by exact ⟨rfl, rfl, rfl, rfl, rfl, rfl, rfl, rfl, rfl, rfl, trivial⟩) (hM15 (leaveM ms ((l.getD i St4.d).id % 16)) (leaveA ms a ((l.getD i St4.d).id % 16)) wts ⟨hc.leave (by omega) _, by have := leaveM_len ms ((l.getD i St4.d).id % 16); omega⟩)
      · -- no
        refine tp rfl (lv_eql rfl rfl (beq_eq_false_iff_ne.2 h8)) ?_
        refine tp rfl (lv_assign rfl) ?_
        refine t_done ?_
        refine q_then_n (hK18 _ _ ?_)
        refine c_false rfl ?_
        refine c_seq (fun K19 hK19 => ?_)
        refine c_seq (fun K20 hK20 => ?_)
        refine c_region ?_
        by_cases h9 : ((l.getD i St4.d).kd) = 2
        · -- yes
         refine tp rfl (lv_eql rfl rfl (beq_iff_eq.2 h9)) ?_
         refine tp rfl (lv_assign rfl) ?_
         refine t_done ?_
         refine q_then_n (hK20 _ _ ?_)
         refine c_true rfl ?_
         refine c_skip ?_
         refine q_then_n (hK19 _ _ ?_)
         refine c_true rfl ?_
         rcases hany : anyPos (costsL ms (fewL (l.getD i St4.d).ws)) with _ | _
         · -- false
          refine c_region ?_
          refine tp rfl (lv_move rfl) ?_
          refine tp rfl (lv_fieldAddr (o' := 3) Try.underlying41 rfl Try.sizeOf29 rfl rfl) ?_
          refine tp rfl (lv_load Try.isAgg29 rfl (gives_blk (.head _) rfl)) ?_
          refine tc rfl (en_fn Try.call15 rfl) (few_ok ((l.getD i St4.d).ws) (Rd.cons (Rd.cons (Rd.cons hrw))) okw (by omega)) ?_
          rintro _ _ ⟨bs10, cp11, hok12, hle13, rfl, rfl⟩
          refine t_f3 ?_
          refine tc rfl (en_fn Try.call13 rfl) (take_non (q := q) (ms := ms) (a := a) (fewL ((l.getD i St4.d).ws)) rfl (rd_sl (.head _)) hok12 (by rw [few_len]; omega) (by omega) hany) ?_
          rintro _ _ ⟨rfl, rfl⟩
          refine t_done ?_
          refine q_in_n ?_
          refine q_then_n ?_
          refine t_f1 ?_
          refine t_drop ?_
          refine t_f2 ?_
          refine t_f2 ?_
          exact t_weak (by exact ⟨rfl, rfl, rfl, rfl, rfl, rfl, rfl, rfl, rfl, rfl, trivial⟩) (hM15 ms a wts ⟨hc, by omega⟩)
         · -- true
          refine c_region ?_
          refine tp rfl (lv_move rfl) ?_
          refine tp rfl (lv_fieldAddr (o' := 3) Try.underlying41 rfl Try.sizeOf29 rfl rfl) ?_
          refine tp rfl (lv_load Try.isAgg29 rfl (gives_blk (.head _) rfl)) ?_
          refine tc rfl (en_fn Try.call15 rfl) (few_ok ((l.getD i St4.d).ws) (Rd.cons (Rd.cons (Rd.cons hrw))) okw (by omega)) ?_
          rintro _ _ ⟨bs14, cp15, hok16, hle17, rfl, rfl⟩
          refine t_f3 ?_
          refine tc rfl (en_fn Try.call13 rfl) (take_okn (q := q) (ms := ms) (a := a) (fewL ((l.getD i St4.d).ws)) rfl (rd_sl (.head _)) hok16 (by rw [few_len]; omega) (by omega) hany) ?_
          rintro _ _ ⟨mt, ta, ht, rfl, rfl⟩
          refine t_done ?_
          refine q_in_n ?_
          refine q_then_n ?_
          refine t_f1 ?_
          refine t_drop ?_
          refine t_f2 ?_
          refine t_f2 ?_
          exact t_weak (by exact ⟨rfl, rfl, rfl, rfl, rfl, rfl, rfl, rfl, rfl, rfl, trivial⟩) (hM15 (setC mt ta ((mt.getD ta M3.z).c - (costsL ms (fewL ((l.getD i St4.d).ws))).getD ta 0)) ta wts ⟨(hc.take (by omega) hany ht).1, by rw [setC_len, (hc.take (by omega) hany ht).2]; omega⟩)
        · -- no
         refine tp rfl (lv_eql rfl rfl (beq_eq_false_iff_ne.2 h9)) ?_
         refine tp rfl (lv_assign rfl) ?_
         refine t_done ?_
         refine q_then_n (hK20 _ _ ?_)
         refine c_false rfl ?_
         refine c_seq (fun K21 hK21 => ?_)
         refine c_region ?_
         by_cases h18 : ((l.getD i St4.d).kd) = 3
         · -- yes
          refine tp rfl (lv_eql rfl rfl (beq_iff_eq.2 h18)) ?_
          refine tp rfl (lv_assign rfl) ?_
          refine t_done ?_
          refine q_then_n (hK21 _ _ ?_)
          refine c_true rfl ?_
          refine c_skip ?_
          refine q_then_n (hK19 _ _ ?_)
          refine c_true rfl ?_
          rcases hany : anyPos (costsL ms (fewL (l.getD i St4.d).ws)) with _ | _
          · -- false
           refine c_region ?_
           refine tp rfl (lv_move rfl) ?_
           refine tp rfl (lv_fieldAddr (o' := 3) Try.underlying41 rfl Try.sizeOf29 rfl rfl) ?_
           refine tp rfl (lv_load Try.isAgg29 rfl (gives_blk (.head _) rfl)) ?_
           refine tc rfl (en_fn Try.call15 rfl) (few_ok ((l.getD i St4.d).ws) (Rd.cons (Rd.cons (Rd.cons hrw))) okw (by omega)) ?_
           rintro _ _ ⟨bs19, cp20, hok21, hle22, rfl, rfl⟩
           refine t_f3 ?_
           refine tc rfl (en_fn Try.call13 rfl) (take_non (q := q) (ms := ms) (a := a) (fewL ((l.getD i St4.d).ws)) rfl (rd_sl (.head _)) hok21 (by rw [few_len]; omega) (by omega) hany) ?_
           rintro _ _ ⟨rfl, rfl⟩
           refine t_done ?_
           refine q_in_n ?_
           refine q_then_n ?_
           refine t_f1 ?_
           refine t_drop ?_
           refine t_f2 ?_
           refine t_f2 ?_
           exact t_weak (by exact ⟨rfl, rfl, rfl, rfl, rfl, rfl, rfl, rfl, rfl, rfl, trivial⟩) (hM15 ms a wts ⟨hc, by omega⟩)
          · -- true
           refine c_region ?_
           refine tp rfl (lv_move rfl) ?_
           refine tp rfl (lv_fieldAddr (o' := 3) Try.underlying41 rfl Try.sizeOf29 rfl rfl) ?_
           refine tp rfl (lv_load Try.isAgg29 rfl (gives_blk (.head _) rfl)) ?_
           refine tc rfl (en_fn Try.call15 rfl) (few_ok ((l.getD i St4.d).ws) (Rd.cons (Rd.cons (Rd.cons hrw))) okw (by omega)) ?_
           rintro _ _ ⟨bs23, cp24, hok25, hle26, rfl, rfl⟩
           refine t_f3 ?_
           refine tc rfl (en_fn Try.call13 rfl) (take_okn (q := q) (ms := ms) (a := a) (fewL ((l.getD i St4.d).ws)) rfl (rd_sl (.head _)) hok25 (by rw [few_len]; omega) (by omega) hany) ?_
           rintro _ _ ⟨mt, ta, ht, rfl, rfl⟩
           refine t_done ?_
           refine q_in_n ?_
           refine q_then_n ?_
           refine t_f1 ?_
           refine t_drop ?_
           refine t_f2 ?_
           refine t_f2 ?_
           exact t_weak (by exact ⟨rfl, rfl, rfl, rfl, rfl, rfl, rfl, rfl, rfl, rfl, trivial⟩) (hM15 (setC mt ta ((mt.getD ta M3.z).c - (costsL ms (fewL ((l.getD i St4.d).ws))).getD ta 0)) ta wts ⟨(hc.take (by omega) hany ht).1, by rw [setC_len, (hc.take (by omega) hany ht).2]; omega⟩)
         · -- no
          refine tp rfl (lv_eql rfl rfl (beq_eq_false_iff_ne.2 h18)) ?_
          refine tp rfl (lv_assign rfl) ?_
          refine t_done ?_
          refine q_then_n (hK21 _ _ ?_)
          refine c_false rfl ?_
          refine c_seq (fun K22 hK22 => ?_)
          refine c_region ?_
          by_cases h27 : ((l.getD i St4.d).kd) = 4
          · -- yes
           refine tp rfl (lv_eql rfl rfl (beq_iff_eq.2 h27)) ?_
           refine tp rfl (lv_assign rfl) ?_
           refine t_done ?_
           refine q_then_n (hK22 _ _ ?_)
           refine c_true rfl ?_
           refine c_skip ?_
           refine q_then_n (hK19 _ _ ?_)
           refine c_true rfl ?_
           rcases hany : anyPos (costsL ms (fewL (l.getD i St4.d).ws)) with _ | _
           · -- false
            refine c_region ?_
            refine tp rfl (lv_move rfl) ?_
            refine tp rfl (lv_fieldAddr (o' := 3) Try.underlying41 rfl Try.sizeOf29 rfl rfl) ?_
            refine tp rfl (lv_load Try.isAgg29 rfl (gives_blk (.head _) rfl)) ?_
            refine tc rfl (en_fn Try.call15 rfl) (few_ok ((l.getD i St4.d).ws) (Rd.cons (Rd.cons (Rd.cons hrw))) okw (by omega)) ?_
            rintro _ _ ⟨bs28, cp29, hok30, hle31, rfl, rfl⟩
            refine t_f3 ?_
            refine tc rfl (en_fn Try.call13 rfl) (take_non (q := q) (ms := ms) (a := a) (fewL ((l.getD i St4.d).ws)) rfl (rd_sl (.head _)) hok30 (by rw [few_len]; omega) (by omega) hany) ?_
            rintro _ _ ⟨rfl, rfl⟩
            refine t_done ?_
            refine q_in_n ?_
            refine q_then_n ?_
            refine t_f1 ?_
            refine t_drop ?_
            refine t_f2 ?_
            refine t_f2 ?_
            exact t_weak (by exact ⟨rfl, rfl, rfl, rfl, rfl, rfl, rfl, rfl, rfl, rfl, trivial⟩) (hM15 ms a wts ⟨hc, by omega⟩)
           · -- true
            refine c_region ?_
            refine tp rfl (lv_move rfl) ?_
            refine tp rfl (lv_fieldAddr (o' := 3) Try.underlying41 rfl Try.sizeOf29 rfl rfl) ?_
            refine tp rfl (lv_load Try.isAgg29 rfl (gives_blk (.head _) rfl)) ?_
            refine tc rfl (en_fn Try.call15 rfl) (few_ok ((l.getD i St4.d).ws) (Rd.cons (Rd.cons (Rd.cons hrw))) okw (by omega)) ?_
            rintro _ _ ⟨bs32, cp33, hok34, hle35, rfl, rfl⟩
            refine t_f3 ?_
            refine tc rfl (en_fn Try.call13 rfl) (take_okn (q := q) (ms := ms) (a := a) (fewL ((l.getD i St4.d).ws)) rfl (rd_sl (.head _)) hok34 (by rw [few_len]; omega) (by omega) hany) ?_
            rintro _ _ ⟨mt, ta, ht, rfl, rfl⟩
            refine t_done ?_
            refine q_in_n ?_
            refine q_then_n ?_
            refine t_f1 ?_
            refine t_drop ?_
            refine t_f2 ?_
            refine t_f2 ?_
            exact t_weak (by exact ⟨rfl, rfl, rfl, rfl, rfl, rfl, rfl, rfl, rfl, rfl, trivial⟩) (hM15 (setC mt ta ((mt.getD ta M3.z).c - (costsL ms (fewL ((l.getD i St4.d).ws))).getD ta 0)) ta wts ⟨(hc.take (by omega) hany ht).1, by rw [setC_len, (hc.take (by omega) hany ht).2]; omega⟩)
          · -- no
           refine tp rfl (lv_eql rfl rfl (beq_eq_false_iff_ne.2 h27)) ?_
           refine tp rfl (lv_assign rfl) ?_
           refine t_done ?_
           refine q_then_n (hK22 _ _ ?_)
           refine c_false rfl ?_
           refine c_region ?_
           by_cases h36 : ((l.getD i St4.d).kd) = 5
           · -- yes
            refine tp rfl (lv_eql rfl rfl (beq_iff_eq.2 h36)) ?_
            refine tp rfl (lv_assign rfl) ?_
            refine t_done ?_
            refine q_then_n (hK19 _ _ ?_)
            refine c_true rfl ?_
            rcases hany : anyPos (costsL ms (fewL (l.getD i St4.d).ws)) with _ | _
            · -- false
             refine c_region ?_
             refine tp rfl (lv_move rfl) ?_
             refine tp rfl (lv_fieldAddr (o' := 3) Try.underlying41 rfl Try.sizeOf29 rfl rfl) ?_
             refine tp rfl (lv_load Try.isAgg29 rfl (gives_blk (.head _) rfl)) ?_
             refine tc rfl (en_fn Try.call15 rfl) (few_ok ((l.getD i St4.d).ws) (Rd.cons (Rd.cons (Rd.cons hrw))) okw (by omega)) ?_
             rintro _ _ ⟨bs37, cp38, hok39, hle40, rfl, rfl⟩
             refine t_f3 ?_
             refine tc rfl (en_fn Try.call13 rfl) (take_non (q := q) (ms := ms) (a := a) (fewL ((l.getD i St4.d).ws)) rfl (rd_sl (.head _)) hok39 (by rw [few_len]; omega) (by omega) hany) ?_
             rintro _ _ ⟨rfl, rfl⟩
             refine t_done ?_
             refine q_in_n ?_
             refine q_then_n ?_
             refine t_f1 ?_
             refine t_drop ?_
             refine t_f2 ?_
             refine t_f2 ?_
             exact t_weak (by exact ⟨rfl, rfl, rfl, rfl, rfl, rfl, rfl, rfl, rfl, rfl, trivial⟩) (hM15 ms a wts ⟨hc, by omega⟩)
            · -- true
             refine c_region ?_
             refine tp rfl (lv_move rfl) ?_
             refine tp rfl (lv_fieldAddr (o' := 3) Try.underlying41 rfl Try.sizeOf29 rfl rfl) ?_
             refine tp rfl (lv_load Try.isAgg29 rfl (gives_blk (.head _) rfl)) ?_
             refine tc rfl (en_fn Try.call15 rfl) (few_ok ((l.getD i St4.d).ws) (Rd.cons (Rd.cons (Rd.cons hrw))) okw (by omega)) ?_
             rintro _ _ ⟨bs41, cp42, hok43, hle44, rfl, rfl⟩
             refine t_f3 ?_
             refine tc rfl (en_fn Try.call13 rfl) (take_okn (q := q) (ms := ms) (a := a) (fewL ((l.getD i St4.d).ws)) rfl (rd_sl (.head _)) hok43 (by rw [few_len]; omega) (by omega) hany) ?_
             rintro _ _ ⟨mt, ta, ht, rfl, rfl⟩
             refine t_done ?_
             refine q_in_n ?_
             refine q_then_n ?_
             refine t_f1 ?_
             refine t_drop ?_
             refine t_f2 ?_
             refine t_f2 ?_
             exact t_weak (by exact ⟨rfl, rfl, rfl, rfl, rfl, rfl, rfl, rfl, rfl, rfl, trivial⟩) (hM15 (setC mt ta ((mt.getD ta M3.z).c - (costsL ms (fewL ((l.getD i St4.d).ws))).getD ta 0)) ta wts ⟨(hc.take (by omega) hany ht).1, by rw [setC_len, (hc.take (by omega) hany ht).2]; omega⟩)
           · -- no
            refine tp rfl (lv_eql rfl rfl (beq_eq_false_iff_ne.2 h36)) ?_
            refine tp rfl (lv_assign rfl) ?_
            refine t_done ?_
            refine q_then_n (hK19 _ _ ?_)
            refine c_false rfl ?_
            refine c_skip ?_
            refine q_in_n ?_
            refine q_then_n ?_
            exact t_weak (by exact ⟨rfl, rfl, rfl, rfl, rfl, rfl, rfl, rfl, rfl, rfl, trivial⟩) (hM15 ms a wts ⟨hc, by omega⟩)
  · -- not both
    refine t_cut0 (E' := [(0, (.int .i64 n)), (1, (.slice bl l.length cl)), (5, (.bool true)), (6, (.pointer (some ⟨p1, 0, none⟩))), (7, (.pointer (some ⟨b2, 0, none⟩))), (8, (.int .i64 ((i : Nat) : Int))), (18, (.bool false)), (27, (.bool false))]) ?_ (fun KK hKK => ?_)
    ·
      refine q_then_n (hK11 _ _ ?_)
      refine c_false rfl ?_
      refine c_exit ?_
      refine q_then_x ?_
      refine q_then_x ?_
      refine q_in_x ?_
      refine q_then_n (hK7 _ _ ?_)
      refine c_seq (fun K12 hK12 => ?_)
      refine c_region ?_
      refine tp rfl (lv_move rfl) ?_
      refine tp rfl (lv_assign rfl) ?_
      refine t_done ?_
      refine q_then_n (hK12 _ _ ?_)
      refine c_ret ?_
      refine t_drop ?_
      refine t_drop ?_
      refine q_ret rfl rfl ?_
      exact ⟨rfl, rfl⟩
    · -- which
      by_cases hc3A : ((i : Nat) : Int) < ((l.length : Nat) : Int)
      ·
        have hc3B : ¬ (((i : Nat) : Int) < 100) := fun hh => hc3 ⟨hc3A, hh⟩
        refine tp rfl (lv_move rfl) ?_
        refine tp rfl (lv_move rfl) ?_
        refine tp rfl (lv_len Try.underlying38 rfl rfl) ?_
        refine tp rfl (lv_lss rfl rfl (decide_eq_true hc3A)) ?_
        refine tp rfl (lv_move rfl) ?_
        refine t_guard rfl rfl ?_
        refine tp rfl (lv_move rfl) ?_
        refine t_guard rfl rfl ?_
        refine tp rfl (lv_lss rfl rfl (decide_eq_false hc3B)) ?_
        refine tp rfl (lv_pick_t rfl rfl) ?_
        exact t_done (t_weak (by exact ⟨rfl, rfl, rfl, rfl, rfl, rfl, rfl, rfl, trivial⟩) hKK)
      ·
        refine tp rfl (lv_move rfl) ?_
        refine tp rfl (lv_move rfl) ?_
        refine tp rfl (lv_len Try.underlying38 rfl rfl) ?_
        refine tp rfl (lv_lss rfl rfl (decide_eq_false hc3A)) ?_
        refine tp rfl (lv_move rfl) ?_
        refine t_skip rfl rfl rfl ?_
        refine t_skip rfl rfl rfl ?_
        refine tp rfl (lv_pick_f rfl rfl) ?_
        exact t_done (t_weak (by exact ⟨rfl, rfl, rfl, rfl, rfl, rfl, rfl, rfl, trivial⟩) hKK)
end Go.Proofs.Ytkhceihokoheaaa
