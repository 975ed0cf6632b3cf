/- TurnsRound: the law's walk. -/
import Derived.Test.YtkhceihokoheaaaLa
set_option maxRecDepth 100000
set_option linter.unusedVariables false
set_option linter.unusedSimpArgs false
namespace Go.Proofs.Ytkhceihokoheaaa
open Go Go.Proofs Sp
theorem round_ok {R : List HP} (n n1 w1 : Int) :
    Ok Try.prog 5 [(.int .i64 n), (.int .i64 n1), (.int .i64 w1)] R
      (fun v M => v = .bool true ∧ M = R) := by
  obtain ⟨q, hq⟩ : ∃ q : Int, 1 + n % 1024 = q := ⟨_, rfl⟩
  have hq1 : 1 ≤ q := by omega
  have hq2 : q ≤ 1024 := by omega
  obtain ⟨N, hN⟩ : ∃ N : Nat, 1 + n1 % 65536 % 10 = (N : Int) := ⟨(1 + n1 % 65536 % 10).toNat, by omega⟩
  have hN1 : 1 ≤ N := by omega
  have hN10 : N ≤ 10 := by omega
  obtain ⟨w, hw⟩ : ∃ w : Int, 1 + w1 % 65536 % 100 = w := ⟨_, rfl⟩
  have hw1 : 1 ≤ w := by omega
  have hw2 : w ≤ 100 := by omega
  have hg : 1 ≤ q * w ∧ q * w ≤ 1048576 := by have h1 := mul_bd (show 0 ≤ q ∧ q ≤ 1024 by omega) (show 0 ≤ w ∧ w ≤ 100 by omega); have h2 := Int.mul_le_mul (a := 1) (b := 1) (c := q) (d := w) hq1 hw1 (by omega) (by omega); omega
  refine ok_of (N := 71) Try.func5 rfl rfl rfl (fun W => ?_)
  refine c_seq (fun K1 hK1 => ?_)
  refine c_region ?_
  refine tp rfl (lv_assign rfl) ?_
  refine t_done ?_
  refine q_then_n (hK1 _ _ ?_)
  refine c_seq (fun K2 hK2 => ?_)
  refine c_region ?_
  refine tc rfl (en_fn Try.call10 rfl) (shown_ok) ?_
  rintro _ _ ⟨rfl, hMR⟩
  rw [hMR]; clear hMR
  refine tp rfl (lv_assign rfl) ?_
  refine t_done ?_
  refine q_then_n (hK2 _ _ ?_)
  refine c_seq (fun K3 hK3 => ?_)
  refine c_region ?_
  refine tp rfl (lv_move rfl) ?_
  refine tp rfl (lv_and (c := n % 1024) rfl rfl (and_3ff n)) ?_
  refine tp rfl (lv_add (c := q) rfl rfl (wrT hq (by omega) (by omega))) ?_
  refine tp rfl (lv_assign rfl) ?_
  refine t_done ?_
  refine q_then_n (hK3 _ _ ?_)
  refine c_seq (fun K4 hK4 => ?_)
  refine c_region ?_
  refine tp rfl (lv_move rfl) ?_
  refine tp rfl (lv_and (c := n1 % 65536) rfl rfl (and_ffff _)) ?_
  refine tp rfl (lv_rem (c := (n1 % 65536) % 10) rfl rfl (by omega) (Int.tmod_eq_emod_of_nonneg (by omega))) ?_
  refine tp rfl (lv_add (c := ((N : Nat) : Int)) rfl rfl (wrT hN (by omega) (by omega))) ?_
  refine tp rfl (lv_assign rfl) ?_
  refine t_done ?_
  refine q_then_n (hK4 _ _ ?_)
  refine c_seq (fun K5 hK5 => ?_)
  refine c_region ?_
  refine tp rfl (lv_move rfl) ?_
  refine tp rfl (lv_and (c := w1 % 65536) rfl rfl (and_ffff _)) ?_
  refine tp rfl (lv_rem (c := (w1 % 65536) % 100) rfl rfl (by omega) (Int.tmod_eq_emod_of_nonneg (by omega))) ?_
  refine tp rfl (lv_add (c := w) rfl rfl (wrT hw (by omega) (by omega))) ?_
  refine tp rfl (lv_assign rfl) ?_
  refine t_done ?_
  refine q_then_n (hK5 _ _ ?_)
  refine c_seq (fun K6 hK6 => ?_)
  refine c_region ?_
  refine tp rfl (lv_move rfl) ?_
  refine tc rfl (en_fn Try.call11 rfl) (tnew_ok q) ?_
  rintro _ _ ⟨p1, rfl, rfl⟩
  rw [show qOf q = q from (by unfold qOf; omega)]
  refine tp rfl (lv_assign rfl) ?_
  refine t_done ?_
  refine q_then_n (hK6 _ _ ?_)
  refine c_seq (fun K7 hK7 => ?_)
  refine c_seq (fun K8 hK8 => ?_)
  refine c_region ?_
  refine tp rfl (lv_move rfl) ?_
  refine tp rfl (lv_eqnil Try.underlying24 rfl rfl) ?_
  refine t_done ?_
  refine q_then_n (hK8 _ _ ?_)
  refine c_false rfl ?_
  refine c_skip ?_
  refine q_then_n (hK7 _ _ ?_)
  refine c_seq (fun K9 hK9 => ?_)
  refine c_region ?_
  refine tp rfl (lv_assign rfl) ?_
  refine t_done ?_
  refine q_then_n (hK9 _ _ ?_)
  refine c_seq (fun K10 hK10 => ?_)
  refine c_seq (fun K11 hK11 => ?_)
  refine c_region ?_
  refine tp rfl (lv_assign rfl) ?_
  refine t_done ?_
  refine q_then_n (hK11 _ _ ?_)
  refine c_block ?_
  refine t_sat (fun _ h => sat_nilsl 31 2 h) ?_
  refine c_loop (γ := (Nat) × (Option Addr) × (Nat)) (fun (j, bw, cw) => j ≤ N ∧ SlOk bw j ∧ j ≤ cw) (fun (j, bw, cw) => [(0, (.int .i64 q)), (1, (.int .i64 ((N : Nat) : Int))), (2, (.int .i64 w)), (7, (.bool true)), (8, (.pointer (some ⟨p1, 0, none⟩))), (9, (.slice bw j cw)), (10, (.int .i64 ((j : Nat) : Int))), (29, (.bool false))]) (fun (j, bw, cw) => (SlV 31 2 (.slice bw j cw) j (pairs (wantL (fun _ => q * w) j))) :: (TurnsO p1 q (memL (fun _ => w) j) 0) :: R) (fun (j, bw, cw) => N - j) (0, none, 0) ⟨by omega, slok_none, Nat.le_refl _⟩ ⟨rfl, rfl, rfl, rfl, rfl, rfl, rfl, rfl, trivial⟩ (fun _ h => h) ?_
  rintro ⟨j, bw, cw⟩ K12 hF hK12
  try dsimp only at hF hK12 ⊢
  obtain ⟨hj, hbw, hwc⟩ := hF
  refine c_seq (fun K13 hK13 => ?_)
  refine c_seq (fun K14 hK14 => ?_)
  refine c_region ?_
  refine tp rfl (lv_move rfl) ?_
  refine tp rfl (lv_move rfl) ?_
  by_cases h2 : ((j : Nat) : Int) < ((N : Nat) : Int)
  · -- yes
    refine tp rfl (lv_lss rfl rfl (decide_eq_true h2)) ?_
    refine t_done ?_
    refine q_then_n (hK14 _ _ ?_)
    refine c_true rfl ?_
    refine c_skip ?_
    refine q_then_n (hK13 _ _ ?_)
    refine c_seq (fun K15 hK15 => ?_)
    refine c_block ?_
    refine c_seq (fun K16 hK16 => ?_)
    refine c_seq (fun K17 hK17 => ?_)
    refine c_region ?_
    refine tp rfl (lv_move rfl) ?_
    refine tp rfl (lv_move rfl) ?_
    refine tp rfl (lv_move rfl) ?_
    refine t_f1 ?_
    refine tc rfl (en_fn Try.call12 rfl) (tjoin_ok (q := q) (ms := memL (fun _ => w) j) (a := 0) ((j : Nat) : Int) w (by rw [memL_len]; omega)) ?_
    rintro _ _ ⟨rfl, rfl⟩
    rw [show joinM (memL (fun _ => w) j) ((j : Nat) : Int) w = memL (fun _ => w) (j + 1) from (join_mem (f := fun _ => w) (k := j) ⟨hw1, hw2⟩).2]
    rw [show joinEr (memL (fun _ => w) j) ((j : Nat) : Int) w = 0 from (join_mem (f := fun _ => w) (k := j) ⟨hw1, hw2⟩).1]
    refine tp rfl (lv_neq (r := false) rfl rfl (by decide)) ?_
    refine t_done ?_
    refine q_then_n (hK17 _ _ ?_)
    refine c_false rfl ?_
    refine c_skip ?_
    refine q_then_n (hK16 _ _ ?_)
    refine c_region ?_
    refine tp rfl (lv_move rfl) ?_
    refine tp rfl (lv_move rfl) ?_
    refine tp rfl (lv_move rfl) ?_
    refine tp rfl (lv_move rfl) ?_
    refine tp rfl (lv_mul (c := q * w) rfl rfl (wr_i64 (by omega) (by omega))) ?_
    refine tp rfl (lv_build (cs := [(.int .i64 ((j : Nat) : Int)), (.int .i64 (q * w))]) (pl := [(0, 1), (1, 1)]) Try.underlying31 Try.zeroValue31 (fun _ => by simp) rfl rfl) ?_
    refine tm rfl (mv_buildSlice (cs := [(.int .i64 ((j : Nat) : Int)), (.int .i64 (q * w))]) Try.underlying29 Try.sizeOf31 Try.zeroValue31 (by decide) rfl rfl rfl rfl) ?_
    rintro _ _ ⟨bs3, cp4, hok5, hle6, rfl, rfl⟩
    refine t_f2 ?_
    refine tm rfl (mv_append (i := Try.t31) Try.underlying29 Try.type31 rfl rfl rfl (by decide) rfl rfl hok5 (by first | (simp; done) | (simp; omega)) (rd_sl (.tail _ (.head _))) (by simp [Value.oneCell']) (by rw [show Try.t31.bytes = 16 from rfl]; omega)) ?_
    rintro _ _ ⟨bs7, cp8, hok9, hle10, rfl, rfl⟩
    rw [show pairs (wantL (fun _ => q * w) j) ++ [(.int .i64 ((j : Nat) : Int)), (.int .i64 (q * w))] = pairs ((wantL (fun _ => q * w) j) ++ [(((j : Nat) : Int), q * w)]) from pairs_snoc _ _ _]
    refine tp rfl (lv_assign rfl) ?_
    refine t_done ?_
    refine q_in_n ?_
    refine q_then_n (hK15 _ _ ?_)
    refine c_region ?_
    refine tp rfl (lv_move rfl) ?_
    refine tp rfl (lv_add (c := ((j + 1 : Nat) : Int)) rfl rfl (wr_i64_succ (by omega))) ?_
    refine tp rfl (lv_assign rfl) ?_
    refine t_done ?_
    refine q_then_n ?_
    refine t_f1 ?_
    refine t_drop ?_
    rw [show (wantL (fun _ => q * w) j) ++ [(((j : Nat) : Int), q * w)] = wantL (fun _ => q * w) (j + 1) from wantL_succ _ _]
    exact t_weak (by exact ⟨rfl, rfl, rfl, rfl, rfl, rfl, rfl, rfl, trivial⟩) ((hK12 (j + 1, bs7, cp8) ⟨by omega, hok9, hle10⟩ (by dsimp only; omega)))
  · -- no
    refine tp rfl (lv_lss rfl rfl (decide_eq_false h2)) ?_
    refine t_done ?_
    refine q_then_n (hK14 _ _ ?_)
    refine c_false rfl ?_
    refine c_exit ?_
    refine q_then_x ?_
    refine q_then_x ?_
    refine q_in_x ?_
    refine q_then_n (hK10 _ _ ?_)
    refine c_seq (fun K15 hK15 => ?_)
    refine c_seq (fun K16 hK16 => ?_)
    refine c_region ?_
    obtain rfl : N = j := by omega
    have hcs : ∀ k, k < N → 1 ≤ (fun _ => q * w) k ∧ (fun _ => q * w) k ≤ 1048576 := fun k _ => by dsimp only; omega
    refine tp rfl (lv_assign rfl) ?_
    refine t_done ?_
    refine q_then_n (hK16 _ _ ?_)
    refine c_block ?_
    refine c_loop (γ := (Nat)) (fun (i : Nat) => i ≤ 20 * N) (fun (i : Nat) => [(0, (.int .i64 q)), (1, (.int .i64 ((N : Nat) : Int))), (2, (.int .i64 w)), (7, (.bool true)), (8, (.pointer (some ⟨p1, 0, none⟩))), (9, (.slice bw N cw)), (10, (.int .i64 ((N : Nat) : Int))), (11, (.int .i64 ((i : Nat) : Int))), (29, (.bool false)), (32, (.bool false))]) (fun (i : Nat) => (SlV 31 2 (.slice bw N cw) N (pairs (wantL (fun _ => q * w) N))) :: (TurnsO p1 q (memL (fun _ => w) N) (i % N)) :: R) (fun (i : Nat) => 20 * N - i) (0) (by omega) ⟨rfl, rfl, rfl, rfl, rfl, rfl, rfl, rfl, rfl, rfl, trivial⟩ (fun _ h => by rw [Nat.zero_mod]; exact h) ?_
    rintro i K17 hF hK17
    try dsimp only at hF hK17 ⊢
    refine c_seq (fun K18 hK18 => ?_)
    refine c_seq (fun K19 hK19 => ?_)
    refine c_region ?_
    refine tp rfl (lv_move rfl) ?_
    refine tp rfl (lv_move rfl) ?_
    refine tp rfl (lv_mul (c := 20 * ((N : Nat) : Int)) rfl rfl (wr_i64 (by omega) (by omega))) ?_
    by_cases h11 : ((i : Nat) : Int) < (20 * ((N : Nat) : Int))
    · -- yes
      refine tp rfl (lv_lss rfl rfl (decide_eq_true h11)) ?_
      refine t_done ?_
      refine q_then_n (hK19 _ _ ?_)
      refine c_true rfl ?_
      refine c_skip ?_
      refine q_then_n (hK18 _ _ ?_)
      refine c_seq (fun K20 hK20 => ?_)
      refine c_block ?_
      refine c_seq (fun K21 hK21 => ?_)
      refine c_region ?_
      have hil := Nat.mod_lt i (show 0 < N by omega)
      refine tp rfl (lv_move rfl) ?_
      refine tp rfl (lv_move rfl) ?_
      refine t_f1 ?_
      refine tc rfl (en_fn Try.call13 rfl) (take_okn (q := q) (ms := memL (fun _ => w) N) (a := i % N) (wantL (fun _ => q * w) N) (wantL_len _ _) (rd_sl (.head _)) hbw (by omega) (by rw [memL_len]; omega) ((Std.mem (fun _ => w) N).any hcs (by omega))) ?_
      rintro _ _ ⟨tm, ta, ht, rfl, rfl⟩
      refine tp rfl (lv_move rfl) ?_
      refine tp rfl (lv_extract rfl rfl) ?_
      refine tp rfl (lv_extract rfl rfl) ?_
      refine tp rfl (lv_assign rfl) ?_
      refine tp rfl (lv_assign rfl) ?_
      refine t_done ?_
      refine q_then_n (hK21 _ _ ?_)
      refine c_seq (fun K22 hK22 => ?_)
      refine c_region ?_
      obtain ⟨hta, hid, hst⟩ := round_take hil hg ht
      rw [hid, hst, hta, nxt_succ hN1]
      refine tp rfl (lv_move rfl) ?_
      refine tp rfl (lv_not (c := false) rfl rfl) ?_
      refine tp rfl (lv_move rfl) ?_
      refine t_guard rfl rfl ?_
      refine tp rfl (lv_move rfl) ?_
      refine t_guard rfl rfl ?_
      refine tp rfl (lv_move rfl) ?_
      refine t_guard rfl rfl ?_
      refine tp rfl (lv_add (c := ((i + 1 : Nat) : Int)) rfl rfl (wr_i64_succ (by omega))) ?_
      refine t_guard rfl rfl ?_
      refine tp rfl (lv_move rfl) ?_
      refine t_guard rfl rfl ?_
      refine tp rfl (lv_rem (c := (((i + 1) % N : Nat) : Int)) rfl rfl (by omega) (rem_nat _ _)) ?_
      refine t_guard rfl rfl ?_
      refine tp rfl (lv_neq rfl rfl (bne_eq_false_iff_eq.2 rfl)) ?_
      refine tp rfl (lv_pick_f rfl rfl) ?_
      refine t_done ?_
      refine q_then_n (hK22 _ _ ?_)
      refine c_false rfl ?_
      refine c_skip ?_
      refine q_in_n ?_
      refine q_then_n (hK20 _ _ ?_)
      refine c_region ?_
      refine tp rfl (lv_move rfl) ?_
      refine tp rfl (lv_add (c := ((i + 1 : Nat) : Int)) rfl rfl (wr_i64_succ (by omega))) ?_
      refine tp rfl (lv_assign rfl) ?_
      refine t_done ?_
      refine q_then_n ?_
      refine t_f1 ?_
      exact t_weak (by exact ⟨rfl, rfl, rfl, rfl, rfl, rfl, rfl, rfl, rfl, rfl, trivial⟩) ((hK17 (i + 1) (by omega) (by omega)))
    · -- no
      refine tp rfl (lv_lss rfl rfl (decide_eq_false h11)) ?_
      refine t_done ?_
      refine q_then_n (hK19 _ _ ?_)
      refine c_false rfl ?_
      refine c_exit ?_
      refine q_then_x ?_
      refine q_then_x ?_
      refine q_in_x ?_
      refine q_then_n (hK15 _ _ ?_)
      refine c_seq (fun K20 hK20 => ?_)
      refine c_region ?_
      refine tp rfl (lv_move rfl) ?_
      refine tp rfl (lv_assign rfl) ?_
      refine t_done ?_
      refine q_then_n (hK20 _ _ ?_)
      refine c_ret ?_
      refine t_drop ?_
      refine t_drop ?_
      refine q_ret rfl rfl ?_
      exact ⟨rfl, rfl⟩
end Go.Proofs.Ytkhceihokoheaaa
