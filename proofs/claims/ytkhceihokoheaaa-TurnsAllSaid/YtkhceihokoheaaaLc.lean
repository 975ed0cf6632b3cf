/- TurnsAll: the law's walk. -/
import Derived.Test.YtkhceihokoheaaaLa
set_option maxRecDepth 100000
set_option linter.unusedVariables false
set_option linter.unusedSimpArgs false
namespace Go.Proofs.Ytkhceihokoheaaa
open Go Go.Proofs Sp
set_option maxHeartbeats 4000000 in
theorem all_ok {R : List HP} (n : Int) {bx : Option Addr} {cx : Nat} (xs : List Int) (hx : Rd R bx (ints .i64 xs)) (okx : SlOk bx xs.length) (lx : xs.length ≤ 9223372036854775807) (c0 : Int) :
    Ok Try.prog 4 [(.int .i64 n), (.slice bx xs.length cx), (.int .i64 c0)] R
      (fun v M => v = .bool true ∧ M = R) := by
  obtain ⟨q, hq⟩ : ∃ q : Int, 1 + n % 32 = q := ⟨_, rfl⟩
  have hq1 : 1 ≤ q := by omega
  have hq2 : q ≤ 32 := by omega
  obtain ⟨N, hN⟩ : ∃ N : Nat, min xs.length 10 = N := ⟨_, rfl⟩
  have hN10 : N ≤ 10 := by omega
  obtain ⟨c, hc⟩ : ∃ c : Int, 1 + c0 % 1024 = c := ⟨_, rfl⟩
  have hc1 : 1 ≤ c := by omega
  have hc2 : c ≤ 1024 := by omega
  obtain ⟨rd, hrd⟩ : ∃ rd : Int, c / q = rd := ⟨_, rfl⟩
  have hrd0 : 0 ≤ rd := by rw [← hrd]; exact Int.ediv_nonneg (by omega) (by omega)
  have hrd1 : rd ≤ 1024 := by rw [← hrd]; have := Int.ediv_le_self (b := q) (show 0 ≤ c by omega); omega
  have hpq := mul_bd (show 0 ≤ 10 * q ∧ 10 * q ≤ 320 by omega) (show 0 ≤ rd + 2 ∧ rd + 2 ≤ 1026 by omega)
  obtain ⟨ed, hed⟩ : ∃ ed : Int, (10 * q) * (rd + 2) / c = ed := ⟨_, rfl⟩
  have hed0 : 0 ≤ ed := by rw [← hed]; exact Int.ediv_nonneg (by omega) (by omega)
  have hed1 : ed ≤ 400000 := by rw [← hed]; have := Int.ediv_le_self (b := c) (show 0 ≤ (10 * q) * (rd + 2) by omega); omega
  refine ok_of (N := 109) Try.func4 rfl rfl rfl (fun W => ?_)
  refine c_seq (fun K1 hK1 => ?_)
  refine c_region ?_
  refine tp rfl (lv_assign rfl) ?_
  refine t_done ?_
  refine q_then_n (hK1 _ _ ?_)
  refine c_seq (fun K2 hK2 => ?_)
  refine c_region ?_
  refine tc rfl (en_fn Try.call10 rfl) (shown_ok) ?_
  rintro _ _ ⟨rfl, hMR⟩
  rw [hMR]; clear hMR
  refine tp rfl (lv_assign rfl) ?_
  refine t_done ?_
  refine q_then_n (hK2 _ _ ?_)
  refine c_seq (fun K3 hK3 => ?_)
  refine c_region ?_
  refine tp rfl (lv_move rfl) ?_
  refine tp rfl (lv_and (c := n % 32) rfl rfl (and_1f n)) ?_
  refine tp rfl (lv_add (c := q) rfl rfl (wrT hq (by omega) (by omega))) ?_
  refine tp rfl (lv_assign rfl) ?_
  refine t_done ?_
  refine q_then_n (hK3 _ _ ?_)
  refine c_seq (fun K4 hK4 => ?_)
  refine c_region ?_
  refine tp rfl (lv_move rfl) ?_
  refine tp rfl (lv_and (c := c0 % 1024) rfl rfl (and_3ff _)) ?_
  refine tp rfl (lv_add (c := c) rfl rfl (wrT hc (by omega) (by omega))) ?_
  refine tp rfl (lv_assign rfl) ?_
  refine t_done ?_
  refine q_then_n (hK4 _ _ ?_)
  refine c_seq (fun K5 hK5 => ?_)
  refine c_region ?_
  refine tp rfl (lv_move rfl) ?_
  refine tc rfl (en_fn Try.call11 rfl) (tnew_ok q) ?_
  rintro _ _ ⟨p1, rfl, rfl⟩
  rw [show qOf q = q from (by unfold qOf; omega)]
  refine tp rfl (lv_assign rfl) ?_
  refine t_done ?_
  refine q_then_n (hK5 _ _ ?_)
  refine c_seq (fun K6 hK6 => ?_)
  refine c_seq (fun K7 hK7 => ?_)
  refine c_region ?_
  refine tp rfl (lv_move rfl) ?_
  refine tp rfl (lv_eqnil Try.underlying24 rfl rfl) ?_
  refine t_done ?_
  refine q_then_n (hK7 _ _ ?_)
  refine c_false rfl ?_
  refine c_skip ?_
  refine q_then_n (hK6 _ _ ?_)
  refine c_seq (fun K8 hK8 => ?_)
  refine c_region ?_
  refine tp rfl (lv_move rfl) ?_
  refine tp rfl (lv_len Try.underlying22 rfl rfl) ?_
  refine tp rfl (lv_min (c := ((N : Nat) : Int)) rfl rfl (by omega)) ?_
  refine tp rfl (lv_assign rfl) ?_
  refine t_done ?_
  refine q_then_n (hK8 _ _ ?_)
  refine c_seq (fun K9 hK9 => ?_)
  refine c_region ?_
  refine tp rfl (lv_assign rfl) ?_
  refine t_done ?_
  refine q_then_n (hK9 _ _ ?_)
  refine c_seq (fun K10 hK10 => ?_)
  refine c_seq (fun K11 hK11 => ?_)
  refine c_region ?_
  refine tp rfl (lv_assign rfl) ?_
  refine t_done ?_
  refine q_then_n (hK11 _ _ ?_)
  refine c_block ?_
  refine t_sat (fun _ h => sat_nilsl 31 2 h) ?_
  refine c_loop (γ := (Nat) × (Option Addr) × (Nat)) (fun (j, bw, cw) => j ≤ N ∧ SlOk bw j ∧ j ≤ cw) (fun (j, bw, cw) => [(0, (.int .i64 q)), (1, (.slice bx xs.length cx)), (2, (.int .i64 c)), (7, (.bool true)), (8, (.pointer (some ⟨p1, 0, none⟩))), (9, (.int .i64 ((N : Nat) : Int))), (10, (.slice bw j cw)), (11, (.int .i64 ((j : Nat) : Int))), (29, (.bool false))]) (fun (j, bw, cw) => (SlV 31 2 (.slice bw j cw) j (pairs (wantL (fun _ => c) j))) :: (TurnsO p1 q (memL (wtF xs 10) j) 0) :: R) (fun (j, bw, cw) => N - j) (0, none, 0) ⟨by omega, slok_none, Nat.le_refl _⟩ ⟨rfl, rfl, rfl, rfl, rfl, rfl, rfl, rfl, rfl, trivial⟩ (fun _ h => h) ?_
  rintro ⟨j, bw, cw⟩ K12 hF hK12
  try dsimp only at hF hK12 ⊢
  obtain ⟨hj, hbw, hwc⟩ := hF
  have hwk : 1 ≤ wtF xs 10 j ∧ wtF xs 10 j ≤ 100 := by have := wtF_bd xs (show (0 : Int) < 10 by omega) j; omega
  refine c_seq (fun K13 hK13 => ?_)
  refine c_seq (fun K14 hK14 => ?_)
  refine c_region ?_
  refine tp rfl (lv_move rfl) ?_
  refine tp rfl (lv_move rfl) ?_
  by_cases h2 : ((j : Nat) : Int) < ((N : Nat) : Int)
  · -- yes
    refine tp rfl (lv_lss rfl rfl (decide_eq_true h2)) ?_
    refine t_done ?_
    refine q_then_n (hK14 _ _ ?_)
    refine c_true rfl ?_
    refine c_skip ?_
    refine q_then_n (hK13 _ _ ?_)
    refine c_seq (fun K15 hK15 => ?_)
    refine c_block ?_
    refine c_seq (fun K16 hK16 => ?_)
    refine c_seq (fun K17 hK17 => ?_)
    refine c_region ?_
    refine tp rfl (lv_move rfl) ?_
    refine tp rfl (lv_move rfl) ?_
    refine tp rfl (lv_move rfl) ?_
    refine tp rfl (lv_move rfl) ?_
    refine tp rfl (lv_indexAddr (k' := j) Try.underlying22 Try.sizeOf3 rfl rfl okx (by omega) (by omega) (by omega)) ?_
    refine tp rfl (lv_load Try.isAgg3 rfl (Rd.gives (Rd.cons (Rd.cons hx)) (ints_get (by omega)))) ?_
    refine tp rfl (lv_and (c := (xs).getD j 0 % 65536) rfl rfl (and_ffff _)) ?_
    refine tp rfl (lv_rem (c := ((xs).getD j 0 % 65536) % 10) rfl rfl (by omega) (Int.tmod_eq_emod_of_nonneg (by omega))) ?_
    refine tp rfl (lv_add (c := wtF xs 10 j) rfl rfl (wrT rfl (by omega) (by omega))) ?_
    refine t_f1 ?_
    refine tc rfl (en_fn Try.call12 rfl) (tjoin_ok (q := q) (ms := memL (wtF xs 10) j) (a := 0) ((j : Nat) : Int) (wtF xs 10 j) (by rw [memL_len]; omega)) ?_
    rintro _ _ ⟨rfl, rfl⟩
    rw [show joinM (memL (wtF xs 10) j) ((j : Nat) : Int) (wtF xs 10 j) = memL (wtF xs 10) (j + 1) from (join_mem hwk).2]
    rw [show joinEr (memL (wtF xs 10) j) ((j : Nat) : Int) (wtF xs 10 j) = 0 from (join_mem hwk).1]
    refine tp rfl (lv_neq (r := false) rfl rfl (by decide)) ?_
    refine t_done ?_
    refine q_then_n (hK17 _ _ ?_)
    refine c_false rfl ?_
    refine c_skip ?_
    refine q_then_n (hK16 _ _ ?_)
    refine c_region ?_
    refine tp rfl (lv_move rfl) ?_
    refine tp rfl (lv_move rfl) ?_
    refine tp rfl (lv_move rfl) ?_
    refine tp rfl (lv_build (cs := [(.int .i64 ((j : Nat) : Int)), (.int .i64 c)]) (pl := [(0, 1), (1, 1)]) Try.underlying31 Try.zeroValue31 (fun _ => by simp) rfl rfl) ?_
    refine tm rfl (mv_buildSlice (cs := [(.int .i64 ((j : Nat) : Int)), (.int .i64 c)]) Try.underlying29 Try.sizeOf31 Try.zeroValue31 (by decide) rfl rfl rfl rfl) ?_
    rintro _ _ ⟨bs3, cp4, hok5, hle6, rfl, rfl⟩
    refine t_f2 ?_
    refine tm rfl (mv_append (i := Try.t31) Try.underlying29 Try.type31 rfl rfl rfl (by decide) rfl rfl hok5 (by first | (simp; done) | (simp; omega)) (rd_sl (.tail _ (.head _))) (by simp [Value.oneCell']) (by rw [show Try.t31.bytes = 16 from rfl]; omega)) ?_
    rintro _ _ ⟨bs7, cp8, hok9, hle10, rfl, rfl⟩
    rw [show pairs (wantL (fun _ => c) j) ++ [(.int .i64 ((j : Nat) : Int)), (.int .i64 c)] = pairs ((wantL (fun _ => c) j) ++ [(((j : Nat) : Int), c)]) from pairs_snoc _ _ _]
    refine tp rfl (lv_assign rfl) ?_
    refine t_done ?_
    refine q_in_n ?_
    refine q_then_n (hK15 _ _ ?_)
    refine c_region ?_
    refine tp rfl (lv_move rfl) ?_
    refine tp rfl (lv_add (c := ((j + 1 : Nat) : Int)) rfl rfl (wr_i64_succ (by omega))) ?_
    refine tp rfl (lv_assign rfl) ?_
    refine t_done ?_
    refine q_then_n ?_
    refine t_f1 ?_
    refine t_drop ?_
    rw [show (wantL (fun _ => c) j) ++ [(((j : Nat) : Int), c)] = wantL (fun _ => c) (j + 1) from wantL_succ _ _]
    exact t_weak (by exact ⟨rfl, rfl, rfl, rfl, rfl, rfl, rfl, rfl, rfl, trivial⟩) ((hK12 (j + 1, bs7, cp8) ⟨by omega, hok9, hle10⟩ (by dsimp only; omega)))
  · -- no
    refine tp rfl (lv_lss rfl rfl (decide_eq_false h2)) ?_
    refine t_done ?_
    refine q_then_n (hK14 _ _ ?_)
    refine c_false rfl ?_
    refine c_exit ?_
    refine q_then_x ?_
    refine q_then_x ?_
    refine q_in_x ?_
    refine q_then_n (hK10 _ _ ?_)
    refine c_seq (fun K15 hK15 => ?_)
    refine c_region ?_
    obtain rfl : N = j := by omega
    have hgn : ∀ j, j < N → 0 ≤ q * wtF xs 10 j := fun j hj => (gain_bd ⟨hq1, hq2⟩ (wtF_bd xs (show (0 : Int) < 10 by omega) j)).1
    have hcs : ∀ k, k < N → 1 ≤ (fun _ => c) k ∧ (fun _ => c) k ≤ 1048576 := fun k _ => by dsimp only; omega
    refine tp rfl (lv_buildArr0 (cs := (bools (List.replicate 10 false))) Try.underlying35 Try.zeroValue35 Try.sizeOf4 rfl) ?_
    refine tm rfl (mv_alloc (cs := (bools (List.replicate 10 false))) Try.zeroValue35 rfl) ?_
    rintro _ _ ⟨b11, rfl, rfl⟩
    refine ts (sv_blkAgg (news := (bools (List.replicate 10 false))) (cs' := (bools (List.replicate 10 false))) Try.sizeOf35 rfl rfl rfl (by decide) (by decide) rfl) ?_
    refine t_done ?_
    refine q_then_n (hK15 _ _ ?_)
    refine c_seq (fun K16 hK16 => ?_)
    refine c_region ?_
    refine tp rfl (lv_move rfl) ?_
    refine tp rfl (lv_assign rfl) ?_
    refine t_done ?_
    refine q_then_n (hK16 _ _ ?_)
    refine c_seq (fun K17 hK17 => ?_)
    refine c_region ?_
    refine tp rfl (lv_move rfl) ?_
    refine tp rfl (lv_move rfl) ?_
    refine tp rfl (lv_quo (c := rd) rfl rfl (by omega) ((wr_quo (by omega) (by omega) (by omega)).trans hrd)) ?_
    refine tp rfl (lv_add (c := rd + 2) rfl rfl (wr_i64 (by omega) (by omega))) ?_
    refine tp rfl (lv_assign rfl) ?_
    refine t_done ?_
    refine q_then_n (hK17 _ _ ?_)
    refine c_seq (fun K18 hK18 => ?_)
    refine c_region ?_
    refine tp rfl (lv_move rfl) ?_
    refine tp rfl (lv_mul (c := 10 * q) rfl rfl (wr_i64 (by omega) (by omega))) ?_
    refine tp rfl (lv_move rfl) ?_
    refine tp rfl (lv_mul (c := (10 * q) * (rd + 2)) rfl rfl (wr_i64 (by omega) (by omega))) ?_
    refine tp rfl (lv_move rfl) ?_
    refine tp rfl (lv_quo (c := ed) rfl rfl (by omega) ((wr_quo (by omega) (by omega) (by omega)).trans hed)) ?_
    refine tp rfl (lv_add (c := ed + 1) rfl rfl (wr_i64 (by omega) (by omega))) ?_
    refine tp rfl (lv_assign rfl) ?_
    refine t_done ?_
    refine q_then_n (hK18 _ _ ?_)
    refine c_seq (fun K19 hK19 => ?_)
    refine c_seq (fun K20 hK20 => ?_)
    refine c_region ?_
    refine tp rfl (lv_assign rfl) ?_
    refine t_done ?_
    refine q_then_n (hK20 _ _ ?_)
    refine c_block ?_
    have hne : 0 ≤ ((N : Nat) : Int) * (ed + 1) ∧ ((N : Nat) : Int) * (ed + 1) ≤ 10 * 500000 := mul_bd (by omega) (by omega)
    refine c_loop (γ := (Nat) × (Nat) × (List Bool) × (List Int) × (List M3) × (Nat)) (fun (i, lf, gb, gl, ms, a) => (i : Int) ≤ ((N : Nat) : Int) * (ed + 1) ∧ lf ≤ N ∧ (0 < N → AllI q (wtF xs 10) N c i lf gb gl ms a) ∧ gb.length = 10) (fun (i, lf, gb, gl, ms, a) => [(0, (.int .i64 q)), (1, (.slice bx xs.length cx)), (2, (.int .i64 c)), (7, (.bool true)), (8, (.pointer (some ⟨p1, 0, none⟩))), (9, (.int .i64 ((N : Nat) : Int))), (10, (.slice bw N cw)), (11, (.int .i64 ((N : Nat) : Int))), (12, (.pointer (some ⟨b11, 0, none⟩))), (13, (.int .i64 ((lf : Nat) : Int))), (14, (.int .i64 (rd + 2))), (15, (.int .i64 (ed + 1))), (16, (.int .i64 ((i : Nat) : Int))), (29, (.bool false)), (35, (.bool false))]) (fun (i, lf, gb, gl, ms, a) => (Blk b11 (bools gb) 35) :: (SlV 31 2 (.slice bw N cw) N (pairs (wantL (fun _ => c) N))) :: (TurnsO p1 q ms a) :: R) (fun (i, lf, gb, gl, ms, a) => (((N : Nat) : Int) * (ed + 1)).toNat - i) (0, N, List.replicate 10 false, List.replicate 10 0, memL (wtF xs 10) N, 0) ⟨by omega, by omega, fun h => AllI.start h (by omega) hgn, by simp⟩ ⟨rfl, rfl, rfl, rfl, rfl, rfl, rfl, rfl, rfl, rfl, rfl, rfl, rfl, rfl, rfl, trivial⟩ (fun _ h => h) ?_
    rintro ⟨i, lf, gb, gl, ms, a⟩ K21 hF hK21
    try dsimp only at hF hK21 ⊢
    obtain ⟨hi, hlf, hall, hgl⟩ := hF
    refine c_seq (fun K22 hK22 => ?_)
    refine c_seq (fun K23 hK23 => ?_)
    refine c_region ?_
    by_cases hc12 : ((i : Nat) : Int) < (((N : Nat) : Int) * (ed + 1)) ∧ ((lf : Nat) : Int) > 0
    · -- both
      have hc12a := hc12.1
      have hc12b := hc12.2
      refine tp rfl (lv_move rfl) ?_
      refine tp rfl (lv_move rfl) ?_
      refine tp rfl (lv_move rfl) ?_
      refine tp rfl (lv_mul (c := ((N : Nat) : Int) * (ed + 1)) rfl rfl (wr_i64 (by omega) (by omega))) ?_
      refine tp rfl (lv_lss rfl rfl (decide_eq_true hc12.1)) ?_
      refine tp rfl (lv_move rfl) ?_
      refine t_guard rfl rfl ?_
      refine tp rfl (lv_move rfl) ?_
      refine t_guard rfl rfl ?_
      refine tp rfl (lv_gtr rfl rfl (decide_eq_true hc12.2)) ?_
      refine tp rfl (lv_pick_t rfl rfl) ?_
      refine t_done ?_
      refine q_then_n (hK23 _ _ ?_)
      refine c_true rfl ?_
      refine c_skip ?_
      refine q_then_n (hK22 _ _ ?_)
      refine c_seq (fun K24 hK24 => ?_)
      refine c_block ?_
      refine c_seq (fun K25 hK25 => ?_)
      refine c_region ?_
      have hN0 : 0 < N := by omega
      have hA := hall hN0
      refine tp rfl (lv_move rfl) ?_
      refine tp rfl (lv_move rfl) ?_
      refine t_f2 ?_
      refine tc rfl (en_fn Try.call13 rfl) (take_okn (q := q) (ms := ms) (a := a) (wantL (fun _ => c) N) (wantL_len _ _) (rd_sl (.tail _ (.head _))) hbw (by omega) (by rw [hA.fair.std.len]; omega) (hA.fair.std.any hcs hN0)) ?_
      rintro _ _ ⟨tm, ta, ht, rfl, rfl⟩
      refine tp rfl (lv_move rfl) ?_
      refine tp rfl (lv_extract rfl rfl) ?_
      refine tp rfl (lv_extract rfl rfl) ?_
      refine tp rfl (lv_assign rfl) ?_
      refine tp rfl (lv_assign rfl) ?_
      refine t_done ?_
      refine q_then_n (hK25 _ _ ?_)
      refine c_seq (fun K26 hK26 => ?_)
      refine c_seq (fun K27 hK27 => ?_)
      refine c_region ?_
      obtain ⟨hta, hid, hct, hyes, hno⟩ := hA.take hN10 (by omega) hgn ht
      rw [hid, hct]
      refine tp rfl (lv_move rfl) ?_
      refine tp rfl (lv_not (c := false) rfl rfl) ?_
      refine tp rfl (lv_move rfl) ?_
      refine t_guard rfl rfl ?_
      refine tp rfl (lv_move rfl) ?_
      refine t_guard rfl rfl ?_
      refine tp rfl (lv_lss rfl rfl (decide_eq_false (by omega))) ?_
      refine tp rfl (lv_pick_f rfl rfl) ?_
      refine tp rfl (lv_move rfl) ?_
      refine t_guard rfl rfl ?_
      refine tp rfl (lv_move rfl) ?_
      refine t_guard rfl rfl ?_
      refine tp rfl (lv_move rfl) ?_
      refine t_guard rfl rfl ?_
      refine tp rfl (lv_geq rfl rfl (decide_eq_false (by omega))) ?_
      refine tp rfl (lv_pick_f rfl rfl) ?_
      refine t_done ?_
      refine q_then_n (hK27 _ _ ?_)
      refine c_false rfl ?_
      refine c_skip ?_
      refine q_then_n (hK26 _ _ ?_)
      refine c_seq (fun K28 hK28 => ?_)
      rcases hb2 : gb.getD ta false with _ | _
      · -- false
        have hl1 := (hyes hb2).1
        refine c_region ?_
        refine tp rfl (lv_move rfl) ?_
        refine tp rfl (lv_indexArr (k' := ta) Try.underlying35 Try.sizeOf4 rfl rfl (by omega) (by omega) (by omega)) ?_
        refine tp rfl (lv_load Try.isAgg4 rfl (gives_as (by rw [hb2]) (gives_blk (.tail _ (.head _)) (bools_get (by omega))))) ?_
        refine tp rfl (lv_not (c := true) rfl rfl) ?_
        refine t_done ?_
        refine q_then_n (hK28 _ _ ?_)
        refine c_true rfl ?_
        refine c_seq (fun K29 hK29 => ?_)
        refine c_region ?_
        refine tp rfl (lv_move rfl) ?_
        refine tp rfl (lv_indexArr (k' := ta) Try.underlying35 Try.sizeOf4 rfl rfl (by omega) (by omega) (by omega)) ?_
        refine t_f1 ?_
        refine ts (sv_blk Try.sizeOf4 rfl rfl rfl (by rw [bools_length]; omega) bools_set) ?_
        refine t_done ?_
        refine q_then_n (hK29 _ _ ?_)
        refine c_region ?_
        refine tp rfl (lv_move rfl) ?_
        refine tp rfl (lv_sub (c := ((lf - 1 : Nat) : Int)) rfl rfl (wrT (by omega) (by omega) (by omega))) ?_
        refine tp rfl (lv_assign rfl) ?_
        refine t_done ?_
        refine q_in_n ?_
        refine q_then_n (hK24 _ _ ?_)
        refine c_region ?_
        refine tp rfl (lv_move rfl) ?_
        refine tp rfl (lv_add (c := ((i + 1 : Nat) : Int)) rfl rfl (wr_i64_succ (by omega))) ?_
        refine tp rfl (lv_assign rfl) ?_
        refine t_done ?_
        refine q_then_n ?_
        refine t_f1 ?_
        refine t_f2 ?_
        refine t_f2 ?_
        exact t_weak (by exact ⟨rfl, rfl, rfl, rfl, rfl, rfl, rfl, rfl, rfl, rfl, rfl, rfl, rfl, rfl, rfl, trivial⟩) ((hK21 (i + 1, lf - 1, (gb).set ta true, gl.set ta (gl.getD ta 0 + c), setC tm ta ((tm.getD ta M3.z).c - c), ta) ⟨by dsimp only; omega, by dsimp only; omega, fun _ => (hyes hb2).2, by simpa using hgl⟩ (by dsimp only; omega)))
      · -- true
        refine c_region ?_
        refine tp rfl (lv_move rfl) ?_
        refine tp rfl (lv_indexArr (k' := ta) Try.underlying35 Try.sizeOf4 rfl rfl (by omega) (by omega) (by omega)) ?_
        refine tp rfl (lv_load Try.isAgg4 rfl (gives_as (by rw [hb2]) (gives_blk (.tail _ (.head _)) (bools_get (by omega))))) ?_
        refine tp rfl (lv_not (c := false) rfl rfl) ?_
        refine t_done ?_
        refine q_then_n (hK28 _ _ ?_)
        refine c_false rfl ?_
        refine c_skip ?_
        refine q_in_n ?_
        refine q_then_n (hK24 _ _ ?_)
        refine c_region ?_
        refine tp rfl (lv_move rfl) ?_
        refine tp rfl (lv_add (c := ((i + 1 : Nat) : Int)) rfl rfl (wr_i64_succ (by omega))) ?_
        refine tp rfl (lv_assign rfl) ?_
        refine t_done ?_
        refine q_then_n ?_
        refine t_f2 ?_
        refine t_f2 ?_
        exact t_weak (by exact ⟨rfl, rfl, rfl, rfl, rfl, rfl, rfl, rfl, rfl, rfl, rfl, rfl, rfl, rfl, rfl, trivial⟩) ((hK21 (i + 1, lf, gb, gl.set ta (gl.getD ta 0 + c), setC tm ta ((tm.getD ta M3.z).c - c), ta) ⟨by dsimp only; omega, by dsimp only; omega, fun _ => hno hb2, by exact hgl⟩ (by dsimp only; omega)))
    · -- not both
      refine t_cut0 (E' := [(0, (.int .i64 q)), (1, (.slice bx xs.length cx)), (2, (.int .i64 c)), (7, (.bool true)), (8, (.pointer (some ⟨p1, 0, none⟩))), (9, (.int .i64 ((N : Nat) : Int))), (10, (.slice bw N cw)), (11, (.int .i64 ((N : Nat) : Int))), (12, (.pointer (some ⟨b11, 0, none⟩))), (13, (.int .i64 ((lf : Nat) : Int))), (14, (.int .i64 (rd + 2))), (15, (.int .i64 (ed + 1))), (16, (.int .i64 ((i : Nat) : Int))), (29, (.bool false)), (35, (.bool false)), (76, (.bool false))]) ?_ (fun KK hKK => ?_)
      ·
        refine q_then_n (hK23 _ _ ?_)
        refine c_false rfl ?_
        refine c_exit ?_
        refine q_then_x ?_
        refine q_then_x ?_
        refine q_in_x ?_
        refine q_then_n (hK19 _ _ ?_)
        refine c_seq (fun K24 hK24 => ?_)
        refine c_region ?_
        refine tp rfl (lv_move rfl) ?_
        refine tp rfl (lv_move rfl) ?_
        refine t_guard rfl rfl ?_
        refine tp rfl (lv_move rfl) ?_
        refine t_guard rfl rfl ?_
        refine tp rfl (lv_eql rfl rfl (beq_iff_eq.2 (by rcases Nat.eq_zero_or_pos lf with h | h; omega; have := (hall (by omega)).done hq1 hc1 (fun j _ => wtF_bd xs (show (0 : Int) < 10 by omega) j) (by rw [hrd, hed]; omega); omega))) ?_
        refine tp rfl (lv_pick_t rfl rfl) ?_
        refine tp rfl (lv_assign rfl) ?_
        refine t_done ?_
        refine q_then_n (hK24 _ _ ?_)
        refine c_ret ?_
        refine t_drop ?_
        refine t_drop ?_
        refine t_drop ?_
        refine q_ret rfl rfl ?_
        exact ⟨rfl, rfl⟩
      · -- which
        by_cases hc12A : ((i : Nat) : Int) < (((N : Nat) : Int) * (ed + 1))
        ·
         have hc12B : ¬ (((lf : Nat) : Int) > 0) := fun hh => hc12 ⟨hc12A, hh⟩
         refine tp rfl (lv_move rfl) ?_
         refine tp rfl (lv_move rfl) ?_
         refine tp rfl (lv_move rfl) ?_
         refine tp rfl (lv_mul (c := ((N : Nat) : Int) * (ed + 1)) rfl rfl (wr_i64 (by omega) (by omega))) ?_
         refine tp rfl (lv_lss rfl rfl (decide_eq_true hc12A)) ?_
         refine tp rfl (lv_move rfl) ?_
         refine t_guard rfl rfl ?_
         refine tp rfl (lv_move rfl) ?_
         refine t_guard rfl rfl ?_
         refine tp rfl (lv_gtr rfl rfl (decide_eq_false hc12B)) ?_
         refine tp rfl (lv_pick_t rfl rfl) ?_
         exact t_done (t_weak (by exact ⟨rfl, rfl, rfl, rfl, rfl, rfl, rfl, rfl, rfl, rfl, rfl, rfl, rfl, rfl, rfl, rfl, trivial⟩) hKK)
        ·
         refine tp rfl (lv_move rfl) ?_
         refine tp rfl (lv_move rfl) ?_
         refine tp rfl (lv_move rfl) ?_
         refine tp rfl (lv_mul (c := ((N : Nat) : Int) * (ed + 1)) rfl rfl (wr_i64 (by omega) (by omega))) ?_
         refine tp rfl (lv_lss rfl rfl (decide_eq_false hc12A)) ?_
         refine tp rfl (lv_move rfl) ?_
         refine t_skip rfl rfl rfl ?_
         refine t_skip rfl rfl rfl ?_
         refine tp rfl (lv_pick_f rfl rfl) ?_
         exact t_done (t_weak (by exact ⟨rfl, rfl, rfl, rfl, rfl, rfl, rfl, rfl, rfl, rfl, rfl, rfl, rfl, rfl, rfl, rfl, trivial⟩) hKK)
end Go.Proofs.Ytkhceihokoheaaa
