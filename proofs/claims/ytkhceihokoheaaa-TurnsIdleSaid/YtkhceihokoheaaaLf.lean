/- TurnsIdle: the law's walk. -/
import Derived.Test.YtkhceihokoheaaaLa
set_option maxRecDepth 100000
set_option linter.unusedVariables false
set_option linter.unusedSimpArgs false
namespace Go.Proofs.Ytkhceihokoheaaa
open Go Go.Proofs Sp
set_option maxHeartbeats 4000000 in
theorem idle_ok {R : List HP} (n : Int) {bx : Option Addr} {cx : Nat} (xs : List Int) (hx : Rd R bx (ints .i64 xs)) (okx : SlOk bx xs.length) (lx : xs.length ≤ 9223372036854775807) {bz : Option Addr} {cz : Nat} (ys : List Int) (hz : Rd R bz (ints .i64 ys)) (okz : SlOk bz ys.length) (lz : ys.length ≤ 9223372036854775807) :
    Ok Try.prog 8 [(.int .i64 n), (.slice bx xs.length cx), (.slice bz ys.length cz)] R
      (fun v M => v = .bool true ∧ M = R) := by
  obtain ⟨q, hq⟩ : ∃ q : Int, 1 + n % 1024 = q := ⟨_, rfl⟩
  have hq1 : 1 ≤ q := by omega
  have hq2 : q ≤ 1024 := by omega
  obtain ⟨N, hN⟩ : ∃ N : Nat, min xs.length 9 = N := ⟨_, rfl⟩
  have hN10 : N ≤ 9 := by omega
  refine ok_of (N := 137) Try.func8 rfl rfl rfl (fun W => ?_)
  refine c_seq (fun K1 hK1 => ?_)
  refine c_region ?_
  refine tp rfl (lv_assign rfl) ?_
  refine t_done ?_
  refine q_then_n (hK1 _ _ ?_)
  refine c_seq (fun K2 hK2 => ?_)
  refine c_region ?_
  refine tc rfl (en_fn Try.call10 rfl) (shown_ok) ?_
  rintro _ _ ⟨rfl, hMR⟩
  rw [hMR]; clear hMR
  refine tp rfl (lv_assign rfl) ?_
  refine t_done ?_
  refine q_then_n (hK2 _ _ ?_)
  refine c_seq (fun K3 hK3 => ?_)
  refine c_region ?_
  refine tp rfl (lv_move rfl) ?_
  refine tp rfl (lv_and (c := n % 1024) rfl rfl (and_3ff n)) ?_
  refine tp rfl (lv_add (c := q) rfl rfl (wrT hq (by omega) (by omega))) ?_
  refine tp rfl (lv_assign rfl) ?_
  refine t_done ?_
  refine q_then_n (hK3 _ _ ?_)
  refine c_seq (fun K4 hK4 => ?_)
  refine c_region ?_
  refine tp rfl (lv_move rfl) ?_
  refine tc rfl (en_fn Try.call11 rfl) (tnew_ok q) ?_
  rintro _ _ ⟨p1, rfl, rfl⟩
  rw [show qOf q = q from (by unfold qOf; omega)]
  refine tp rfl (lv_assign rfl) ?_
  refine t_done ?_
  refine q_then_n (hK4 _ _ ?_)
  refine c_seq (fun K5 hK5 => ?_)
  refine c_region ?_
  refine tp rfl (lv_move rfl) ?_
  refine tc rfl (en_fn Try.call11 rfl) (tnew_ok q) ?_
  rintro _ _ ⟨p2, rfl, rfl⟩
  rw [show qOf q = q from (by unfold qOf; omega)]
  refine tp rfl (lv_assign rfl) ?_
  refine t_done ?_
  refine q_then_n (hK5 _ _ ?_)
  refine c_seq (fun K6 hK6 => ?_)
  refine c_seq (fun K7 hK7 => ?_)
  refine c_region ?_
  refine tp rfl (lv_move rfl) ?_
  refine tp rfl (lv_eqnil Try.underlying24 rfl rfl) ?_
  refine tp rfl (lv_move rfl) ?_
  refine t_guard rfl rfl ?_
  refine tp rfl (lv_move rfl) ?_
  refine t_guard rfl rfl ?_
  refine tp rfl (lv_eqnil Try.underlying24 rfl rfl) ?_
  refine tp rfl (lv_pick_f rfl rfl) ?_
  refine t_done ?_
  refine q_then_n (hK7 _ _ ?_)
  refine c_false rfl ?_
  refine c_skip ?_
  refine q_then_n (hK6 _ _ ?_)
  refine c_seq (fun K8 hK8 => ?_)
  refine c_region ?_
  refine tp rfl (lv_move rfl) ?_
  refine tp rfl (lv_len Try.underlying22 rfl rfl) ?_
  refine tp rfl (lv_min (c := ((N : Nat) : Int)) rfl rfl (by omega)) ?_
  refine tp rfl (lv_assign rfl) ?_
  refine t_done ?_
  refine q_then_n (hK8 _ _ ?_)
  refine c_seq (fun K9 hK9 => ?_)
  refine c_seq (fun K10 hK10 => ?_)
  refine c_region ?_
  refine tp rfl (lv_assign rfl) ?_
  refine t_done ?_
  refine q_then_n (hK10 _ _ ?_)
  refine c_block ?_
  refine c_loop (γ := (Nat)) (fun (k : Nat) => k ≤ N) (fun (k : Nat) => [(0, (.int .i64 q)), (1, (.slice bx xs.length cx)), (2, (.slice bz ys.length cz)), (7, (.bool true)), (8, (.pointer (some ⟨p1, 0, none⟩))), (9, (.pointer (some ⟨p2, 0, none⟩))), (10, (.int .i64 ((N : Nat) : Int))), (11, (.int .i64 ((k : Nat) : Int))), (35, (.bool false))]) (fun (k : Nat) => (TurnsO p2 q (memL (wtF xs 100) k) 0) :: (TurnsO p1 q (memL (wtF xs 100) k) 0) :: R) (fun (k : Nat) => N - k) (0) (by omega) ⟨rfl, rfl, rfl, rfl, rfl, rfl, rfl, rfl, rfl, trivial⟩ (fun _ h => h) ?_
  rintro k K11 hF hK11
  try dsimp only at hF hK11 ⊢
  have hwk := wtF_bd xs (show (0 : Int) < 100 by omega) k
  refine c_seq (fun K12 hK12 => ?_)
  refine c_seq (fun K13 hK13 => ?_)
  refine c_region ?_
  refine tp rfl (lv_move rfl) ?_
  refine tp rfl (lv_move rfl) ?_
  by_cases h3 : ((k : Nat) : Int) < ((N : Nat) : Int)
  · -- yes
    refine tp rfl (lv_lss rfl rfl (decide_eq_true h3)) ?_
    refine t_done ?_
    refine q_then_n (hK13 _ _ ?_)
    refine c_true rfl ?_
    refine c_skip ?_
    refine q_then_n (hK12 _ _ ?_)
    refine c_seq (fun K14 hK14 => ?_)
    refine c_block ?_
    refine c_seq (fun K15 hK15 => ?_)
    refine c_region ?_
    refine tp rfl (lv_move rfl) ?_
    refine tp rfl (lv_move rfl) ?_
    refine tp rfl (lv_indexAddr (k' := k) Try.underlying22 Try.sizeOf3 rfl rfl okx (by omega) (by omega) (by omega)) ?_
    refine tp rfl (lv_load Try.isAgg3 rfl (Rd.gives (Rd.cons (Rd.cons hx)) (ints_get (by omega)))) ?_
    refine tp rfl (lv_and (c := (xs).getD k 0 % 65536) rfl rfl (and_ffff _)) ?_
    refine tp rfl (lv_rem (c := ((xs).getD k 0 % 65536) % 100) rfl rfl (by omega) (Int.tmod_eq_emod_of_nonneg (by omega))) ?_
    refine tp rfl (lv_add (c := wtF xs 100 k) rfl rfl (wrT rfl (by omega) (by omega))) ?_
    refine tp rfl (lv_assign rfl) ?_
    refine t_done ?_
    refine q_then_n (hK15 _ _ ?_)
    refine c_seq (fun K16 hK16 => ?_)
    refine c_region ?_
    refine tp rfl (lv_move rfl) ?_
    refine tp rfl (lv_move rfl) ?_
    refine tp rfl (lv_move rfl) ?_
    refine t_f1 ?_
    refine tc rfl (en_fn Try.call12 rfl) (tjoin_ok (q := q) (ms := memL (wtF xs 100) k) (a := 0) ((k : Nat) : Int) (wtF xs 100 k) (by rw [memL_len]; omega)) ?_
    rintro _ _ ⟨rfl, rfl⟩
    rw [show joinM (memL (wtF xs 100) k) ((k : Nat) : Int) (wtF xs 100 k) = memL (wtF xs 100) (k + 1) from (join_mem hwk).2]
    rw [show joinEr (memL (wtF xs 100) k) ((k : Nat) : Int) (wtF xs 100 k) = 0 from (join_mem hwk).1]
    refine tp rfl (lv_neq (r := false) rfl rfl (by decide)) ?_
    refine tp rfl (lv_move rfl) ?_
    refine t_guard rfl rfl ?_
    refine tp rfl (lv_move rfl) ?_
    refine t_guard rfl rfl ?_
    refine tp rfl (lv_move rfl) ?_
    refine t_guard rfl rfl ?_
    refine tp rfl (lv_move rfl) ?_
    refine t_guard rfl rfl ?_
    refine t_f1 ?_
    refine tc rfl (en_fn Try.call12 rfl) (tjoin_ok (q := q) (ms := memL (wtF xs 100) k) (a := 0) ((k : Nat) : Int) (wtF xs 100 k) (by rw [memL_len]; omega)) ?_
    rintro _ _ ⟨rfl, rfl⟩
    rw [show joinM (memL (wtF xs 100) k) ((k : Nat) : Int) (wtF xs 100 k) = memL (wtF xs 100) (k + 1) from (join_mem hwk).2]
    rw [show joinEr (memL (wtF xs 100) k) ((k : Nat) : Int) (wtF xs 100 k) = 0 from (join_mem hwk).1]
    refine t_guard rfl rfl ?_
    refine tp rfl (lv_neq (r := false) rfl rfl (by decide)) ?_
    refine tp rfl (lv_pick_f rfl rfl) ?_
    refine t_done ?_
    refine q_then_n (hK16 _ _ ?_)
    refine c_false rfl ?_
    refine c_skip ?_
    refine q_in_n ?_
    refine q_then_n (hK14 _ _ ?_)
    refine c_region ?_
    refine tp rfl (lv_move rfl) ?_
    refine tp rfl (lv_add (c := ((k + 1 : Nat) : Int)) rfl rfl (wr_i64_succ (by omega))) ?_
    refine tp rfl (lv_assign rfl) ?_
    refine t_done ?_
    refine q_then_n ?_
    exact t_weak (by exact ⟨rfl, rfl, rfl, rfl, rfl, rfl, rfl, rfl, rfl, trivial⟩) ((hK11 (k + 1) (by omega) (by omega)))
  · -- no
    refine tp rfl (lv_lss rfl rfl (decide_eq_false h3)) ?_
    refine t_done ?_
    refine q_then_n (hK13 _ _ ?_)
    refine c_false rfl ?_
    refine c_exit ?_
    refine q_then_x ?_
    refine q_then_x ?_
    refine q_in_x ?_
    refine q_then_n (hK9 _ _ ?_)
    refine c_seq (fun K14 hK14 => ?_)
    refine c_region ?_
    obtain rfl : N = k := by omega
    obtain ⟨hij, hie⟩ := idle_join (f := wtF xs 100) hN10
    refine tp rfl (lv_move rfl) ?_
    refine tc rfl (en_fn Try.call12 rfl) (tjoin_ok (q := q) (ms := memL (wtF xs 100) N) (a := 0) 99 50 (by rw [memL_len]; omega)) ?_
    rintro _ _ ⟨rfl, rfl⟩
    rw [show joinM (memL (wtF xs 100) N) 99 50 = memL (wtF xs 100) N ++ [idleM] from hij]
    rw [show joinEr (memL (wtF xs 100) N) 99 50 = 0 from hie]
    refine t_done ?_
    refine q_then_n (hK14 _ _ ?_)
    refine c_seq (fun K15 hK15 => ?_)
    refine c_seq (fun K16 hK16 => ?_)
    refine c_region ?_
    refine tp rfl (lv_assign rfl) ?_
    refine t_done ?_
    refine q_then_n (hK16 _ _ ?_)
    refine c_block ?_
    refine c_loop (γ := (Nat) × (List M3) × (Nat)) (fun (i, ms, a) => i ≤ ys.length ∧ i ≤ 100 ∧ Std (wtF xs 100) N ms ∧ (0 < N → a < N)) (fun (i, ms, a) => [(0, (.int .i64 q)), (1, (.slice bx xs.length cx)), (2, (.slice bz ys.length cz)), (7, (.bool true)), (8, (.pointer (some ⟨p1, 0, none⟩))), (9, (.pointer (some ⟨p2, 0, none⟩))), (10, (.int .i64 ((N : Nat) : Int))), (11, (.int .i64 ((N : Nat) : Int))), (13, (.int .i64 ((i : Nat) : Int))), (35, (.bool false)), (41, (.bool false))]) (fun (i, ms, a) => (TurnsO p2 q (ms ++ [idleM]) a) :: (TurnsO p1 q ms a) :: R) (fun (i, ms, a) => ys.length - i) (0, memL (wtF xs 100) N, 0) ⟨by omega, by omega, Std.mem _ _, fun h => h⟩ ⟨rfl, rfl, rfl, rfl, rfl, rfl, rfl, rfl, rfl, rfl, rfl, trivial⟩ (fun _ h => h) ?_
    rintro ⟨i, ms, a⟩ K17 hF hK17
    try dsimp only at hF hK17 ⊢
    obtain ⟨hi, hi2, hstd, hal⟩ := hF
    have hsl := hstd.len
    refine c_seq (fun K18 hK18 => ?_)
    refine c_seq (fun K19 hK19 => ?_)
    refine c_region ?_
    refine tp rfl (lv_move rfl) ?_
    by_cases h4 : ((N : Nat) : Int) > 0
    · -- yes
      refine tp rfl (lv_gtr rfl rfl (decide_eq_true h4)) ?_
      refine tp rfl (lv_move rfl) ?_
      refine t_guard rfl rfl ?_
      refine tp rfl (lv_move rfl) ?_
      refine t_guard rfl rfl ?_
      refine tp rfl (lv_move rfl) ?_
      refine t_guard rfl rfl ?_
      refine tp rfl (lv_len Try.underlying22 rfl rfl) ?_
      refine t_guard rfl rfl ?_
      by_cases h5 : ((i : Nat) : Int) < ((ys.length : Nat) : Int)
      · -- yes
        refine tp rfl (lv_lss rfl rfl (decide_eq_true h5)) ?_
        refine tp rfl (lv_pick_t rfl rfl) ?_
        refine tp rfl (lv_move rfl) ?_
        refine t_guard rfl rfl ?_
        refine tp rfl (lv_move rfl) ?_
        refine t_guard rfl rfl ?_
        by_cases h6 : ((i : Nat) : Int) < 100
        · -- yes
         refine tp rfl (lv_lss rfl rfl (decide_eq_true h6)) ?_
         refine tp rfl (lv_pick_t rfl rfl) ?_
         refine t_done ?_
         refine q_then_n (hK19 _ _ ?_)
         refine c_true rfl ?_
         refine c_skip ?_
         refine q_then_n (hK18 _ _ ?_)
         refine c_seq (fun K20 hK20 => ?_)
         refine c_block ?_
         refine c_seq (fun K21 hK21 => ?_)
         refine c_region ?_
         refine tp rfl (lv_assign rfl) ?_
         refine t_done ?_
         refine q_then_n (hK21 _ _ ?_)
         refine c_seq (fun K22 hK22 => ?_)
         refine c_seq (fun K23 hK23 => ?_)
         refine c_region ?_
         refine tp rfl (lv_assign rfl) ?_
         refine t_done ?_
         refine q_then_n (hK23 _ _ ?_)
         refine c_block ?_
         refine t_sat (fun _ h => sat_nilsl 31 2 h) ?_
         refine c_loop (γ := (Nat) × (Option Addr) × (Nat)) (fun (j, bw, cw) => j ≤ N ∧ SlOk bw j ∧ j ≤ cw) (fun (j, bw, cw) => [(0, (.int .i64 q)), (1, (.slice bx xs.length cx)), (2, (.slice bz ys.length cz)), (7, (.bool true)), (8, (.pointer (some ⟨p1, 0, none⟩))), (9, (.pointer (some ⟨p2, 0, none⟩))), (10, (.int .i64 ((N : Nat) : Int))), (11, (.int .i64 ((N : Nat) : Int))), (13, (.int .i64 ((i : Nat) : Int))), (14, (.slice bw j cw)), (15, (.int .i64 ((j : Nat) : Int))), (35, (.bool false)), (41, (.bool false)), (76, (.bool true))]) (fun (j, bw, cw) => (SlV 31 2 (.slice bw j cw) j (pairs (wantL (c3 ys i) j))) :: (TurnsO p2 q (ms ++ [idleM]) a) :: (TurnsO p1 q ms a) :: R) (fun (j, bw, cw) => N - j) (0, none, 0) ⟨by omega, slok_none, Nat.le_refl _⟩ ⟨rfl, rfl, rfl, rfl, rfl, rfl, rfl, rfl, rfl, rfl, rfl, rfl, rfl, rfl, trivial⟩ (fun _ h => h) ?_
         rintro ⟨j, bw, cw⟩ K24 hF hK24
         try dsimp only at hF hK24 ⊢
         obtain ⟨hj, hbw, hwc⟩ := hF
         refine c_seq (fun K25 hK25 => ?_)
         refine c_seq (fun K26 hK26 => ?_)
         refine c_region ?_
         refine tp rfl (lv_move rfl) ?_
         refine tp rfl (lv_move rfl) ?_
         by_cases h7 : ((j : Nat) : Int) < ((N : Nat) : Int)
         · -- yes
          refine tp rfl (lv_lss rfl rfl (decide_eq_true h7)) ?_
          refine t_done ?_
          refine q_then_n (hK26 _ _ ?_)
          refine c_true rfl ?_
          refine c_skip ?_
          refine q_then_n (hK25 _ _ ?_)
          refine c_seq (fun K27 hK27 => ?_)
          refine c_block ?_
          refine c_region ?_
          have hmod : (i * 3 + j) % ys.length < ys.length := Nat.mod_lt _ (by omega)
          have hcj := c3_bd ys i j
          refine tp rfl (lv_move rfl) ?_
          refine tp rfl (lv_move rfl) ?_
          refine tp rfl (lv_move rfl) ?_
          refine tp rfl (lv_move rfl) ?_
          refine tp rfl (lv_mul (c := ((i * 3 : Nat) : Int)) rfl rfl (wrT (by omega) (by omega) (by omega))) ?_
          refine tp rfl (lv_move rfl) ?_
          refine tp rfl (lv_add (c := ((i * 3 + j : Nat) : Int)) rfl rfl (wrT (by omega) (by omega) (by omega))) ?_
          refine tp rfl (lv_move rfl) ?_
          refine tp rfl (lv_len Try.underlying22 rfl rfl) ?_
          refine tp rfl (lv_rem (c := (((i * 3 + j) % ys.length : Nat) : Int)) rfl rfl (by omega) (rem_nat _ _)) ?_
          refine tp rfl (lv_indexAddr (k' := (i * 3 + j) % ys.length) Try.underlying22 Try.sizeOf3 rfl rfl okz (by omega) (by omega) (by omega)) ?_
          refine tp rfl (lv_load Try.isAgg3 rfl (Rd.gives (Rd.cons (Rd.cons (Rd.cons hz))) (ints_get hmod))) ?_
          refine tp rfl (lv_and (c := (ys).getD ((i * 3 + j) % ys.length) 0 % 1024) rfl rfl (and_3ff _)) ?_
          refine tp rfl (lv_add (c := c3 ys i j) rfl rfl (wrT rfl (by omega) (by omega))) ?_
          refine tp rfl (lv_build (cs := [(.int .i64 ((j : Nat) : Int)), (.int .i64 (c3 ys i j))]) (pl := [(0, 1), (1, 1)]) Try.underlying31 Try.zeroValue31 (fun _ => by simp) rfl rfl) ?_
          refine tm rfl (mv_buildSlice (cs := [(.int .i64 ((j : Nat) : Int)), (.int .i64 (c3 ys i j))]) Try.underlying29 Try.sizeOf31 Try.zeroValue31 (by decide) rfl rfl rfl rfl) ?_
          rintro _ _ ⟨bs8, cp9, hok10, hle11, rfl, rfl⟩
          refine t_f1 ?_
          refine tm rfl (mv_append (i := Try.t31) Try.underlying29 Try.type31 rfl rfl rfl (by decide) rfl rfl hok10 (by first | (simp; done) | (simp; omega)) (rd_sl (.tail _ (.head _))) (by simp [Value.oneCell']) (by rw [show Try.t31.bytes = 16 from rfl]; omega)) ?_
          rintro _ _ ⟨bs12, cp13, hok14, hle15, rfl, rfl⟩
          rw [show pairs (wantL (c3 ys i) j) ++ [(.int .i64 ((j : Nat) : Int)), (.int .i64 (c3 ys i j))] = pairs ((wantL (c3 ys i) j) ++ [(((j : Nat) : Int), c3 ys i j)]) from pairs_snoc _ _ _]
          refine tp rfl (lv_assign rfl) ?_
          refine t_done ?_
          refine q_in_n ?_
          refine q_then_n (hK27 _ _ ?_)
          refine c_region ?_
          refine tp rfl (lv_move rfl) ?_
          refine tp rfl (lv_add (c := ((j + 1 : Nat) : Int)) rfl rfl (wr_i64_succ (by omega))) ?_
          refine tp rfl (lv_assign rfl) ?_
          refine t_done ?_
          refine q_then_n ?_
          refine t_f1 ?_
          refine t_drop ?_
          rw [show (wantL (c3 ys i) j) ++ [(((j : Nat) : Int), c3 ys i j)] = wantL (c3 ys i) (j + 1) from wantL_succ _ _]
          exact t_weak (by exact ⟨rfl, rfl, rfl, rfl, rfl, rfl, rfl, rfl, rfl, rfl, rfl, rfl, rfl, rfl, trivial⟩) ((hK24 (j + 1, bs12, cp13) ⟨by omega, hok14, hle15⟩ (by dsimp only; omega)))
         · -- no
          refine tp rfl (lv_lss rfl rfl (decide_eq_false h7)) ?_
          refine t_done ?_
          refine q_then_n (hK26 _ _ ?_)
          refine c_false rfl ?_
          refine c_exit ?_
          refine q_then_x ?_
          refine q_then_x ?_
          refine q_in_x ?_
          refine q_then_n (hK22 _ _ ?_)
          refine c_seq (fun K27 hK27 => ?_)
          refine c_region ?_
          obtain rfl : N = j := by omega
          have hN0 : 0 < N := by omega
          have ha0 := hal hN0
          have hcs : ∀ k, k < N → 1 ≤ c3 ys i k ∧ c3 ys i k ≤ 1048576 := fun k _ => by have := c3_bd ys i k; omega
          have hany := hstd.any hcs hN0
          have hco := idle_costs (f := fun _ => 0) (ms := ms) (c := c3 ys i) hN10
          refine tp rfl (lv_move rfl) ?_
          refine tp rfl (lv_move rfl) ?_
          refine t_f2 ?_
          refine tc rfl (en_fn Try.call13 rfl) (take_okn (q := q) (ms := ms) (a := a) (wantL (c3 ys i) N) (wantL_len _ _) (rd_sl (.head _)) hbw (by omega) (by omega) hany) ?_
          rintro _ _ ⟨tm, tb, ht, rfl, rfl⟩
          refine tp rfl (lv_move rfl) ?_
          refine tp rfl (lv_extract rfl rfl) ?_
          refine tp rfl (lv_extract rfl rfl) ?_
          refine tp rfl (lv_assign rfl) ?_
          refine tp rfl (lv_assign rfl) ?_
          refine t_done ?_
          refine q_then_n (hK27 _ _ ?_)
          refine c_seq (fun K28 hK28 => ?_)
          refine c_region ?_
          refine tp rfl (lv_move rfl) ?_
          refine tp rfl (lv_move rfl) ?_
          refine t_f2 ?_
          refine tc rfl (en_fn Try.call13 rfl) (take_okn (q := q) (ms := ms ++ [idleM]) (a := a) (wantL (c3 ys i) N) (wantL_len _ _) (rd_sl (.tail _ (.head _))) hbw (by omega) (by simp; omega) (by rw [hco]; exact idle_any hany)) ?_
          rintro _ _ ⟨tm2, ta, ht2, rfl, rfl⟩
          refine tp rfl (lv_move rfl) ?_
          refine tp rfl (lv_extract rfl rfl) ?_
          refine tp rfl (lv_extract rfl rfl) ?_
          refine tp rfl (lv_assign rfl) ?_
          refine tp rfl (lv_assign rfl) ?_
          refine t_done ?_
          refine q_then_n (hK28 _ _ ?_)
          refine c_seq (fun K29 hK29 => ?_)
          refine c_region ?_
          obtain ⟨k0, hk0⟩ := id ht
          obtain ⟨hti, hta, htl⟩ := idle_take (m := idleM) rfl k0 (by rw [costsL_len]) (by omega) hk0
          rw [hco] at ht2 ⊢
          obtain ⟨ha2, hb2⟩ := Prod.mk.inj (ht2.det hti)
          subst ha2; obtain rfl : tb = ta := hb2.symm
          rw [hsl] at hta
          have hcg : ((costsL ms (wantL (c3 ys i) N)) ++ [0]).getD tb 0 = (costsL ms (wantL (c3 ys i) N)).getD tb 0 := by simp only [List.getD]; rw [List.getElem?_append_left (by rw [costsL_len]; omega)]
          rw [hcg, getD_snoc_l (by omega), setC_snoc (by omega)]
          have hI := (ht.inv (I := fun s => Std (wtF xs 100) N s.1 ∧ s.2 < N) ⟨hstd, ha0⟩ (fun s hs hr => ⟨hs.1.step hs.2, by show nxt s.2 s.1.length < N; rw [hs.1.len]; exact nxt_lt hs.2⟩)).1
          have hst2 : Std (wtF xs 100) N (setC tm tb ((tm.getD tb M3.z).c - (costsL ms (wantL (c3 ys i) N)).getD tb 0)) := hI.1.set hta _
          refine tp rfl (lv_move rfl) ?_
          refine tp rfl (lv_move rfl) ?_
          refine tp rfl (lv_neq rfl rfl (bne_eq_false_iff_eq.2 rfl)) ?_
          refine tp rfl (lv_move rfl) ?_
          refine t_guard rfl rfl ?_
          refine tp rfl (lv_move rfl) ?_
          refine t_guard rfl rfl ?_
          refine tp rfl (lv_not (c := false) rfl rfl) ?_
          refine tp rfl (lv_pick_f rfl rfl) ?_
          refine tp rfl (lv_move rfl) ?_
          refine t_guard rfl rfl ?_
          refine tp rfl (lv_move rfl) ?_
          refine t_guard rfl rfl ?_
          refine tp rfl (lv_not (c := false) rfl rfl) ?_
          refine tp rfl (lv_pick_f rfl rfl) ?_
          refine t_done ?_
          refine q_then_n (hK29 _ _ ?_)
          refine c_false rfl ?_
          refine c_skip ?_
          refine q_in_n ?_
          refine q_then_n (hK20 _ _ ?_)
          refine c_region ?_
          refine tp rfl (lv_move rfl) ?_
          refine tp rfl (lv_add (c := ((i + 1 : Nat) : Int)) rfl rfl (wr_i64_succ (by omega))) ?_
          refine tp rfl (lv_assign rfl) ?_
          refine t_done ?_
          refine q_then_n ?_
          refine t_f2 ?_
          refine t_drop ?_
          exact t_weak (by exact ⟨rfl, rfl, rfl, rfl, rfl, rfl, rfl, rfl, rfl, rfl, rfl, trivial⟩) ((hK17 (i + 1, setC tm tb ((tm.getD tb M3.z).c - (costsL ms (wantL (c3 ys i) N)).getD tb 0), tb) ⟨by omega, by omega, hst2, fun _ => hta⟩ (by dsimp only; omega)))
        · -- no
         refine tp rfl (lv_lss rfl rfl (decide_eq_false h6)) ?_
         refine tp rfl (lv_pick_t rfl rfl) ?_
         refine t_done ?_
         refine q_then_n (hK19 _ _ ?_)
         refine c_false rfl ?_
         refine c_exit ?_
         refine q_then_x ?_
         refine q_then_x ?_
         refine q_in_x ?_
         refine q_then_n (hK15 _ _ ?_)
         refine c_seq (fun K20 hK20 => ?_)
         refine c_region ?_
         refine tp rfl (lv_move rfl) ?_
         refine tc rfl (en_fn Try.call16 rfl) (tcredit_ok (q := q) (ms := ms ++ [idleM]) (a := a) 99 (by simp; omega)) ?_
         rintro _ _ ⟨rfl, rfl⟩
         rw [show credV (ms ++ [idleM]) 99 = 0 from (idle_cred hstd hN10).1]
         rw [show decide (placeM (ms ++ [idleM]) 99 ≥ 0) = true from (idle_cred hstd hN10).2]
         refine tp rfl (lv_move rfl) ?_
         refine tp rfl (lv_extract rfl rfl) ?_
         refine tp rfl (lv_extract rfl rfl) ?_
         refine tp rfl (lv_assign rfl) ?_
         refine tp rfl (lv_assign rfl) ?_
         refine t_done ?_
         refine q_then_n (hK20 _ _ ?_)
         refine c_seq (fun K21 hK21 => ?_)
         refine c_region ?_
         refine tp rfl (lv_move rfl) ?_
         refine tp rfl (lv_move rfl) ?_
         refine t_guard rfl rfl ?_
         refine tp rfl (lv_move rfl) ?_
         refine tp rfl (lv_pick_t rfl rfl) ?_
         refine tp rfl (lv_move rfl) ?_
         refine t_guard rfl rfl ?_
         refine tp rfl (lv_move rfl) ?_
         refine t_guard rfl rfl ?_
         refine tp rfl (lv_eql (r := true) rfl rfl (by decide)) ?_
         refine tp rfl (lv_pick_t rfl rfl) ?_
         refine tp rfl (lv_assign rfl) ?_
         refine t_done ?_
         refine q_then_n (hK21 _ _ ?_)
         refine c_ret ?_
         refine t_drop ?_
         refine t_drop ?_
         refine q_ret rfl rfl ?_
         exact ⟨rfl, rfl⟩
      · -- no
        refine tp rfl (lv_lss rfl rfl (decide_eq_false h5)) ?_
        refine tp rfl (lv_pick_t rfl rfl) ?_
        refine tp rfl (lv_move rfl) ?_
        refine t_skip rfl rfl rfl ?_
        refine t_skip rfl rfl rfl ?_
        refine tp rfl (lv_pick_f rfl rfl) ?_
        refine t_done ?_
        refine q_then_n (hK19 _ _ ?_)
        refine c_false rfl ?_
        refine c_exit ?_
        refine q_then_x ?_
        refine q_then_x ?_
        refine q_in_x ?_
        refine q_then_n (hK15 _ _ ?_)
        refine c_seq (fun K20 hK20 => ?_)
        refine c_region ?_
        refine tp rfl (lv_move rfl) ?_
        refine tc rfl (en_fn Try.call16 rfl) (tcredit_ok (q := q) (ms := ms ++ [idleM]) (a := a) 99 (by simp; omega)) ?_
        rintro _ _ ⟨rfl, rfl⟩
        rw [show credV (ms ++ [idleM]) 99 = 0 from (idle_cred hstd hN10).1]
        rw [show decide (placeM (ms ++ [idleM]) 99 ≥ 0) = true from (idle_cred hstd hN10).2]
        refine tp rfl (lv_move rfl) ?_
        refine tp rfl (lv_extract rfl rfl) ?_
        refine tp rfl (lv_extract rfl rfl) ?_
        refine tp rfl (lv_assign rfl) ?_
        refine tp rfl (lv_assign rfl) ?_
        refine t_done ?_
        refine q_then_n (hK20 _ _ ?_)
        refine c_seq (fun K21 hK21 => ?_)
        refine c_region ?_
        refine tp rfl (lv_move rfl) ?_
        refine tp rfl (lv_move rfl) ?_
        refine t_guard rfl rfl ?_
        refine tp rfl (lv_move rfl) ?_
        refine tp rfl (lv_pick_t rfl rfl) ?_
        refine tp rfl (lv_move rfl) ?_
        refine t_guard rfl rfl ?_
        refine tp rfl (lv_move rfl) ?_
        refine t_guard rfl rfl ?_
        refine tp rfl (lv_eql (r := true) rfl rfl (by decide)) ?_
        refine tp rfl (lv_pick_t rfl rfl) ?_
        refine tp rfl (lv_assign rfl) ?_
        refine t_done ?_
        refine q_then_n (hK21 _ _ ?_)
        refine c_ret ?_
        refine t_drop ?_
        refine t_drop ?_
        refine q_ret rfl rfl ?_
        exact ⟨rfl, rfl⟩
    · -- no
      refine tp rfl (lv_gtr rfl rfl (decide_eq_false h4)) ?_
      refine tp rfl (lv_move rfl) ?_
      refine t_skip rfl rfl rfl ?_
      refine t_skip rfl rfl rfl ?_
      refine t_skip rfl rfl rfl ?_
      refine t_skip rfl rfl rfl ?_
      refine tp rfl (lv_pick_f rfl rfl) ?_
      refine tp rfl (lv_move rfl) ?_
      refine t_skip rfl rfl rfl ?_
      refine t_skip rfl rfl rfl ?_
      refine tp rfl (lv_pick_f rfl rfl) ?_
      refine t_done ?_
      refine q_then_n (hK19 _ _ ?_)
      refine c_false rfl ?_
      refine c_exit ?_
      refine q_then_x ?_
      refine q_then_x ?_
      refine q_in_x ?_
      refine q_then_n (hK15 _ _ ?_)
      refine c_seq (fun K20 hK20 => ?_)
      refine c_region ?_
      refine tp rfl (lv_move rfl) ?_
      refine tc rfl (en_fn Try.call16 rfl) (tcredit_ok (q := q) (ms := ms ++ [idleM]) (a := a) 99 (by simp; omega)) ?_
      rintro _ _ ⟨rfl, rfl⟩
      rw [show credV (ms ++ [idleM]) 99 = 0 from (idle_cred hstd hN10).1]
      rw [show decide (placeM (ms ++ [idleM]) 99 ≥ 0) = true from (idle_cred hstd hN10).2]
      refine tp rfl (lv_move rfl) ?_
      refine tp rfl (lv_extract rfl rfl) ?_
      refine tp rfl (lv_extract rfl rfl) ?_
      refine tp rfl (lv_assign rfl) ?_
      refine tp rfl (lv_assign rfl) ?_
      refine t_done ?_
      refine q_then_n (hK20 _ _ ?_)
      refine c_seq (fun K21 hK21 => ?_)
      refine c_region ?_
      refine tp rfl (lv_move rfl) ?_
      refine tp rfl (lv_move rfl) ?_
      refine t_guard rfl rfl ?_
      refine tp rfl (lv_move rfl) ?_
      refine tp rfl (lv_pick_t rfl rfl) ?_
      refine tp rfl (lv_move rfl) ?_
      refine t_guard rfl rfl ?_
      refine tp rfl (lv_move rfl) ?_
      refine t_guard rfl rfl ?_
      refine tp rfl (lv_eql (r := true) rfl rfl (by decide)) ?_
      refine tp rfl (lv_pick_t rfl rfl) ?_
      refine tp rfl (lv_assign rfl) ?_
      refine t_done ?_
      refine q_then_n (hK21 _ _ ?_)
      refine c_ret ?_
      refine t_drop ?_
      refine t_drop ?_
      refine q_ret rfl rfl ?_
      exact ⟨rfl, rfl⟩
end Go.Proofs.Ytkhceihokoheaaa
