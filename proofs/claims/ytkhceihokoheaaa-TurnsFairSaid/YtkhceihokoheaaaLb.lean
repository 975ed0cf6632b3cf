/- TurnsFair: the law's walk. -/
import Derived.Test.YtkhceihokoheaaaLa
set_option maxRecDepth 100000
set_option linter.unusedVariables false
set_option linter.unusedSimpArgs false
namespace Go.Proofs.Ytkhceihokoheaaa
open Go Go.Proofs Sp
set_option maxHeartbeats 4000000 in
theorem fair_ok {R : List HP} (n : Int) {bx : Option Addr} {cx : Nat} (xs : List Int) (hx : Rd R bx (ints .i64 xs)) (okx : SlOk bx xs.length) (lx : xs.length ≤ 9223372036854775807) {bz : Option Addr} {cz : Nat} (ys : List Int) (hz : Rd R bz (ints .i64 ys)) (okz : SlOk bz ys.length) (lz : ys.length ≤ 9223372036854775807) :
    Ok Try.prog 3 [(.int .i64 n), (.slice bx xs.length cx), (.slice bz ys.length cz)] R
      (fun v M => v = .bool true ∧ M = R) := by
  obtain ⟨q, hq⟩ : ∃ q : Int, 1 + n % 1024 = q := ⟨_, rfl⟩
  have hq1 : 1 ≤ q := by omega
  have hq2 : q ≤ 1024 := by omega
  obtain ⟨N, hN⟩ : ∃ N : Nat, min xs.length 10 = N := ⟨_, rfl⟩
  have hN10 : N ≤ 10 := by omega
  refine ok_of (N := 162) Try.func3 rfl rfl rfl (fun W => ?_)
  refine c_seq (fun K1 hK1 => ?_)
  refine c_region ?_
  refine tp rfl (lv_assign rfl) ?_
  refine t_done ?_
  refine q_then_n (hK1 _ _ ?_)
  refine c_seq (fun K2 hK2 => ?_)
  refine c_region ?_
  refine tc rfl (en_fn Try.call10 rfl) (shown_ok) ?_
  rintro _ _ ⟨rfl, hMR⟩
  rw [hMR]; clear hMR
  refine tp rfl (lv_assign rfl) ?_
  refine t_done ?_
  refine q_then_n (hK2 _ _ ?_)
  refine c_seq (fun K3 hK3 => ?_)
  refine c_region ?_
  refine tp rfl (lv_move rfl) ?_
  refine tp rfl (lv_and (c := n % 1024) rfl rfl (and_3ff n)) ?_
  refine tp rfl (lv_add (c := q) rfl rfl (wrT hq (by omega) (by omega))) ?_
  refine tp rfl (lv_assign rfl) ?_
  refine t_done ?_
  refine q_then_n (hK3 _ _ ?_)
  refine c_seq (fun K4 hK4 => ?_)
  refine c_region ?_
  refine tp rfl (lv_move rfl) ?_
  refine tc rfl (en_fn Try.call11 rfl) (tnew_ok q) ?_
  rintro _ _ ⟨p1, rfl, rfl⟩
  rw [show qOf q = q from (by unfold qOf; omega)]
  refine tp rfl (lv_assign rfl) ?_
  refine t_done ?_
  refine q_then_n (hK4 _ _ ?_)
  refine c_seq (fun K5 hK5 => ?_)
  refine c_seq (fun K6 hK6 => ?_)
  refine c_region ?_
  refine tp rfl (lv_move rfl) ?_
  refine tp rfl (lv_eqnil Try.underlying24 rfl rfl) ?_
  refine t_done ?_
  refine q_then_n (hK6 _ _ ?_)
  refine c_false rfl ?_
  refine c_skip ?_
  refine q_then_n (hK5 _ _ ?_)
  refine c_seq (fun K7 hK7 => ?_)
  refine c_region ?_
  refine tp rfl (lv_move rfl) ?_
  refine tp rfl (lv_len Try.underlying22 rfl rfl) ?_
  refine tp rfl (lv_min (c := ((N : Nat) : Int)) rfl rfl (by omega)) ?_
  refine tp rfl (lv_assign rfl) ?_
  refine t_done ?_
  refine q_then_n (hK7 _ _ ?_)
  refine c_seq (fun K8 hK8 => ?_)
  refine c_region ?_
  refine tp rfl (lv_buildArr0 (cs := (ints .i64 (List.replicate 10 0))) Try.underlying26 Try.zeroValue26 Try.sizeOf3 rfl) ?_
  refine tm rfl (mv_alloc (cs := (ints .i64 (List.replicate 10 0))) Try.zeroValue26 rfl) ?_
  rintro _ _ ⟨b2, rfl, rfl⟩
  refine ts (sv_blkAgg (news := (ints .i64 (List.replicate 10 0))) (cs' := (ints .i64 (List.replicate 10 0))) Try.sizeOf26 rfl rfl rfl (by decide) (by decide) rfl) ?_
  refine t_done ?_
  refine q_then_n (hK8 _ _ ?_)
  refine c_seq (fun K9 hK9 => ?_)
  refine c_region ?_
  refine tp rfl (lv_buildArr0 (cs := (ints .i64 (List.replicate 10 0))) Try.underlying26 Try.zeroValue26 Try.sizeOf3 rfl) ?_
  refine tm rfl (mv_alloc (cs := (ints .i64 (List.replicate 10 0))) Try.zeroValue26 rfl) ?_
  rintro _ _ ⟨b3, rfl, rfl⟩
  refine ts (sv_blkAgg (news := (ints .i64 (List.replicate 10 0))) (cs' := (ints .i64 (List.replicate 10 0))) Try.sizeOf26 rfl rfl rfl (by decide) (by decide) rfl) ?_
  refine t_done ?_
  refine q_then_n (hK9 _ _ ?_)
  refine c_seq (fun K10 hK10 => ?_)
  refine c_seq (fun K11 hK11 => ?_)
  refine c_region ?_
  refine tp rfl (lv_assign rfl) ?_
  refine t_done ?_
  refine q_then_n (hK11 _ _ ?_)
  refine c_block ?_
  refine c_loop (γ := (Nat)) (fun (k : Nat) => k ≤ N) (fun (k : Nat) => [(0, (.int .i64 q)), (1, (.slice bx xs.length cx)), (2, (.slice bz ys.length cz)), (7, (.bool true)), (8, (.pointer (some ⟨p1, 0, none⟩))), (9, (.int .i64 ((N : Nat) : Int))), (10, (.pointer (some ⟨b2, 0, none⟩))), (11, (.pointer (some ⟨b3, 0, none⟩))), (12, (.int .i64 ((k : Nat) : Int))), (29, (.bool false))]) (fun (k : Nat) => (Blk b3 (ints .i64 (List.replicate 10 0)) 26) :: (Blk b2 (ints .i64 (wL (wtF xs 100) k)) 26) :: (TurnsO p1 q (memL (wtF xs 100) k) 0) :: R) (fun (k : Nat) => N - k) (0) (by omega) ⟨rfl, rfl, rfl, rfl, rfl, rfl, rfl, rfl, rfl, rfl, trivial⟩ (fun _ h => by rw [← wL_zero]; exact h) ?_
  rintro k K12 hF hK12
  try dsimp only at hF hK12 ⊢
  have hwk := wtF_bd xs (show (0 : Int) < 100 by omega) k
  refine c_seq (fun K13 hK13 => ?_)
  refine c_seq (fun K14 hK14 => ?_)
  refine c_region ?_
  refine tp rfl (lv_move rfl) ?_
  refine tp rfl (lv_move rfl) ?_
  by_cases h4 : ((k : Nat) : Int) < ((N : Nat) : Int)
  · -- yes
    refine tp rfl (lv_lss rfl rfl (decide_eq_true h4)) ?_
    refine t_done ?_
    refine q_then_n (hK14 _ _ ?_)
    refine c_true rfl ?_
    refine c_skip ?_
    refine q_then_n (hK13 _ _ ?_)
    refine c_seq (fun K15 hK15 => ?_)
    refine c_block ?_
    refine c_seq (fun K16 hK16 => ?_)
    refine c_region ?_
    refine tp rfl (lv_move rfl) ?_
    refine tp rfl (lv_move rfl) ?_
    refine tp rfl (lv_move rfl) ?_
    refine tp rfl (lv_indexAddr (k' := k) Try.underlying22 Try.sizeOf3 rfl rfl okx (by omega) (by omega) (by omega)) ?_
    refine tp rfl (lv_load Try.isAgg3 rfl (Rd.gives (Rd.cons (Rd.cons (Rd.cons hx))) (ints_get (by omega)))) ?_
    refine tp rfl (lv_and (c := (xs).getD k 0 % 65536) rfl rfl (and_ffff _)) ?_
    refine tp rfl (lv_rem (c := ((xs).getD k 0 % 65536) % 100) rfl rfl (by omega) (Int.tmod_eq_emod_of_nonneg (by omega))) ?_
    refine tp rfl (lv_add (c := wtF xs 100 k) rfl rfl (wrT rfl (by omega) (by omega))) ?_
    refine tp rfl (lv_indexArr (k' := k) Try.underlying26 Try.sizeOf3 rfl rfl (by omega) (by omega) (by omega)) ?_
    refine t_f1 ?_
    refine ts (sv_blk Try.sizeOf3 rfl rfl rfl (by rw [ints_length, wL_len]; omega) ints_set) ?_
    refine t_done ?_
    refine q_then_n (hK16 _ _ ?_)
    refine c_seq (fun K17 hK17 => ?_)
    refine c_region ?_
    rw [show ((wL (wtF xs 100) k)).set k (wtF xs 100 k) = wL (wtF xs 100) (k + 1) from wL_set (by omega)]
    refine tp rfl (lv_move rfl) ?_
    refine tp rfl (lv_move rfl) ?_
    refine tp rfl (lv_move rfl) ?_
    refine tp rfl (lv_indexArr (k' := k) Try.underlying26 Try.sizeOf3 rfl rfl (by omega) (by omega) (by omega)) ?_
    refine tp rfl (lv_load Try.isAgg3 rfl (gives_as (by rw [wL_get (by omega) (by omega)]) (gives_blk (.head _) (ints_get (by rw [wL_len]; omega))))) ?_
    refine t_f2 ?_
    refine tc rfl (en_fn Try.call12 rfl) (tjoin_ok (q := q) (ms := memL (wtF xs 100) k) (a := 0) ((k : Nat) : Int) (wtF xs 100 k) (by rw [memL_len]; omega)) ?_
    rintro _ _ ⟨rfl, rfl⟩
    rw [show joinM (memL (wtF xs 100) k) ((k : Nat) : Int) (wtF xs 100 k) = memL (wtF xs 100) (k + 1) from (join_mem hwk).2]
    rw [show joinEr (memL (wtF xs 100) k) ((k : Nat) : Int) (wtF xs 100 k) = 0 from (join_mem hwk).1]
    refine tp rfl (lv_neq (r := false) rfl rfl (by decide)) ?_
    refine t_done ?_
    refine q_then_n (hK17 _ _ ?_)
    refine c_false rfl ?_
    refine c_skip ?_
    refine q_in_n ?_
    refine q_then_n (hK15 _ _ ?_)
    refine c_region ?_
    refine tp rfl (lv_move rfl) ?_
    refine tp rfl (lv_add (c := ((k + 1 : Nat) : Int)) rfl rfl (wr_i64_succ (by omega))) ?_
    refine tp rfl (lv_assign rfl) ?_
    refine t_done ?_
    refine q_then_n ?_
    refine t_f1 ?_
    refine t_f2 ?_
    exact t_weak (by exact ⟨rfl, rfl, rfl, rfl, rfl, rfl, rfl, rfl, rfl, rfl, trivial⟩) ((hK12 (k + 1) (by omega) (by omega)))
  · -- no
    refine tp rfl (lv_lss rfl rfl (decide_eq_false h4)) ?_
    refine t_done ?_
    refine q_then_n (hK14 _ _ ?_)
    refine c_false rfl ?_
    refine c_exit ?_
    refine q_then_x ?_
    refine q_then_x ?_
    refine q_in_x ?_
    refine q_then_n (hK10 _ _ ?_)
    refine c_seq (fun K15 hK15 => ?_)
    refine c_region ?_
    obtain rfl : N = k := by omega
    have hgn : ∀ j, j < N → 0 ≤ q * wtF xs 100 j := fun j hj => (gain_bd ⟨hq1, hq2⟩ (wtF_bd xs (show (0 : Int) < 100 by omega) j)).1
    refine tp rfl (lv_assign rfl) ?_
    refine t_done ?_
    refine q_then_n (hK15 _ _ ?_)
    refine c_seq (fun K16 hK16 => ?_)
    refine c_seq (fun K17 hK17 => ?_)
    refine c_region ?_
    refine tp rfl (lv_assign rfl) ?_
    refine t_done ?_
    refine q_then_n (hK17 _ _ ?_)
    refine c_block ?_
    refine c_loop (γ := (Nat) × (Int) × (List Int) × (List M3) × (Nat)) (fun (i, m0, got, ms, a) => i ≤ ys.length ∧ i ≤ 300 ∧ 0 ≤ m0 ∧ m0 ≤ 1024 ∧ got.length = 10 ∧ (∀ x, 0 ≤ got.getD x 0 ∧ got.getD x 0 ≤ 1024 * (i : Int)) ∧ (0 < N → FairI q (wtF xs 100) N m0 got ms a)) (fun (i, m0, got, ms, a) => [(0, (.int .i64 q)), (1, (.slice bx xs.length cx)), (2, (.slice bz ys.length cz)), (7, (.bool true)), (8, (.pointer (some ⟨p1, 0, none⟩))), (9, (.int .i64 ((N : Nat) : Int))), (10, (.pointer (some ⟨b2, 0, none⟩))), (11, (.pointer (some ⟨b3, 0, none⟩))), (12, (.int .i64 ((N : Nat) : Int))), (13, (.int .i64 m0)), (14, (.int .i64 ((i : Nat) : Int))), (29, (.bool false)), (37, (.bool false))]) (fun (i, m0, got, ms, a) => (Blk b3 (ints .i64 got) 26) :: (Blk b2 (ints .i64 (wL (wtF xs 100) N)) 26) :: (TurnsO p1 q ms a) :: R) (fun (i, m0, got, ms, a) => ys.length - i) (0, 0, List.replicate 10 0, memL (wtF xs 100) N, 0) ⟨by omega, by omega, by omega, by omega, by simp, fun x => by rw [List.getD, List.getElem?_replicate]; split <;> decide, fun h => FairI.start h hgn⟩ ⟨rfl, rfl, rfl, rfl, rfl, rfl, rfl, rfl, rfl, rfl, rfl, rfl, rfl, trivial⟩ (fun _ h => h) ?_
    rintro ⟨i, m0, got, ms, a⟩ K18 hF hK18
    try dsimp only at hF hK18 ⊢
    obtain ⟨hi, hi2, hm0, hm1, hgl, hgb, hfair⟩ := hF
    refine c_seq (fun K19 hK19 => ?_)
    refine c_seq (fun K20 hK20 => ?_)
    refine c_region ?_
    refine tp rfl (lv_move rfl) ?_
    by_cases h5 : ((N : Nat) : Int) > 0
    · -- yes
      refine tp rfl (lv_gtr rfl rfl (decide_eq_true h5)) ?_
      refine tp rfl (lv_move rfl) ?_
      refine t_guard rfl rfl ?_
      refine tp rfl (lv_move rfl) ?_
      refine t_guard rfl rfl ?_
      refine tp rfl (lv_move rfl) ?_
      refine t_guard rfl rfl ?_
      refine tp rfl (lv_len Try.underlying22 rfl rfl) ?_
      refine t_guard rfl rfl ?_
      by_cases h6 : ((i : Nat) : Int) < ((ys.length : Nat) : Int)
      · -- yes
        refine tp rfl (lv_lss rfl rfl (decide_eq_true h6)) ?_
        refine tp rfl (lv_pick_t rfl rfl) ?_
        refine tp rfl (lv_move rfl) ?_
        refine t_guard rfl rfl ?_
        refine tp rfl (lv_move rfl) ?_
        refine t_guard rfl rfl ?_
        by_cases h7 : ((i : Nat) : Int) < 300
        · -- yes
         refine tp rfl (lv_lss rfl rfl (decide_eq_true h7)) ?_
         refine tp rfl (lv_pick_t rfl rfl) ?_
         refine t_done ?_
         refine q_then_n (hK20 _ _ ?_)
         refine c_true rfl ?_
         refine c_skip ?_
         refine q_then_n (hK19 _ _ ?_)
         refine c_seq (fun K21 hK21 => ?_)
         refine c_block ?_
         refine c_seq (fun K22 hK22 => ?_)
         refine c_region ?_
         refine tp rfl (lv_assign rfl) ?_
         refine t_done ?_
         refine q_then_n (hK22 _ _ ?_)
         refine c_seq (fun K23 hK23 => ?_)
         refine c_seq (fun K24 hK24 => ?_)
         refine c_region ?_
         refine tp rfl (lv_assign rfl) ?_
         refine t_done ?_
         refine q_then_n (hK24 _ _ ?_)
         refine c_block ?_
         refine t_sat (fun _ h => sat_nilsl 31 2 h) ?_
         refine c_loop (γ := (Nat) × (Int) × (Option Addr) × (Nat)) (fun (j, m, bw, cw) => j ≤ N ∧ SlOk bw j ∧ j ≤ cw ∧ m0 ≤ m ∧ m ≤ 1024 ∧ (∀ u : Nat, u < j → cF ys i u ≤ m)) (fun (j, m, bw, cw) => [(0, (.int .i64 q)), (1, (.slice bx xs.length cx)), (2, (.slice bz ys.length cz)), (7, (.bool true)), (8, (.pointer (some ⟨p1, 0, none⟩))), (9, (.int .i64 ((N : Nat) : Int))), (10, (.pointer (some ⟨b2, 0, none⟩))), (11, (.pointer (some ⟨b3, 0, none⟩))), (12, (.int .i64 ((N : Nat) : Int))), (13, (.int .i64 m)), (14, (.int .i64 ((i : Nat) : Int))), (15, (.slice bw j cw)), (16, (.int .i64 ((j : Nat) : Int))), (29, (.bool false)), (37, (.bool false)), (67, (.bool true))]) (fun (j, m, bw, cw) => (SlV 31 2 (.slice bw j cw) j (pairs (wantL (cF ys i) j))) :: (Blk b3 (ints .i64 got) 26) :: (Blk b2 (ints .i64 (wL (wtF xs 100) N)) 26) :: (TurnsO p1 q ms a) :: R) (fun (j, m, bw, cw) => N - j) (0, m0, none, 0) ⟨by omega, slok_none, Nat.le_refl _, Int.le_refl _, hm1, fun u hu => by omega⟩ ⟨rfl, rfl, rfl, rfl, rfl, rfl, rfl, rfl, rfl, rfl, rfl, rfl, rfl, rfl, rfl, rfl, trivial⟩ (fun _ h => h) ?_
         rintro ⟨j, m, bw, cw⟩ K25 hF hK25
         try dsimp only at hF hK25 ⊢
         obtain ⟨hj, hbw, hwc, hmm, hm2, hmx⟩ := hF
         have hcj := cF_bd ys i j
         refine c_seq (fun K26 hK26 => ?_)
         refine c_seq (fun K27 hK27 => ?_)
         refine c_region ?_
         refine tp rfl (lv_move rfl) ?_
         refine tp rfl (lv_move rfl) ?_
         by_cases h8 : ((j : Nat) : Int) < ((N : Nat) : Int)
         · -- yes
          refine tp rfl (lv_lss rfl rfl (decide_eq_true h8)) ?_
          refine t_done ?_
          refine q_then_n (hK27 _ _ ?_)
          refine c_true rfl ?_
          refine c_skip ?_
          refine q_then_n (hK26 _ _ ?_)
          refine c_seq (fun K28 hK28 => ?_)
          refine c_block ?_
          refine c_seq (fun K29 hK29 => ?_)
          refine c_region ?_
          have hmod : (i + j) % ys.length < ys.length := Nat.mod_lt _ (by omega)
          refine tp rfl (lv_move rfl) ?_
          refine tp rfl (lv_move rfl) ?_
          refine tp rfl (lv_move rfl) ?_
          refine tp rfl (lv_add (c := ((i + j : Nat) : Int)) rfl rfl (wrT rfl (by omega) (by omega))) ?_
          refine tp rfl (lv_move rfl) ?_
          refine tp rfl (lv_len Try.underlying22 rfl rfl) ?_
          refine tp rfl (lv_rem (c := (((i + j) % ys.length : Nat) : Int)) rfl rfl (by omega) (rem_nat _ _)) ?_
          refine tp rfl (lv_indexAddr (k' := (i + j) % ys.length) Try.underlying22 Try.sizeOf3 rfl rfl okz (by omega) (by omega) (by omega)) ?_
          refine tp rfl (lv_load Try.isAgg3 rfl (Rd.gives (Rd.cons (Rd.cons (Rd.cons (Rd.cons hz)))) (ints_get hmod))) ?_
          refine tp rfl (lv_and (c := (ys).getD ((i + j) % ys.length) 0 % 1024) rfl rfl (and_3ff _)) ?_
          refine tp rfl (lv_add (c := cF ys i j) rfl rfl (wrT rfl (by omega) (by omega))) ?_
          refine tp rfl (lv_assign rfl) ?_
          refine t_done ?_
          refine q_then_n (hK29 _ _ ?_)
          refine c_seq (fun K30 hK30 => ?_)
          refine c_region ?_
          refine tp rfl (lv_move rfl) ?_
          refine tp rfl (lv_move rfl) ?_
          refine tp rfl (lv_max (c := max m (cF ys i j)) rfl rfl rfl) ?_
          refine tp rfl (lv_assign rfl) ?_
          refine t_done ?_
          refine q_then_n (hK30 _ _ ?_)
          refine c_region ?_
          refine tp rfl (lv_move rfl) ?_
          refine tp rfl (lv_move rfl) ?_
          refine tp rfl (lv_move rfl) ?_
          refine tp rfl (lv_build (cs := [(.int .i64 ((j : Nat) : Int)), (.int .i64 (cF ys i j))]) (pl := [(0, 1), (1, 1)]) Try.underlying31 Try.zeroValue31 (fun _ => by simp) rfl rfl) ?_
          refine tm rfl (mv_buildSlice (cs := [(.int .i64 ((j : Nat) : Int)), (.int .i64 (cF ys i j))]) Try.underlying29 Try.sizeOf31 Try.zeroValue31 (by decide) rfl rfl rfl rfl) ?_
          rintro _ _ ⟨bs9, cp10, hok11, hle12, rfl, rfl⟩
          refine t_f1 ?_
          refine tm rfl (mv_append (i := Try.t31) Try.underlying29 Try.type31 rfl rfl rfl (by decide) rfl rfl hok11 (by first | (simp; done) | (simp; omega)) (rd_sl (.tail _ (.head _))) (by simp [Value.oneCell']) (by rw [show Try.t31.bytes = 16 from rfl]; omega)) ?_
          rintro _ _ ⟨bs13, cp14, hok15, hle16, rfl, rfl⟩
          rw [show pairs (wantL (cF ys i) j) ++ [(.int .i64 ((j : Nat) : Int)), (.int .i64 (cF ys i j))] = pairs ((wantL (cF ys i) j) ++ [(((j : Nat) : Int), cF ys i j)]) from pairs_snoc _ _ _]
          refine tp rfl (lv_assign rfl) ?_
          refine t_done ?_
          refine q_in_n ?_
          refine q_then_n (hK28 _ _ ?_)
          refine c_region ?_
          refine tp rfl (lv_move rfl) ?_
          refine tp rfl (lv_add (c := ((j + 1 : Nat) : Int)) rfl rfl (wr_i64_succ (by omega))) ?_
          refine tp rfl (lv_assign rfl) ?_
          refine t_done ?_
          refine q_then_n ?_
          refine t_f1 ?_
          refine t_drop ?_
          rw [show (wantL (cF ys i) j) ++ [(((j : Nat) : Int), cF ys i j)] = wantL (cF ys i) (j + 1) from wantL_succ _ _]
          exact t_weak (by exact ⟨rfl, rfl, rfl, rfl, rfl, rfl, rfl, rfl, rfl, rfl, rfl, rfl, rfl, rfl, rfl, rfl, trivial⟩) ((hK25 (j + 1, max m (cF ys i j), bs13, cp14) ⟨by omega, hok15, hle16, by dsimp only; omega, by dsimp only; omega, fun u hu => by dsimp only at hu ⊢; rcases Nat.lt_succ_iff_lt_or_eq.1 hu with h | h; exact Int.le_trans (hmx u h) (by omega); subst h; omega⟩ (by dsimp only; omega)))
         · -- no
          refine tp rfl (lv_lss rfl rfl (decide_eq_false h8)) ?_
          refine t_done ?_
          refine q_then_n (hK27 _ _ ?_)
          refine c_false rfl ?_
          refine c_exit ?_
          refine q_then_x ?_
          refine q_then_x ?_
          refine q_in_x ?_
          refine q_then_n (hK23 _ _ ?_)
          refine c_seq (fun K28 hK28 => ?_)
          refine c_region ?_
          obtain rfl : N = j := by omega
          have hN0 : 0 < N := by omega
          have hf0 := hfair hN0
          have hcs : ∀ k, k < N → 1 ≤ cF ys i k ∧ cF ys i k ≤ 1048576 := fun k _ => by have := cF_bd ys i k; omega
          refine tp rfl (lv_move rfl) ?_
          refine tp rfl (lv_move rfl) ?_
          refine t_f3 ?_
          refine tc rfl (en_fn Try.call13 rfl) (take_okn (q := q) (ms := ms) (a := a) (wantL (cF ys i) N) (wantL_len _ _) (rd_sl (.head _)) hbw (by omega) (by rw [hf0.std.len]; omega) (hf0.std.any hcs hN0)) ?_
          rintro _ _ ⟨tm, ta, ht, rfl, rfl⟩
          refine tp rfl (lv_move rfl) ?_
          refine tp rfl (lv_extract rfl rfl) ?_
          refine tp rfl (lv_extract rfl rfl) ?_
          refine tp rfl (lv_assign rfl) ?_
          refine tp rfl (lv_assign rfl) ?_
          refine t_done ?_
          refine q_then_n (hK28 _ _ ?_)
          refine c_seq (fun K29 hK29 => ?_)
          refine c_seq (fun K30 hK30 => ?_)
          refine c_region ?_
          obtain ⟨hta, hid, hct, hf1⟩ := hf0.take (m := m) hmm (c := cF ys i) (fun k hk => ⟨(cF_bd ys i k).1, hmx k hk⟩) (by omega) hgn (by omega) ht
          rw [hid, hct]
          have hgt := hgb ta
          have hcbt := cF_bd ys i ta
          refine tp rfl (lv_move rfl) ?_
          refine tp rfl (lv_not (c := false) rfl rfl) ?_
          refine tp rfl (lv_move rfl) ?_
          refine t_guard rfl rfl ?_
          refine tp rfl (lv_move rfl) ?_
          refine t_guard rfl rfl ?_
          refine tp rfl (lv_lss rfl rfl (decide_eq_false (by omega))) ?_
          refine tp rfl (lv_pick_f rfl rfl) ?_
          refine tp rfl (lv_move rfl) ?_
          refine t_guard rfl rfl ?_
          refine tp rfl (lv_move rfl) ?_
          refine t_guard rfl rfl ?_
          refine tp rfl (lv_move rfl) ?_
          refine t_guard rfl rfl ?_
          refine tp rfl (lv_geq rfl rfl (decide_eq_false (by omega))) ?_
          refine tp rfl (lv_pick_f rfl rfl) ?_
          refine t_done ?_
          refine q_then_n (hK30 _ _ ?_)
          refine c_false rfl ?_
          refine c_skip ?_
          refine q_then_n (hK29 _ _ ?_)
          refine c_seq (fun K31 hK31 => ?_)
          refine c_draw (γ := Unit) (n := 12) Try.mixed rfl rfl (fun _ S => True) (fun _ => [(0, 112, (.int .i64 ((ta : Nat) : Int))), (1, 113, (.int .i64 ((ta : Nat) : Int))), (2, 114, (.pointer (some ⟨b3, ta, none⟩))), (3, 115, (.int .i64 ((got).getD ta 0))), (4, 116, (.slice bw N cw)), (5, 117, (.int .i64 ((ta : Nat) : Int))), (6, 118, (.pointer (some (ad bw (ta * 2))))), (7, 119, (.pointer (some (ad bw (ta * 2 + 1))))), (8, 120, (.int .i64 (cF ys i ta))), (9, 121, (.int .i64 (((got).getD ta 0) + (cF ys i ta)))), (10, 122, (.pointer (some ⟨b3, ta, none⟩)))]) (fun _ S => (TurnsO p1 q (setC tm ta ((tm.getD ta M3.z).c - cF ys i ta)) ta) :: (SlV 31 2 (.slice bw N cw) N (pairs (wantL (cF ys i) N))) :: (bif S 11 then (Blk b3 (ints .i64 ((got).set ta (((got).getD ta 0) + (cF ys i ta)))) 26) else (Blk b3 (ints .i64 got) 26)) :: (Blk b2 (ints .i64 (wL (wtF xs 100) N)) 26) :: R) (()) trivial (fun _ h => h) (fun _ _ h => h) ?_ ?_
          · -- steps
           refine ⟨?_, ?_, ?_, ?_, ?_, ?_, ?_, ?_, ?_, ?_, ?_, ?_, trivial⟩
           · -- 0
            rintro _ S hF hS D hp K hK
            try dsimp only at hF ⊢
            refine d_need (small := [(18, (.int .i64 ((ta : Nat) : Int)))]) ⟨look_b rfl rfl, trivial⟩ ?_
            refine tp rfl (lv_move rfl) ?_
            exact d_closes ⟨look_b rfl rfl, trivial⟩ 0 rfl rfl rfl hS (AgreeR.refl _) (t_sat (fun _ h => h) (hK () trivial))
           · -- 1
            rintro _ S hF hS D hp K hK
            try dsimp only at hF ⊢
            refine d_need (small := [(18, (.int .i64 ((ta : Nat) : Int)))]) ⟨look_b rfl rfl, trivial⟩ ?_
            refine tp rfl (lv_move rfl) ?_
            exact d_closes ⟨look_b rfl rfl, trivial⟩ 1 rfl rfl rfl hS (AgreeR.refl _) (t_sat (fun _ h => h) (hK () trivial))
           · -- 2
            rintro _ S hF hS D hp K hK
            try dsimp only at hF ⊢
            have s1 := hp 1 rfl
            refine d_need (small := [(11, (.pointer (some ⟨b3, 0, none⟩))), (113, (.int .i64 ((ta : Nat) : Int)))]) ⟨look_b rfl rfl, look_row rfl 1 rfl s1, trivial⟩ ?_
            refine tp rfl (lv_indexArr (k' := ta) Try.underlying26 Try.sizeOf3 rfl rfl (by omega) (by omega) (by omega)) ?_
            exact d_closes ⟨look_b rfl rfl, look_row rfl 1 rfl s1, trivial⟩ 2 rfl rfl rfl hS (AgreeR.refl _) (t_sat (fun _ h => h) (hK () trivial))
           · -- 3
            rintro _ S hF hS D hp K hK
            try dsimp only at hF ⊢
            have s2 := hp 2 rfl
            refine d_need (small := [(114, (.pointer (some ⟨b3, ta, none⟩)))]) ⟨look_row rfl 2 rfl s2, trivial⟩ ?_
            refine tp rfl (lv_load Try.isAgg3 rfl (gives_blk (mem_cF (nf hS D (k := 11) (i := 3) rfl) (.tail _ (.tail _ (.head _)))) (ints_get (by omega)))) ?_
            exact d_closes ⟨look_row rfl 2 rfl s2, trivial⟩ 3 rfl rfl rfl hS (AgreeR.refl _) (t_sat (fun _ h => h) (hK () trivial))
           · -- 4
            rintro _ S hF hS D hp K hK
            try dsimp only at hF ⊢
            refine d_need (small := [(15, (.slice bw N cw))]) ⟨look_b rfl rfl, trivial⟩ ?_
            refine tp rfl (lv_move rfl) ?_
            exact d_closes ⟨look_b rfl rfl, trivial⟩ 4 rfl rfl rfl hS (AgreeR.refl _) (t_sat (fun _ h => h) (hK () trivial))
           · -- 5
            rintro _ S hF hS D hp K hK
            try dsimp only at hF ⊢
            refine d_need (small := [(18, (.int .i64 ((ta : Nat) : Int)))]) ⟨look_b rfl rfl, trivial⟩ ?_
            refine tp rfl (lv_move rfl) ?_
            exact d_closes ⟨look_b rfl rfl, trivial⟩ 5 rfl rfl rfl hS (AgreeR.refl _) (t_sat (fun _ h => h) (hK () trivial))
           · -- 6
            rintro _ S hF hS D hp K hK
            try dsimp only at hF ⊢
            have s4 := hp 4 rfl
            have s5 := hp 5 rfl
            refine d_need (small := [(116, (.slice bw N cw)), (117, (.int .i64 ((ta : Nat) : Int)))]) ⟨look_row rfl 4 rfl s4, look_row rfl 5 rfl s5, trivial⟩ ?_
            refine tp rfl (lv_indexAddr (k' := ta * 2) Try.underlying29 Try.sizeOf31 rfl rfl hbw (by omega) (by omega) (by omega)) ?_
            exact d_closes ⟨look_row rfl 4 rfl s4, look_row rfl 5 rfl s5, trivial⟩ 6 rfl rfl rfl hS (AgreeR.refl _) (t_sat (fun _ h => h) (hK () trivial))
           · -- 7
            rintro _ S hF hS D hp K hK
            try dsimp only at hF ⊢
            have s6 := hp 6 rfl
            refine d_need (small := [(118, (.pointer (some (ad bw (ta * 2)))))]) ⟨look_row rfl 6 rfl s6, trivial⟩ ?_
            refine tp rfl (lv_fieldAddr_ad (o' := ta * 2 + 1) Try.underlying31 rfl Try.sizeOf3 rfl rfl) ?_
            exact d_closes ⟨look_row rfl 6 rfl s6, trivial⟩ 7 rfl rfl rfl hS (AgreeR.refl _) (t_sat (fun _ h => h) (hK () trivial))
           · -- 8
            rintro _ S hF hS D hp K hK
            try dsimp only at hF ⊢
            have s7 := hp 7 rfl
            refine d_need (small := [(119, (.pointer (some (ad bw (ta * 2 + 1)))))]) ⟨look_row rfl 7 rfl s7, trivial⟩ ?_
            refine tp rfl (lv_load Try.isAgg3 rfl (gives_as (by rw [wantL_get (by omega)]) (gives_sl (.tail _ (.head _)) (pairs_get1 (by rw [wantL_len]; omega))))) ?_
            exact d_closes ⟨look_row rfl 7 rfl s7, trivial⟩ 8 rfl rfl rfl hS (AgreeR.refl _) (t_sat (fun _ h => h) (hK () trivial))
           · -- 9
            rintro _ S hF hS D hp K hK
            try dsimp only at hF ⊢
            have s3 := hp 3 rfl
            have s8 := hp 8 rfl
            refine d_need (small := [(115, (.int .i64 ((got).getD ta 0))), (120, (.int .i64 (cF ys i ta)))]) ⟨look_row rfl 3 rfl s3, look_row rfl 8 rfl s8, trivial⟩ ?_
            refine tp rfl (lv_add (c := ((got).getD ta 0) + (cF ys i ta)) rfl rfl (wr_i64 (by omega) (by omega))) ?_
            exact d_closes ⟨look_row rfl 3 rfl s3, look_row rfl 8 rfl s8, trivial⟩ 9 rfl rfl rfl hS (AgreeR.refl _) (t_sat (fun _ h => h) (hK () trivial))
           · -- 10
            rintro _ S hF hS D hp K hK
            try dsimp only at hF ⊢
            have s0 := hp 0 rfl
            refine d_need (small := [(11, (.pointer (some ⟨b3, 0, none⟩))), (112, (.int .i64 ((ta : Nat) : Int)))]) ⟨look_b rfl rfl, look_row rfl 0 rfl s0, trivial⟩ ?_
            refine tp rfl (lv_indexArr (k' := ta) Try.underlying26 Try.sizeOf3 rfl rfl (by omega) (by omega) (by omega)) ?_
            exact d_closes ⟨look_b rfl rfl, look_row rfl 0 rfl s0, trivial⟩ 10 rfl rfl rfl hS (AgreeR.refl _) (t_sat (fun _ h => h) (hK () trivial))
           · -- 11
            rintro _ S hF hS D hp K hK
            try dsimp only at hF ⊢
            have s9 := hp 9 rfl
            have s10 := hp 10 rfl
            refine d_need (small := [(121, (.int .i64 (((got).getD ta 0) + (cF ys i ta)))), (122, (.pointer (some ⟨b3, ta, none⟩)))]) ⟨look_row rfl 9 rfl s9, look_row rfl 10 rfl s10, trivial⟩ ?_
            refine t_f2 ?_
            refine t_cF hS ?_
            refine ts (sv_blk Try.sizeOf3 rfl rfl rfl (by rw [ints_length]; omega) ints_set) ?_
            refine t_f2 ?_
            refine t_f2 ?_
            exact d_closes0 ⟨look_row rfl 9 rfl s9, look_row rfl 10 rfl s10, trivial⟩ rfl (t_sat (fun _ h => h) (hK () trivial))
          · -- behind
           rintro _ hF
           try dsimp only at hF ⊢
           refine t_weak (E' := [(0, (.int .i64 q)), (1, (.slice bx xs.length cx)), (2, (.slice bz ys.length cz)), (7, (.bool true)), (8, (.pointer (some ⟨p1, 0, none⟩))), (9, (.int .i64 ((N : Nat) : Int))), (10, (.pointer (some ⟨b2, 0, none⟩))), (11, (.pointer (some ⟨b3, 0, none⟩))), (12, (.int .i64 ((N : Nat) : Int))), (13, (.int .i64 m)), (14, (.int .i64 ((i : Nat) : Int))), (15, (.slice bw N cw)), (16, (.int .i64 ((N : Nat) : Int))), (18, (.int .i64 ((ta : Nat) : Int))), (19, (.bool true)), (29, (.bool false)), (37, (.bool false)), (67, (.bool true)), (72, (.bool false)), (111, (.bool false))]) ⟨rfl, rfl, rfl, rfl, rfl, rfl, rfl, rfl, rfl, rfl, rfl, rfl, rfl, rfl, rfl, rfl, rfl, rfl, rfl, rfl, trivial⟩ ?_
           refine q_then_n (hK31 _ _ ?_)
           refine c_seq (fun K32 hK32 => ?_)
           refine c_region ?_
           have hg2b : ∀ x, 0 ≤ ((got).set ta (((got).getD ta 0) + (cF ys i ta))).getD x 0 ∧ ((got).set ta (((got).getD ta 0) + (cF ys i ta))).getD x 0 ≤ 1024 * ((i + 1 : Nat) : Int) := set_bd hgb (by omega) (by omega) (by omega)
           have hg2l : ((got).set ta (((got).getD ta 0) + (cF ys i ta))).length = 10 := by rw [List.length_set]; exact hgl
           obtain ⟨g2, hg2⟩ : ∃ x, (got).set ta (((got).getD ta 0) + (cF ys i ta)) = x := ⟨_, rfl⟩
           rw [hg2] at hf1 hg2b hg2l ⊢
           obtain ⟨m2, hm2⟩ : ∃ x, setC tm ta ((tm.getD ta M3.z).c - cF ys i ta) = x := ⟨_, rfl⟩
           rw [hm2] at hf1 ⊢
           refine tp rfl (lv_assign rfl) ?_
           refine t_done ?_
           refine q_then_n (hK32 _ _ ?_)
           refine c_block ?_
           refine c_loop (γ := (Nat)) (fun (x : Nat) => x ≤ N) (fun (x : Nat) => [(0, (.int .i64 q)), (1, (.slice bx xs.length cx)), (2, (.slice bz ys.length cz)), (7, (.bool true)), (8, (.pointer (some ⟨p1, 0, none⟩))), (9, (.int .i64 ((N : Nat) : Int))), (10, (.pointer (some ⟨b2, 0, none⟩))), (11, (.pointer (some ⟨b3, 0, none⟩))), (12, (.int .i64 ((N : Nat) : Int))), (13, (.int .i64 m)), (14, (.int .i64 ((i : Nat) : Int))), (15, (.slice bw N cw)), (16, (.int .i64 ((N : Nat) : Int))), (18, (.int .i64 ((ta : Nat) : Int))), (19, (.bool true)), (20, (.int .i64 ((x : Nat) : Int))), (29, (.bool false)), (37, (.bool false)), (67, (.bool true)), (72, (.bool false)), (111, (.bool false))]) (fun (x : Nat) => (TurnsO p1 q m2 ta) :: (SlV 31 2 (.slice bw N cw) N (pairs (wantL (cF ys i) N))) :: (Blk b3 (ints .i64 g2) 26) :: (Blk b2 (ints .i64 (wL (wtF xs 100) N)) 26) :: R) (fun (x : Nat) => N - x) (0) (by omega) ⟨rfl, rfl, rfl, rfl, rfl, rfl, rfl, rfl, rfl, rfl, rfl, rfl, rfl, rfl, rfl, rfl, rfl, rfl, rfl, rfl, rfl, trivial⟩ (fun _ h => h) ?_
           rintro x K33 hF hK33
           try dsimp only at hF hK33 ⊢
           refine c_seq (fun K34 hK34 => ?_)
           refine c_seq (fun K35 hK35 => ?_)
           refine c_region ?_
           refine tp rfl (lv_move rfl) ?_
           refine tp rfl (lv_move rfl) ?_
           by_cases h17 : ((x : Nat) : Int) < ((N : Nat) : Int)
           · -- yes
            refine tp rfl (lv_lss rfl rfl (decide_eq_true h17)) ?_
            refine t_done ?_
            refine q_then_n (hK35 _ _ ?_)
            refine c_true rfl ?_
            refine c_skip ?_
            refine q_then_n (hK34 _ _ ?_)
            refine c_seq (fun K36 hK36 => ?_)
            refine c_block ?_
            refine c_seq (fun K37 hK37 => ?_)
            refine c_region ?_
            refine tp rfl (lv_assign rfl) ?_
            refine t_done ?_
            refine q_then_n (hK37 _ _ ?_)
            refine c_block ?_
            refine c_loop (γ := (Nat)) (fun (y : Nat) => y ≤ N) (fun (y : Nat) => [(0, (.int .i64 q)), (1, (.slice bx xs.length cx)), (2, (.slice bz ys.length cz)), (7, (.bool true)), (8, (.pointer (some ⟨p1, 0, none⟩))), (9, (.int .i64 ((N : Nat) : Int))), (10, (.pointer (some ⟨b2, 0, none⟩))), (11, (.pointer (some ⟨b3, 0, none⟩))), (12, (.int .i64 ((N : Nat) : Int))), (13, (.int .i64 m)), (14, (.int .i64 ((i : Nat) : Int))), (15, (.slice bw N cw)), (16, (.int .i64 ((N : Nat) : Int))), (18, (.int .i64 ((ta : Nat) : Int))), (19, (.bool true)), (20, (.int .i64 ((x : Nat) : Int))), (21, (.int .i64 ((y : Nat) : Int))), (29, (.bool false)), (37, (.bool false)), (67, (.bool true)), (72, (.bool false)), (111, (.bool false)), (125, (.bool true))]) (fun (y : Nat) => (TurnsO p1 q m2 ta) :: (SlV 31 2 (.slice bw N cw) N (pairs (wantL (cF ys i) N))) :: (Blk b3 (ints .i64 g2) 26) :: (Blk b2 (ints .i64 (wL (wtF xs 100) N)) 26) :: R) (fun (y : Nat) => N - y) (0) (by omega) ⟨rfl, rfl, rfl, rfl, rfl, rfl, rfl, rfl, rfl, rfl, rfl, rfl, rfl, rfl, rfl, rfl, rfl, rfl, rfl, rfl, rfl, rfl, rfl, trivial⟩ (fun _ h => h) ?_
            rintro y K38 hF hK38
            try dsimp only at hF hK38 ⊢
            refine c_seq (fun K39 hK39 => ?_)
            refine c_seq (fun K40 hK40 => ?_)
            refine c_region ?_
            refine tp rfl (lv_move rfl) ?_
            refine tp rfl (lv_move rfl) ?_
            by_cases h18 : ((y : Nat) : Int) < ((N : Nat) : Int)
            · -- yes
             refine tp rfl (lv_lss rfl rfl (decide_eq_true h18)) ?_
             refine t_done ?_
             refine q_then_n (hK40 _ _ ?_)
             refine c_true rfl ?_
             refine c_skip ?_
             refine q_then_n (hK39 _ _ ?_)
             refine c_seq (fun K41 hK41 => ?_)
             refine c_block ?_
             refine c_seq (fun K42 hK42 => ?_)
             have hok := hf1.ok (by omega) (by omega) (fun j _ => (wtF_bd xs (show (0 : Int) < 100 by omega) j).1) (show x < N by omega) (show y < N by omega)
             have hx1 := wtF_bd xs (show (0 : Int) < 100 by omega) x
             have hy1 := wtF_bd xs (show (0 : Int) < 100 by omega) y
             have hgx : 0 ≤ g2.getD x 0 ∧ g2.getD x 0 ≤ 307200 := by have := hg2b x; omega
             have hgy : 0 ≤ g2.getD y 0 ∧ g2.getD y 0 ≤ 307200 := by have := hg2b y; omega
             have hp1 := mul_bd hgx (show 0 ≤ wtF xs 100 y ∧ wtF xs 100 y ≤ 100 by omega)
             have hp2 := mul_bd hgy (show 0 ≤ wtF xs 100 x ∧ wtF xs 100 x ≤ 100 by omega)
             have hp3 := mul_bd (show 0 ≤ 2 * q + m ∧ 2 * q + m ≤ 4000 by omega) (show 0 ≤ wtF xs 100 x ∧ wtF xs 100 x ≤ 100 by omega)
             have hp4 := mul_bd hp3 (show 0 ≤ wtF xs 100 y ∧ wtF xs 100 y ≤ 100 by omega)
             refine c_draw (γ := Unit) (n := 28) Try.mixed rfl rfl (fun _ S => True) (fun _ => [(0, 133, (.int .i64 ((x : Nat) : Int))), (1, 134, (.pointer (some ⟨b3, x, none⟩))), (2, 135, (.int .i64 ((g2).getD x 0))), (3, 136, (.int .i64 ((y : Nat) : Int))), (4, 137, (.pointer (some ⟨b2, y, none⟩))), (5, 138, (.int .i64 (wtF xs 100 y))), (6, 139, (.int .i64 (((g2).getD x 0) * (wtF xs 100 y)))), (7, 140, (.int .i64 ((y : Nat) : Int))), (8, 141, (.pointer (some ⟨b3, y, none⟩))), (9, 142, (.int .i64 ((g2).getD y 0))), (10, 143, (.int .i64 ((x : Nat) : Int))), (11, 144, (.pointer (some ⟨b2, x, none⟩))), (12, 145, (.int .i64 (wtF xs 100 x))), (13, 146, (.int .i64 (((g2).getD y 0) * (wtF xs 100 x)))), (14, 147, (.int .i64 ((((g2).getD x 0) * (wtF xs 100 y)) - (((g2).getD y 0) * (wtF xs 100 x))))), (15, 148, (.int .i64 q)), (16, 149, (.int .i64 (2 * q))), (17, 150, (.int .i64 m)), (18, 151, (.int .i64 ((2 * q) + m))), (19, 152, (.int .i64 ((x : Nat) : Int))), (20, 153, (.pointer (some ⟨b2, x, none⟩))), (21, 154, (.int .i64 (wtF xs 100 x))), (22, 155, (.int .i64 (((2 * q) + m) * (wtF xs 100 x)))), (23, 156, (.int .i64 ((y : Nat) : Int))), (24, 157, (.pointer (some ⟨b2, y, none⟩))), (25, 158, (.int .i64 (wtF xs 100 y))), (26, 159, (.int .i64 ((((2 * q) + m) * (wtF xs 100 x)) * (wtF xs 100 y)))), (27, 160, (.bool false))]) (fun _ S => (TurnsO p1 q m2 ta) :: (SlV 31 2 (.slice bw N cw) N (pairs (wantL (cF ys i) N))) :: (Blk b3 (ints .i64 g2) 26) :: (Blk b2 (ints .i64 (wL (wtF xs 100) N)) 26) :: R) (()) trivial (fun _ h => h) (fun _ _ h => h) ?_ ?_
             · -- steps
              refine ⟨?_, ?_, ?_, ?_, ?_, ?_, ?_, ?_, ?_, ?_, ?_, ?_, ?_, ?_, ?_, ?_, ?_, ?_, ?_, ?_, ?_, ?_, ?_, ?_, ?_, ?_, ?_, ?_, trivial⟩
              · -- 0
               rintro _ S hF hS D hp K hK
               try dsimp only at hF ⊢
               refine d_need (small := [(20, (.int .i64 ((x : Nat) : Int)))]) ⟨look_b rfl rfl, trivial⟩ ?_
               refine tp rfl (lv_move rfl) ?_
               exact d_closes ⟨look_b rfl rfl, trivial⟩ 0 rfl rfl rfl hS (AgreeR.refl _) (t_sat (fun _ h => h) (hK () trivial))
              · -- 1
               rintro _ S hF hS D hp K hK
               try dsimp only at hF ⊢
               have s0 := hp 0 rfl
               refine d_need (small := [(11, (.pointer (some ⟨b3, 0, none⟩))), (133, (.int .i64 ((x : Nat) : Int)))]) ⟨look_b rfl rfl, look_row rfl 0 rfl s0, trivial⟩ ?_
               refine tp rfl (lv_indexArr (k' := x) Try.underlying26 Try.sizeOf3 rfl rfl (by omega) (by omega) (by omega)) ?_
               exact d_closes ⟨look_b rfl rfl, look_row rfl 0 rfl s0, trivial⟩ 1 rfl rfl rfl hS (AgreeR.refl _) (t_sat (fun _ h => h) (hK () trivial))
              · -- 2
               rintro _ S hF hS D hp K hK
               try dsimp only at hF ⊢
               have s1 := hp 1 rfl
               refine d_need (small := [(134, (.pointer (some ⟨b3, x, none⟩)))]) ⟨look_row rfl 1 rfl s1, trivial⟩ ?_
               refine tp rfl (lv_load Try.isAgg3 rfl (gives_blk (.tail _ (.tail _ (.head _))) (ints_get (by omega)))) ?_
               exact d_closes ⟨look_row rfl 1 rfl s1, trivial⟩ 2 rfl rfl rfl hS (AgreeR.refl _) (t_sat (fun _ h => h) (hK () trivial))
              · -- 3
               rintro _ S hF hS D hp K hK
               try dsimp only at hF ⊢
               refine d_need (small := [(21, (.int .i64 ((y : Nat) : Int)))]) ⟨look_b rfl rfl, trivial⟩ ?_
               refine tp rfl (lv_move rfl) ?_
               exact d_closes ⟨look_b rfl rfl, trivial⟩ 3 rfl rfl rfl hS (AgreeR.refl _) (t_sat (fun _ h => h) (hK () trivial))
              · -- 4
               rintro _ S hF hS D hp K hK
               try dsimp only at hF ⊢
               have s3 := hp 3 rfl
               refine d_need (small := [(10, (.pointer (some ⟨b2, 0, none⟩))), (136, (.int .i64 ((y : Nat) : Int)))]) ⟨look_b rfl rfl, look_row rfl 3 rfl s3, trivial⟩ ?_
               refine tp rfl (lv_indexArr (k' := y) Try.underlying26 Try.sizeOf3 rfl rfl (by omega) (by omega) (by omega)) ?_
               exact d_closes ⟨look_b rfl rfl, look_row rfl 3 rfl s3, trivial⟩ 4 rfl rfl rfl hS (AgreeR.refl _) (t_sat (fun _ h => h) (hK () trivial))
              · -- 5
               rintro _ S hF hS D hp K hK
               try dsimp only at hF ⊢
               have s4 := hp 4 rfl
               refine d_need (small := [(137, (.pointer (some ⟨b2, y, none⟩)))]) ⟨look_row rfl 4 rfl s4, trivial⟩ ?_
               refine tp rfl (lv_load Try.isAgg3 rfl (gives_as (by rw [wL_get (by omega) (by omega)]) (gives_blk (.tail _ (.tail _ (.tail _ (.head _)))) (ints_get (by rw [wL_len]; omega))))) ?_
               exact d_closes ⟨look_row rfl 4 rfl s4, trivial⟩ 5 rfl rfl rfl hS (AgreeR.refl _) (t_sat (fun _ h => h) (hK () trivial))
              · -- 6
               rintro _ S hF hS D hp K hK
               try dsimp only at hF ⊢
               have s2 := hp 2 rfl
               have s5 := hp 5 rfl
               refine d_need (small := [(135, (.int .i64 ((g2).getD x 0))), (138, (.int .i64 (wtF xs 100 y)))]) ⟨look_row rfl 2 rfl s2, look_row rfl 5 rfl s5, trivial⟩ ?_
               refine tp rfl (lv_mul (c := ((g2).getD x 0) * (wtF xs 100 y)) rfl rfl (wr_i64 (by omega) (by omega))) ?_
               exact d_closes ⟨look_row rfl 2 rfl s2, look_row rfl 5 rfl s5, trivial⟩ 6 rfl rfl rfl hS (AgreeR.refl _) (t_sat (fun _ h => h) (hK () trivial))
              · -- 7
               rintro _ S hF hS D hp K hK
               try dsimp only at hF ⊢
               refine d_need (small := [(21, (.int .i64 ((y : Nat) : Int)))]) ⟨look_b rfl rfl, trivial⟩ ?_
               refine tp rfl (lv_move rfl) ?_
               exact d_closes ⟨look_b rfl rfl, trivial⟩ 7 rfl rfl rfl hS (AgreeR.refl _) (t_sat (fun _ h => h) (hK () trivial))
              · -- 8
               rintro _ S hF hS D hp K hK
               try dsimp only at hF ⊢
               have s7 := hp 7 rfl
               refine d_need (small := [(11, (.pointer (some ⟨b3, 0, none⟩))), (140, (.int .i64 ((y : Nat) : Int)))]) ⟨look_b rfl rfl, look_row rfl 7 rfl s7, trivial⟩ ?_
               refine tp rfl (lv_indexArr (k' := y) Try.underlying26 Try.sizeOf3 rfl rfl (by omega) (by omega) (by omega)) ?_
               exact d_closes ⟨look_b rfl rfl, look_row rfl 7 rfl s7, trivial⟩ 8 rfl rfl rfl hS (AgreeR.refl _) (t_sat (fun _ h => h) (hK () trivial))
              · -- 9
               rintro _ S hF hS D hp K hK
               try dsimp only at hF ⊢
               have s8 := hp 8 rfl
               refine d_need (small := [(141, (.pointer (some ⟨b3, y, none⟩)))]) ⟨look_row rfl 8 rfl s8, trivial⟩ ?_
               refine tp rfl (lv_load Try.isAgg3 rfl (gives_blk (.tail _ (.tail _ (.head _))) (ints_get (by omega)))) ?_
               exact d_closes ⟨look_row rfl 8 rfl s8, trivial⟩ 9 rfl rfl rfl hS (AgreeR.refl _) (t_sat (fun _ h => h) (hK () trivial))
              · -- 10
               rintro _ S hF hS D hp K hK
               try dsimp only at hF ⊢
               refine d_need (small := [(20, (.int .i64 ((x : Nat) : Int)))]) ⟨look_b rfl rfl, trivial⟩ ?_
               refine tp rfl (lv_move rfl) ?_
               exact d_closes ⟨look_b rfl rfl, trivial⟩ 10 rfl rfl rfl hS (AgreeR.refl _) (t_sat (fun _ h => h) (hK () trivial))
              · -- 11
               rintro _ S hF hS D hp K hK
               try dsimp only at hF ⊢
               have s10 := hp 10 rfl
               refine d_need (small := [(10, (.pointer (some ⟨b2, 0, none⟩))), (143, (.int .i64 ((x : Nat) : Int)))]) ⟨look_b rfl rfl, look_row rfl 10 rfl s10, trivial⟩ ?_
               refine tp rfl (lv_indexArr (k' := x) Try.underlying26 Try.sizeOf3 rfl rfl (by omega) (by omega) (by omega)) ?_
               exact d_closes ⟨look_b rfl rfl, look_row rfl 10 rfl s10, trivial⟩ 11 rfl rfl rfl hS (AgreeR.refl _) (t_sat (fun _ h => h) (hK () trivial))
              · -- 12
               rintro _ S hF hS D hp K hK
               try dsimp only at hF ⊢
               have s11 := hp 11 rfl
               refine d_need (small := [(144, (.pointer (some ⟨b2, x, none⟩)))]) ⟨look_row rfl 11 rfl s11, trivial⟩ ?_
               refine tp rfl (lv_load Try.isAgg3 rfl (gives_as (by rw [wL_get (by omega) (by omega)]) (gives_blk (.tail _ (.tail _ (.tail _ (.head _)))) (ints_get (by rw [wL_len]; omega))))) ?_
               exact d_closes ⟨look_row rfl 11 rfl s11, trivial⟩ 12 rfl rfl rfl hS (AgreeR.refl _) (t_sat (fun _ h => h) (hK () trivial))
              · -- 13
               rintro _ S hF hS D hp K hK
               try dsimp only at hF ⊢
               have s9 := hp 9 rfl
               have s12 := hp 12 rfl
               refine d_need (small := [(142, (.int .i64 ((g2).getD y 0))), (145, (.int .i64 (wtF xs 100 x)))]) ⟨look_row rfl 9 rfl s9, look_row rfl 12 rfl s12, trivial⟩ ?_
               refine tp rfl (lv_mul (c := ((g2).getD y 0) * (wtF xs 100 x)) rfl rfl (wr_i64 (by omega) (by omega))) ?_
               exact d_closes ⟨look_row rfl 9 rfl s9, look_row rfl 12 rfl s12, trivial⟩ 13 rfl rfl rfl hS (AgreeR.refl _) (t_sat (fun _ h => h) (hK () trivial))
              · -- 14
               rintro _ S hF hS D hp K hK
               try dsimp only at hF ⊢
               have s6 := hp 6 rfl
               have s13 := hp 13 rfl
               refine d_need (small := [(139, (.int .i64 (((g2).getD x 0) * (wtF xs 100 y)))), (146, (.int .i64 (((g2).getD y 0) * (wtF xs 100 x))))]) ⟨look_row rfl 6 rfl s6, look_row rfl 13 rfl s13, trivial⟩ ?_
               refine tp rfl (lv_sub (c := (((g2).getD x 0) * (wtF xs 100 y)) - (((g2).getD y 0) * (wtF xs 100 x))) rfl rfl (wr_i64 (by omega) (by omega))) ?_
               exact d_closes ⟨look_row rfl 6 rfl s6, look_row rfl 13 rfl s13, trivial⟩ 14 rfl rfl rfl hS (AgreeR.refl _) (t_sat (fun _ h => h) (hK () trivial))
              · -- 15
               rintro _ S hF hS D hp K hK
               try dsimp only at hF ⊢
               refine d_need (small := [(0, (.int .i64 q))]) ⟨look_b rfl rfl, trivial⟩ ?_
               refine tp rfl (lv_move rfl) ?_
               exact d_closes ⟨look_b rfl rfl, trivial⟩ 15 rfl rfl rfl hS (AgreeR.refl _) (t_sat (fun _ h => h) (hK () trivial))
              · -- 16
               rintro _ S hF hS D hp K hK
               try dsimp only at hF ⊢
               have s15 := hp 15 rfl
               refine d_need (small := [(148, (.int .i64 q))]) ⟨look_row rfl 15 rfl s15, trivial⟩ ?_
               refine tp rfl (lv_mul (c := 2 * q) rfl rfl (wr_i64 (by omega) (by omega))) ?_
               exact d_closes ⟨look_row rfl 15 rfl s15, trivial⟩ 16 rfl rfl rfl hS (AgreeR.refl _) (t_sat (fun _ h => h) (hK () trivial))
              · -- 17
               rintro _ S hF hS D hp K hK
               try dsimp only at hF ⊢
               refine d_need (small := [(13, (.int .i64 m))]) ⟨look_b rfl rfl, trivial⟩ ?_
               refine tp rfl (lv_move rfl) ?_
               exact d_closes ⟨look_b rfl rfl, trivial⟩ 17 rfl rfl rfl hS (AgreeR.refl _) (t_sat (fun _ h => h) (hK () trivial))
              · -- 18
               rintro _ S hF hS D hp K hK
               try dsimp only at hF ⊢
               have s16 := hp 16 rfl
               have s17 := hp 17 rfl
               refine d_need (small := [(149, (.int .i64 (2 * q))), (150, (.int .i64 m))]) ⟨look_row rfl 16 rfl s16, look_row rfl 17 rfl s17, trivial⟩ ?_
               refine tp rfl (lv_add (c := (2 * q) + m) rfl rfl (wr_i64 (by omega) (by omega))) ?_
               exact d_closes ⟨look_row rfl 16 rfl s16, look_row rfl 17 rfl s17, trivial⟩ 18 rfl rfl rfl hS (AgreeR.refl _) (t_sat (fun _ h => h) (hK () trivial))
              · -- 19
               rintro _ S hF hS D hp K hK
               try dsimp only at hF ⊢
               refine d_need (small := [(20, (.int .i64 ((x : Nat) : Int)))]) ⟨look_b rfl rfl, trivial⟩ ?_
               refine tp rfl (lv_move rfl) ?_
               exact d_closes ⟨look_b rfl rfl, trivial⟩ 19 rfl rfl rfl hS (AgreeR.refl _) (t_sat (fun _ h => h) (hK () trivial))
              · -- 20
               rintro _ S hF hS D hp K hK
               try dsimp only at hF ⊢
               have s19 := hp 19 rfl
               refine d_need (small := [(10, (.pointer (some ⟨b2, 0, none⟩))), (152, (.int .i64 ((x : Nat) : Int)))]) ⟨look_b rfl rfl, look_row rfl 19 rfl s19, trivial⟩ ?_
               refine tp rfl (lv_indexArr (k' := x) Try.underlying26 Try.sizeOf3 rfl rfl (by omega) (by omega) (by omega)) ?_
               exact d_closes ⟨look_b rfl rfl, look_row rfl 19 rfl s19, trivial⟩ 20 rfl rfl rfl hS (AgreeR.refl _) (t_sat (fun _ h => h) (hK () trivial))
              · -- 21
               rintro _ S hF hS D hp K hK
               try dsimp only at hF ⊢
               have s20 := hp 20 rfl
               refine d_need (small := [(153, (.pointer (some ⟨b2, x, none⟩)))]) ⟨look_row rfl 20 rfl s20, trivial⟩ ?_
               refine tp rfl (lv_load Try.isAgg3 rfl (gives_as (by rw [wL_get (by omega) (by omega)]) (gives_blk (.tail _ (.tail _ (.tail _ (.head _)))) (ints_get (by rw [wL_len]; omega))))) ?_
               exact d_closes ⟨look_row rfl 20 rfl s20, trivial⟩ 21 rfl rfl rfl hS (AgreeR.refl _) (t_sat (fun _ h => h) (hK () trivial))
              · -- 22
               rintro _ S hF hS D hp K hK
               try dsimp only at hF ⊢
               have s18 := hp 18 rfl
               have s21 := hp 21 rfl
               refine d_need (small := [(151, (.int .i64 ((2 * q) + m))), (154, (.int .i64 (wtF xs 100 x)))]) ⟨look_row rfl 18 rfl s18, look_row rfl 21 rfl s21, trivial⟩ ?_
               refine tp rfl (lv_mul (c := ((2 * q) + m) * (wtF xs 100 x)) rfl rfl (wr_i64 (by omega) (by omega))) ?_
               exact d_closes ⟨look_row rfl 18 rfl s18, look_row rfl 21 rfl s21, trivial⟩ 22 rfl rfl rfl hS (AgreeR.refl _) (t_sat (fun _ h => h) (hK () trivial))
              · -- 23
               rintro _ S hF hS D hp K hK
               try dsimp only at hF ⊢
               refine d_need (small := [(21, (.int .i64 ((y : Nat) : Int)))]) ⟨look_b rfl rfl, trivial⟩ ?_
               refine tp rfl (lv_move rfl) ?_
               exact d_closes ⟨look_b rfl rfl, trivial⟩ 23 rfl rfl rfl hS (AgreeR.refl _) (t_sat (fun _ h => h) (hK () trivial))
              · -- 24
               rintro _ S hF hS D hp K hK
               try dsimp only at hF ⊢
               have s23 := hp 23 rfl
               refine d_need (small := [(10, (.pointer (some ⟨b2, 0, none⟩))), (156, (.int .i64 ((y : Nat) : Int)))]) ⟨look_b rfl rfl, look_row rfl 23 rfl s23, trivial⟩ ?_
               refine tp rfl (lv_indexArr (k' := y) Try.underlying26 Try.sizeOf3 rfl rfl (by omega) (by omega) (by omega)) ?_
               exact d_closes ⟨look_b rfl rfl, look_row rfl 23 rfl s23, trivial⟩ 24 rfl rfl rfl hS (AgreeR.refl _) (t_sat (fun _ h => h) (hK () trivial))
              · -- 25
               rintro _ S hF hS D hp K hK
               try dsimp only at hF ⊢
               have s24 := hp 24 rfl
               refine d_need (small := [(157, (.pointer (some ⟨b2, y, none⟩)))]) ⟨look_row rfl 24 rfl s24, trivial⟩ ?_
               refine tp rfl (lv_load Try.isAgg3 rfl (gives_as (by rw [wL_get (by omega) (by omega)]) (gives_blk (.tail _ (.tail _ (.tail _ (.head _)))) (ints_get (by rw [wL_len]; omega))))) ?_
               exact d_closes ⟨look_row rfl 24 rfl s24, trivial⟩ 25 rfl rfl rfl hS (AgreeR.refl _) (t_sat (fun _ h => h) (hK () trivial))
              · -- 26
               rintro _ S hF hS D hp K hK
               try dsimp only at hF ⊢
               have s22 := hp 22 rfl
               have s25 := hp 25 rfl
               refine d_need (small := [(155, (.int .i64 (((2 * q) + m) * (wtF xs 100 x)))), (158, (.int .i64 (wtF xs 100 y)))]) ⟨look_row rfl 22 rfl s22, look_row rfl 25 rfl s25, trivial⟩ ?_
               refine tp rfl (lv_mul (c := (((2 * q) + m) * (wtF xs 100 x)) * (wtF xs 100 y)) rfl rfl (wr_i64 (by omega) (by omega))) ?_
               exact d_closes ⟨look_row rfl 22 rfl s22, look_row rfl 25 rfl s25, trivial⟩ 26 rfl rfl rfl hS (AgreeR.refl _) (t_sat (fun _ h => h) (hK () trivial))
              · -- 27
               rintro _ S hF hS D hp K hK
               try dsimp only at hF ⊢
               have s14 := hp 14 rfl
               have s26 := hp 26 rfl
               refine d_need (small := [(147, (.int .i64 ((((g2).getD x 0) * (wtF xs 100 y)) - (((g2).getD y 0) * (wtF xs 100 x))))), (159, (.int .i64 ((((2 * q) + m) * (wtF xs 100 x)) * (wtF xs 100 y))))]) ⟨look_row rfl 14 rfl s14, look_row rfl 26 rfl s26, trivial⟩ ?_
               refine tp rfl (lv_gtr rfl rfl (decide_eq_false hok)) ?_
               exact d_closes ⟨look_row rfl 14 rfl s14, look_row rfl 26 rfl s26, trivial⟩ 27 rfl rfl rfl hS (AgreeR.refl _) (t_sat (fun _ h => h) (hK () trivial))
             · -- behind
              rintro _ hF
              try dsimp only at hF ⊢
              refine t_weak (E' := [(0, (.int .i64 q)), (1, (.slice bx xs.length cx)), (2, (.slice bz ys.length cz)), (7, (.bool true)), (8, (.pointer (some ⟨p1, 0, none⟩))), (9, (.int .i64 ((N : Nat) : Int))), (10, (.pointer (some ⟨b2, 0, none⟩))), (11, (.pointer (some ⟨b3, 0, none⟩))), (12, (.int .i64 ((N : Nat) : Int))), (13, (.int .i64 m)), (14, (.int .i64 ((i : Nat) : Int))), (15, (.slice bw N cw)), (16, (.int .i64 ((N : Nat) : Int))), (18, (.int .i64 ((ta : Nat) : Int))), (19, (.bool true)), (20, (.int .i64 ((x : Nat) : Int))), (21, (.int .i64 ((y : Nat) : Int))), (29, (.bool false)), (37, (.bool false)), (67, (.bool true)), (72, (.bool false)), (111, (.bool false)), (125, (.bool true)), (130, (.bool true)), (160, (.bool false))]) ⟨rfl, rfl, rfl, rfl, rfl, rfl, rfl, rfl, rfl, rfl, rfl, rfl, rfl, rfl, rfl, rfl, rfl, rfl, rfl, rfl, rfl, rfl, rfl, rfl, rfl, trivial⟩ ?_
              refine q_then_n (hK42 _ _ ?_)
              refine c_false rfl ?_
              refine c_skip ?_
              refine q_in_n ?_
              refine q_then_n (hK41 _ _ ?_)
              refine c_region ?_
              refine tp rfl (lv_move rfl) ?_
              refine tp rfl (lv_add (c := ((y + 1 : Nat) : Int)) rfl rfl (wr_i64_succ (by omega))) ?_
              refine tp rfl (lv_assign rfl) ?_
              refine t_done ?_
              refine q_then_n ?_
              exact t_weak (by exact ⟨rfl, rfl, rfl, rfl, rfl, rfl, rfl, rfl, rfl, rfl, rfl, rfl, rfl, rfl, rfl, rfl, rfl, rfl, rfl, rfl, rfl, rfl, rfl, trivial⟩) ((hK38 (y + 1) (by omega) (by omega)))
            · -- no
             refine tp rfl (lv_lss rfl rfl (decide_eq_false h18)) ?_
             refine t_done ?_
             refine q_then_n (hK40 _ _ ?_)
             refine c_false rfl ?_
             refine c_exit ?_
             refine q_then_x ?_
             refine q_then_x ?_
             refine q_in_x ?_
             refine q_in_n ?_
             refine q_then_n (hK36 _ _ ?_)
             refine c_region ?_
             refine tp rfl (lv_move rfl) ?_
             refine tp rfl (lv_add (c := ((x + 1 : Nat) : Int)) rfl rfl (wr_i64_succ (by omega))) ?_
             refine tp rfl (lv_assign rfl) ?_
             refine t_done ?_
             refine q_then_n ?_
             exact t_weak (by exact ⟨rfl, rfl, rfl, rfl, rfl, rfl, rfl, rfl, rfl, rfl, rfl, rfl, rfl, rfl, rfl, rfl, rfl, rfl, rfl, rfl, rfl, trivial⟩) ((hK33 (x + 1) (by omega) (by omega)))
           · -- no
            refine tp rfl (lv_lss rfl rfl (decide_eq_false h17)) ?_
            refine t_done ?_
            refine q_then_n (hK35 _ _ ?_)
            refine c_false rfl ?_
            refine c_exit ?_
            refine q_then_x ?_
            refine q_then_x ?_
            refine q_in_x ?_
            refine q_in_n ?_
            refine q_then_n (hK21 _ _ ?_)
            refine c_region ?_
            refine tp rfl (lv_move rfl) ?_
            refine tp rfl (lv_add (c := ((i + 1 : Nat) : Int)) rfl rfl (wr_i64_succ (by omega))) ?_
            refine tp rfl (lv_assign rfl) ?_
            refine t_done ?_
            refine q_then_n ?_
            refine t_f1 ?_
            refine t_drop ?_
            refine t_f2 ?_
            refine t_f2 ?_
            exact t_weak (by exact ⟨rfl, rfl, rfl, rfl, rfl, rfl, rfl, rfl, rfl, rfl, rfl, rfl, rfl, trivial⟩) ((hK18 (i + 1, m, g2, m2, ta) ⟨by omega, by omega, by dsimp only; omega, by dsimp only; omega, hg2l, hg2b, fun _ => hf1⟩ (by dsimp only; omega)))
        · -- no
         refine tp rfl (lv_lss rfl rfl (decide_eq_false h7)) ?_
         refine tp rfl (lv_pick_t rfl rfl) ?_
         refine t_done ?_
         refine q_then_n (hK20 _ _ ?_)
         refine c_false rfl ?_
         refine c_exit ?_
         refine q_then_x ?_
         refine q_then_x ?_
         refine q_in_x ?_
         refine q_then_n (hK16 _ _ ?_)
         refine c_seq (fun K21 hK21 => ?_)
         refine c_region ?_
         refine tp rfl (lv_move rfl) ?_
         refine tp rfl (lv_assign rfl) ?_
         refine t_done ?_
         refine q_then_n (hK21 _ _ ?_)
         refine c_ret ?_
         refine t_drop ?_
         refine t_drop ?_
         refine t_drop ?_
         refine q_ret rfl rfl ?_
         exact ⟨rfl, rfl⟩
      · -- no
        refine tp rfl (lv_lss rfl rfl (decide_eq_false h6)) ?_
        refine tp rfl (lv_pick_t rfl rfl) ?_
        refine tp rfl (lv_move rfl) ?_
        refine t_skip rfl rfl rfl ?_
        refine t_skip rfl rfl rfl ?_
        refine tp rfl (lv_pick_f rfl rfl) ?_
        refine t_done ?_
        refine q_then_n (hK20 _ _ ?_)
        refine c_false rfl ?_
        refine c_exit ?_
        refine q_then_x ?_
        refine q_then_x ?_
        refine q_in_x ?_
        refine q_then_n (hK16 _ _ ?_)
        refine c_seq (fun K21 hK21 => ?_)
        refine c_region ?_
        refine tp rfl (lv_move rfl) ?_
        refine tp rfl (lv_assign rfl) ?_
        refine t_done ?_
        refine q_then_n (hK21 _ _ ?_)
        refine c_ret ?_
        refine t_drop ?_
        refine t_drop ?_
        refine t_drop ?_
        refine q_ret rfl rfl ?_
        exact ⟨rfl, rfl⟩
    · -- no
      refine tp rfl (lv_gtr rfl rfl (decide_eq_false h5)) ?_
      refine tp rfl (lv_move rfl) ?_
      refine t_skip rfl rfl rfl ?_
      refine t_skip rfl rfl rfl ?_
      refine t_skip rfl rfl rfl ?_
      refine t_skip rfl rfl rfl ?_
      refine tp rfl (lv_pick_f rfl rfl) ?_
      refine tp rfl (lv_move rfl) ?_
      refine t_skip rfl rfl rfl ?_
      refine t_skip rfl rfl rfl ?_
      refine tp rfl (lv_pick_f rfl rfl) ?_
      refine t_done ?_
      refine q_then_n (hK20 _ _ ?_)
      refine c_false rfl ?_
      refine c_exit ?_
      refine q_then_x ?_
      refine q_then_x ?_
      refine q_in_x ?_
      refine q_then_n (hK16 _ _ ?_)
      refine c_seq (fun K21 hK21 => ?_)
      refine c_region ?_
      refine tp rfl (lv_move rfl) ?_
      refine tp rfl (lv_assign rfl) ?_
      refine t_done ?_
      refine q_then_n (hK21 _ _ ?_)
      refine c_ret ?_
      refine t_drop ?_
      refine t_drop ?_
      refine t_drop ?_
      refine q_ret rfl rfl ?_
      exact ⟨rfl, rfl⟩
end Go.Proofs.Ytkhceihokoheaaa
