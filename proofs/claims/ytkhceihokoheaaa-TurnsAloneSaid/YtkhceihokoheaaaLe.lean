/- TurnsAlone: the law's walk. -/
import Derived.Test.YtkhceihokoheaaaLa
set_option maxRecDepth 100000
set_option linter.unusedVariables false
set_option linter.unusedSimpArgs false
namespace Go.Proofs.Ytkhceihokoheaaa
open Go Go.Proofs Sp
set_option maxHeartbeats 4000000 in
theorem alone_ok {R : List HP} (n : Int) {bx : Option Addr} {cx : Nat} (xs : List Int) (hx : Rd R bx (ints .i64 xs)) (okx : SlOk bx xs.length) (lx : xs.length ≤ 9223372036854775807) (w0 : Int) {bz : Option Addr} {cz : Nat} (ys : List Int) (hz : Rd R bz (ints .i64 ys)) (okz : SlOk bz ys.length) (lz : ys.length ≤ 9223372036854775807) :
    Ok Try.prog 7 [(.int .i64 n), (.slice bx xs.length cx), (.int .i64 w0), (.slice bz ys.length cz)] R
      (fun v M => v = .bool true ∧ M = R) := by
  obtain ⟨N, hN⟩ : ∃ N : Nat, min xs.length 10 = N := ⟨_, rfl⟩
  have hN10 : N ≤ 10 := by omega
  refine ok_of (N := 108) Try.func7 rfl rfl rfl (fun W => ?_)
  refine c_seq (fun K1 hK1 => ?_)
  refine c_region ?_
  refine tp rfl (lv_assign rfl) ?_
  refine t_done ?_
  refine q_then_n (hK1 _ _ ?_)
  refine c_seq (fun K2 hK2 => ?_)
  refine c_region ?_
  refine tc rfl (en_fn Try.call10 rfl) (shown_ok) ?_
  rintro _ _ ⟨rfl, hMR⟩
  rw [hMR]; clear hMR
  refine tp rfl (lv_assign rfl) ?_
  refine t_done ?_
  refine q_then_n (hK2 _ _ ?_)
  refine c_seq (fun K3 hK3 => ?_)
  refine c_region ?_
  refine tp rfl (lv_move rfl) ?_
  refine tc rfl (en_fn Try.call11 rfl) (tnew_ok n) ?_
  rintro _ _ ⟨p1, rfl, rfl⟩
  refine tp rfl (lv_assign rfl) ?_
  refine t_done ?_
  refine q_then_n (hK3 _ _ ?_)
  refine c_seq (fun K4 hK4 => ?_)
  refine c_seq (fun K5 hK5 => ?_)
  refine c_region ?_
  refine tp rfl (lv_move rfl) ?_
  refine tp rfl (lv_eqnil Try.underlying24 rfl rfl) ?_
  refine t_done ?_
  refine q_then_n (hK5 _ _ ?_)
  refine c_false rfl ?_
  refine c_skip ?_
  refine q_then_n (hK4 _ _ ?_)
  refine c_seq (fun K6 hK6 => ?_)
  refine c_region ?_
  refine tp rfl (lv_move rfl) ?_
  refine tp rfl (lv_len Try.underlying22 rfl rfl) ?_
  refine tp rfl (lv_min (c := ((N : Nat) : Int)) rfl rfl (by omega)) ?_
  refine tp rfl (lv_assign rfl) ?_
  refine t_done ?_
  refine q_then_n (hK6 _ _ ?_)
  refine c_seq (fun K7 hK7 => ?_)
  refine c_seq (fun K8 hK8 => ?_)
  refine c_region ?_
  refine tp rfl (lv_assign rfl) ?_
  refine t_done ?_
  refine q_then_n (hK8 _ _ ?_)
  refine c_block ?_
  refine c_loop (γ := (Nat)) (fun (k : Nat) => k ≤ N) (fun (k : Nat) => [(0, (.int .i64 n)), (1, (.slice bx xs.length cx)), (2, (.int .i64 w0)), (3, (.slice bz ys.length cz)), (9, (.bool true)), (10, (.pointer (some ⟨p1, 0, none⟩))), (11, (.int .i64 ((N : Nat) : Int))), (12, (.int .i64 ((k : Nat) : Int))), (24, (.bool false))]) (fun (k : Nat) => (TurnsO p1 (qOf n) (memL (wtF xs 100) k) 0) :: R) (fun (k : Nat) => N - k) (0) (by omega) ⟨rfl, rfl, rfl, rfl, rfl, rfl, rfl, rfl, rfl, trivial⟩ (fun _ h => h) ?_
  rintro k K9 hF hK9
  try dsimp only at hF hK9 ⊢
  have hwk := wtF_bd xs (show (0 : Int) < 100 by omega) k
  refine c_seq (fun K10 hK10 => ?_)
  refine c_seq (fun K11 hK11 => ?_)
  refine c_region ?_
  refine tp rfl (lv_move rfl) ?_
  refine tp rfl (lv_move rfl) ?_
  by_cases h2 : ((k : Nat) : Int) < ((N : Nat) : Int)
  · -- yes
    refine tp rfl (lv_lss rfl rfl (decide_eq_true h2)) ?_
    refine t_done ?_
    refine q_then_n (hK11 _ _ ?_)
    refine c_true rfl ?_
    refine c_skip ?_
    refine q_then_n (hK10 _ _ ?_)
    refine c_seq (fun K12 hK12 => ?_)
    refine c_block ?_
    refine c_seq (fun K13 hK13 => ?_)
    refine c_region ?_
    refine tp rfl (lv_move rfl) ?_
    refine tp rfl (lv_move rfl) ?_
    refine tp rfl (lv_move rfl) ?_
    refine tp rfl (lv_move rfl) ?_
    refine tp rfl (lv_indexAddr (k' := k) Try.underlying22 Try.sizeOf3 rfl rfl okx (by omega) (by omega) (by omega)) ?_
    refine tp rfl (lv_load Try.isAgg3 rfl (Rd.gives (Rd.cons hx) (ints_get (by omega)))) ?_
    refine tp rfl (lv_and (c := (xs).getD k 0 % 65536) rfl rfl (and_ffff _)) ?_
    refine tp rfl (lv_rem (c := ((xs).getD k 0 % 65536) % 100) rfl rfl (by omega) (Int.tmod_eq_emod_of_nonneg (by omega))) ?_
    refine tp rfl (lv_add (c := wtF xs 100 k) rfl rfl (wrT rfl (by omega) (by omega))) ?_
    refine tc rfl (en_fn Try.call12 rfl) (tjoin_ok (q := qOf n) (ms := memL (wtF xs 100) k) (a := 0) ((k : Nat) : Int) (wtF xs 100 k) (by rw [memL_len]; omega)) ?_
    rintro _ _ ⟨rfl, rfl⟩
    rw [show joinM (memL (wtF xs 100) k) ((k : Nat) : Int) (wtF xs 100 k) = memL (wtF xs 100) (k + 1) from (join_mem hwk).2]
    rw [show joinEr (memL (wtF xs 100) k) ((k : Nat) : Int) (wtF xs 100 k) = 0 from (join_mem hwk).1]
    refine tp rfl (lv_neq (r := false) rfl rfl (by decide)) ?_
    refine t_done ?_
    refine q_then_n (hK13 _ _ ?_)
    refine c_false rfl ?_
    refine c_skip ?_
    refine q_in_n ?_
    refine q_then_n (hK12 _ _ ?_)
    refine c_region ?_
    refine tp rfl (lv_move rfl) ?_
    refine tp rfl (lv_add (c := ((k + 1 : Nat) : Int)) rfl rfl (wr_i64_succ (by omega))) ?_
    refine tp rfl (lv_assign rfl) ?_
    refine t_done ?_
    refine q_then_n ?_
    exact t_weak (by exact ⟨rfl, rfl, rfl, rfl, rfl, rfl, rfl, rfl, rfl, trivial⟩) ((hK9 (k + 1) (by omega) (by omega)))
  · -- no
    refine tp rfl (lv_lss rfl rfl (decide_eq_false h2)) ?_
    refine t_done ?_
    refine q_then_n (hK11 _ _ ?_)
    refine c_false rfl ?_
    refine c_exit ?_
    refine q_then_x ?_
    refine q_then_x ?_
    refine q_in_x ?_
    refine q_then_n (hK7 _ _ ?_)
    refine c_seq (fun K12 hK12 => ?_)
    refine c_seq (fun K13 hK13 => ?_)
    refine c_region ?_
    obtain rfl : N = k := by omega
    refine tp rfl (lv_move rfl) ?_
    by_cases h3 : ((N : Nat) : Int) = 0
    · -- yes
      refine tp rfl (lv_eql rfl rfl (beq_iff_eq.2 h3)) ?_
      refine t_done ?_
      refine q_then_n (hK13 _ _ ?_)
      refine c_true rfl ?_
      refine c_seq (fun K14 hK14 => ?_)
      refine c_region ?_
      refine tp rfl (lv_move rfl) ?_
      refine tp rfl (lv_build (cs := [(.int .i64 0), (.int .i64 1)]) (pl := [(0, 1), (1, 1)]) Try.underlying31 Try.zeroValue31 (fun _ => by simp) rfl rfl) ?_
      refine tm rfl (mv_buildSlice (cs := [(.int .i64 0), (.int .i64 1)]) Try.underlying29 Try.sizeOf31 Try.zeroValue31 (by decide) rfl rfl rfl rfl) ?_
      rintro _ _ ⟨bs4, cp5, hok6, hle7, rfl, rfl⟩
      refine t_f1 ?_
      refine tc rfl (en_fn Try.call13 rfl) (take_non (q := qOf n) (ms := memL (wtF xs 100) N) (a := 0) [(0, 1)] rfl (rd_sl (.head _)) hok6 (by decide) (by rw [memL_len]; omega) (by rw [show N = 0 by omega]; rfl)) ?_
      rintro _ _ ⟨rfl, rfl⟩
      refine tp rfl (lv_move rfl) ?_
      refine tp rfl (lv_extract rfl rfl) ?_
      refine tp rfl (lv_extract rfl rfl) ?_
      refine tp rfl (lv_assign rfl) ?_
      refine tp rfl (lv_assign rfl) ?_
      refine t_done ?_
      refine q_then_n (hK14 _ _ ?_)
      refine c_seq (fun K15 hK15 => ?_)
      refine c_region ?_
      refine tp rfl (lv_move rfl) ?_
      refine tp rfl (lv_move rfl) ?_
      refine t_guard rfl rfl ?_
      refine tp rfl (lv_move rfl) ?_
      refine t_guard rfl rfl ?_
      refine tp rfl (lv_not (c := true) rfl rfl) ?_
      refine tp rfl (lv_pick_t rfl rfl) ?_
      refine tp rfl (lv_assign rfl) ?_
      refine t_done ?_
      refine q_then_n (hK15 _ _ ?_)
      refine c_ret ?_
      refine q_then_r ?_
      refine t_drop ?_
      refine t_drop ?_
      refine q_ret rfl rfl ?_
      exact ⟨rfl, rfl⟩
    · -- no
      refine tp rfl (lv_eql rfl rfl (beq_eq_false_iff_ne.2 h3)) ?_
      refine t_done ?_
      refine q_then_n (hK13 _ _ ?_)
      refine c_false rfl ?_
      refine c_skip ?_
      refine q_then_n (hK12 _ _ ?_)
      refine c_seq (fun K14 hK14 => ?_)
      refine c_region ?_
      have hN0 : 0 < N := by omega
      obtain ⟨wh, hwh⟩ : ∃ wh : Nat, w0 % 65536 % (N : Int) = (wh : Int) := ⟨_, (Int.toNat_of_nonneg (Int.emod_nonneg _ (by omega))).symm⟩
      have hwl : wh < N := by have := Int.emod_lt_of_pos (w0 % 65536) (show (0 : Int) < N by omega); omega
      refine tp rfl (lv_move rfl) ?_
      refine tp rfl (lv_and (c := w0 % 65536) rfl rfl (and_ffff _)) ?_
      refine tp rfl (lv_move rfl) ?_
      refine tp rfl (lv_rem (c := ((wh : Nat) : Int)) rfl rfl (by omega) ((Int.tmod_eq_emod_of_nonneg (by omega)).trans hwh)) ?_
      refine tp rfl (lv_assign rfl) ?_
      refine t_done ?_
      refine q_then_n (hK14 _ _ ?_)
      refine c_seq (fun K15 hK15 => ?_)
      refine c_seq (fun K16 hK16 => ?_)
      refine c_region ?_
      refine tp rfl (lv_assign rfl) ?_
      refine t_done ?_
      refine q_then_n (hK16 _ _ ?_)
      refine c_block ?_
      refine c_loop (γ := (Nat) × (List M3) × (Nat)) (fun (i, ms, a) => i ≤ ys.length ∧ i ≤ 30 ∧ Std (wtF xs 100) N ms ∧ a < N) (fun (i, ms, a) => [(0, (.int .i64 n)), (1, (.slice bx xs.length cx)), (2, (.int .i64 ((wh : Nat) : Int))), (3, (.slice bz ys.length cz)), (9, (.bool true)), (10, (.pointer (some ⟨p1, 0, none⟩))), (11, (.int .i64 ((N : Nat) : Int))), (12, (.int .i64 ((N : Nat) : Int))), (15, (.int .i64 ((i : Nat) : Int))), (24, (.bool false)), (30, (.bool false)), (45, (.bool false))]) (fun (i, ms, a) => (TurnsO p1 (qOf n) ms a) :: R) (fun (i, ms, a) => ys.length - i) (0, memL (wtF xs 100) N, 0) ⟨by omega, by omega, Std.mem _ _, hN0⟩ ⟨rfl, rfl, rfl, rfl, rfl, rfl, rfl, rfl, rfl, rfl, rfl, rfl, trivial⟩ (fun _ h => h) ?_
      rintro ⟨i, ms, a⟩ K17 hF hK17
      try dsimp only at hF hK17 ⊢
      obtain ⟨hi, hi2, hstd, hal⟩ := hF
      have hsl := hstd.len
      refine c_seq (fun K18 hK18 => ?_)
      refine c_seq (fun K19 hK19 => ?_)
      refine c_region ?_
      by_cases hc8 : ((i : Nat) : Int) < ((ys.length : Nat) : Int) ∧ ((i : Nat) : Int) < 30
      · -- both
        have hc8a := hc8.1
        have hc8b := hc8.2
        refine tp rfl (lv_move rfl) ?_
        refine tp rfl (lv_move rfl) ?_
        refine tp rfl (lv_len Try.underlying22 rfl rfl) ?_
        refine tp rfl (lv_lss rfl rfl (decide_eq_true hc8.1)) ?_
        refine tp rfl (lv_move rfl) ?_
        refine t_guard rfl rfl ?_
        refine tp rfl (lv_move rfl) ?_
        refine t_guard rfl rfl ?_
        refine tp rfl (lv_lss rfl rfl (decide_eq_true hc8.2)) ?_
        refine tp rfl (lv_pick_t rfl rfl) ?_
        refine t_done ?_
        refine q_then_n (hK19 _ _ ?_)
        refine c_true rfl ?_
        refine c_skip ?_
        refine q_then_n (hK18 _ _ ?_)
        refine c_seq (fun K20 hK20 => ?_)
        refine c_block ?_
        refine c_seq (fun K21 hK21 => ?_)
        refine c_region ?_
        obtain ⟨hany, hone⟩ := one_take (q := qOf n) hstd hal hwl (c := 1 + ys.getD i 0 % 1024) (by omega)
        refine tp rfl (lv_move rfl) ?_
        refine tp rfl (lv_move rfl) ?_
        refine tp rfl (lv_move rfl) ?_
        refine tp rfl (lv_move rfl) ?_
        refine tp rfl (lv_indexAddr (k' := i) Try.underlying22 Try.sizeOf3 rfl rfl okz (by omega) (by omega) (by omega)) ?_
        refine tp rfl (lv_load Try.isAgg3 rfl (Rd.gives (Rd.cons hz) (ints_get (by omega)))) ?_
        refine tp rfl (lv_and (c := (ys).getD i 0 % 1024) rfl rfl (and_3ff _)) ?_
        refine tp rfl (lv_add (c := 1 + ((ys).getD i 0 % 1024)) rfl rfl (wr_i64 (by omega) (by omega))) ?_
        refine tp rfl (lv_build (cs := [(.int .i64 ((wh : Nat) : Int)), (.int .i64 (1 + ((ys).getD i 0 % 1024)))]) (pl := [(0, 1), (1, 1)]) Try.underlying31 Try.zeroValue31 (fun _ => by simp) rfl rfl) ?_
        refine tm rfl (mv_buildSlice (cs := [(.int .i64 ((wh : Nat) : Int)), (.int .i64 (1 + ((ys).getD i 0 % 1024)))]) Try.underlying29 Try.sizeOf31 Try.zeroValue31 (by decide) rfl rfl rfl rfl) ?_
        rintro _ _ ⟨bs9, cp10, hok11, hle12, rfl, rfl⟩
        refine t_f1 ?_
        refine tc rfl (en_fn Try.call13 rfl) (take_okn (q := qOf n) (ms := ms) (a := a) [(((wh : Nat) : Int), 1 + ((ys).getD i 0 % 1024))] rfl (rd_sl (.head _)) hok11 (by simp) (by omega) hany) ?_
        rintro _ _ ⟨tm, ta, ht, rfl, rfl⟩
        refine tp rfl (lv_move rfl) ?_
        refine tp rfl (lv_extract rfl rfl) ?_
        refine tp rfl (lv_extract rfl rfl) ?_
        refine tp rfl (lv_assign rfl) ?_
        refine tp rfl (lv_assign rfl) ?_
        refine t_done ?_
        refine q_then_n (hK21 _ _ ?_)
        refine c_seq (fun K22 hK22 => ?_)
        refine c_region ?_
        obtain ⟨hta, hid, hst2⟩ := hone ht
        rw [hid]
        have hst3 := hst2 ((tm.getD ta M3.z).c - (costsL ms [(((wh : Nat) : Int), 1 + (ys).getD i 0 % 1024)]).getD ta 0)
        refine tp rfl (lv_move rfl) ?_
        refine tc rfl (en_fn Try.call17 rfl) (tturn_ok (q := qOf n) (ms := setC tm ta ((tm.getD ta M3.z).c - (costsL ms [(((wh : Nat) : Int), 1 + ((ys).getD i 0 % 1024))]).getD ta 0)) (a := ta) (by rw [hst3.len]; omega)) ?_
        rintro _ _ ⟨rfl, rfl⟩
        refine tp rfl (lv_move rfl) ?_
        refine tp rfl (lv_extract rfl rfl) ?_
        refine tp rfl (lv_extract rfl rfl) ?_
        refine tp rfl (lv_assign rfl) ?_
        refine tp rfl (lv_assign rfl) ?_
        refine t_done ?_
        refine q_then_n (hK22 _ _ ?_)
        refine c_seq (fun K23 hK23 => ?_)
        refine c_region ?_
        have hid2 := hst3.id ta (by omega)
        rw [hid2, show ((ta : Nat) : Int) = ((wh : Nat) : Int) by omega]
        have hl3 := hst3.len
        rw [show decide ((setC tm ta ((tm.getD ta M3.z).c - (costsL ms [(((wh : Nat) : Int), 1 + ((ys).getD i 0 % 1024))]).getD ta 0)).length ≠ 0) = true from decide_eq_true (by omega)]
        refine tp rfl (lv_move rfl) ?_
        refine tp rfl (lv_not (c := false) rfl rfl) ?_
        refine tp rfl (lv_move rfl) ?_
        refine t_guard rfl rfl ?_
        refine tp rfl (lv_move rfl) ?_
        refine t_guard rfl rfl ?_
        refine tp rfl (lv_move rfl) ?_
        refine t_guard rfl rfl ?_
        refine tp rfl (lv_neq rfl rfl (bne_eq_false_iff_eq.2 rfl)) ?_
        refine tp rfl (lv_pick_f rfl rfl) ?_
        refine tp rfl (lv_move rfl) ?_
        refine t_guard rfl rfl ?_
        refine tp rfl (lv_move rfl) ?_
        refine t_guard rfl rfl ?_
        refine tp rfl (lv_not (c := false) rfl rfl) ?_
        refine tp rfl (lv_pick_f rfl rfl) ?_
        refine tp rfl (lv_move rfl) ?_
        refine t_guard rfl rfl ?_
        refine tp rfl (lv_move rfl) ?_
        refine t_guard rfl rfl ?_
        refine tp rfl (lv_move rfl) ?_
        refine t_guard rfl rfl ?_
        refine tp rfl (lv_neq rfl rfl (bne_eq_false_iff_eq.2 rfl)) ?_
        refine tp rfl (lv_pick_f rfl rfl) ?_
        refine t_done ?_
        refine q_then_n (hK23 _ _ ?_)
        refine c_false rfl ?_
        refine c_skip ?_
        refine q_in_n ?_
        refine q_then_n (hK20 _ _ ?_)
        refine c_region ?_
        refine tp rfl (lv_move rfl) ?_
        refine tp rfl (lv_add (c := ((i + 1 : Nat) : Int)) rfl rfl (wr_i64_succ (by omega))) ?_
        refine tp rfl (lv_assign rfl) ?_
        refine t_done ?_
        refine q_then_n ?_
        refine t_f1 ?_
        refine t_drop ?_
        exact t_weak (by exact ⟨rfl, rfl, rfl, rfl, rfl, rfl, rfl, rfl, rfl, rfl, rfl, rfl, trivial⟩) ((hK17 (i + 1, setC tm ta ((tm.getD ta M3.z).c - (costsL ms [(((wh : Nat) : Int), 1 + ((ys).getD i 0 % 1024))]).getD ta 0), ta) ⟨by omega, by omega, hst2 _, by dsimp only; omega⟩ (by dsimp only; omega)))
      · -- not both
        refine t_cut0 (E' := [(0, (.int .i64 n)), (1, (.slice bx xs.length cx)), (2, (.int .i64 ((wh : Nat) : Int))), (3, (.slice bz ys.length cz)), (9, (.bool true)), (10, (.pointer (some ⟨p1, 0, none⟩))), (11, (.int .i64 ((N : Nat) : Int))), (12, (.int .i64 ((N : Nat) : Int))), (15, (.int .i64 ((i : Nat) : Int))), (24, (.bool false)), (30, (.bool false)), (45, (.bool false)), (69, (.bool false))]) ?_ (fun KK hKK => ?_)
        ·
         refine q_then_n (hK19 _ _ ?_)
         refine c_false rfl ?_
         refine c_exit ?_
         refine q_then_x ?_
         refine q_then_x ?_
         refine q_in_x ?_
         refine q_then_n (hK15 _ _ ?_)
         refine c_seq (fun K20 hK20 => ?_)
         refine c_region ?_
         refine tp rfl (lv_move rfl) ?_
         refine tp rfl (lv_assign rfl) ?_
         refine t_done ?_
         refine q_then_n (hK20 _ _ ?_)
         refine c_ret ?_
         refine t_drop ?_
         refine q_ret rfl rfl ?_
         exact ⟨rfl, rfl⟩
        · -- which
         by_cases hc8A : ((i : Nat) : Int) < ((ys.length : Nat) : Int)
         ·
          have hc8B : ¬ (((i : Nat) : Int) < 30) := fun hh => hc8 ⟨hc8A, hh⟩
          refine tp rfl (lv_move rfl) ?_
          refine tp rfl (lv_move rfl) ?_
          refine tp rfl (lv_len Try.underlying22 rfl rfl) ?_
          refine tp rfl (lv_lss rfl rfl (decide_eq_true hc8A)) ?_
          refine tp rfl (lv_move rfl) ?_
          refine t_guard rfl rfl ?_
          refine tp rfl (lv_move rfl) ?_
          refine t_guard rfl rfl ?_
          refine tp rfl (lv_lss rfl rfl (decide_eq_false hc8B)) ?_
          refine tp rfl (lv_pick_t rfl rfl) ?_
          exact t_done (t_weak (by exact ⟨rfl, rfl, rfl, rfl, rfl, rfl, rfl, rfl, rfl, rfl, rfl, rfl, rfl, trivial⟩) hKK)
         ·
          refine tp rfl (lv_move rfl) ?_
          refine tp rfl (lv_move rfl) ?_
          refine tp rfl (lv_len Try.underlying22 rfl rfl) ?_
          refine tp rfl (lv_lss rfl rfl (decide_eq_false hc8A)) ?_
          refine tp rfl (lv_move rfl) ?_
          refine t_skip rfl rfl rfl ?_
          refine t_skip rfl rfl rfl ?_
          refine tp rfl (lv_pick_f rfl rfl) ?_
          exact t_done (t_weak (by exact ⟨rfl, rfl, rfl, rfl, rfl, rfl, rfl, rfl, rfl, rfl, rfl, rfl, rfl, trivial⟩) hKK)
end Go.Proofs.Ytkhceihokoheaaa
