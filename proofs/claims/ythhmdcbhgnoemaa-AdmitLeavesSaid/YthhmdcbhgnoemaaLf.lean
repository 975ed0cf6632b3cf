/- AdmitLeaves: the law's walk. -/
import Derived.Test.YthhmdcbhgnoemaaLa
import Derived.Test.YthhmdcbhgnoemaaAdm3
set_option maxRecDepth 100000
set_option linter.unusedVariables false
set_option linter.unusedSimpArgs false
namespace Go.Proofs.Ythhmdcbhgnoemaa
open Go Go.Proofs Sp
theorem leaves_ok {R : List HP} {bl : Option Addr} {cl : Nat} (n : Int) (bs : List Bool) (hl : Rd R bl (bools bs)) (okl : SlOk bl bs.length) (ll : bs.length ≤ 9223372036854775807) :
    Ok Try.prog 7 [(.int .i64 n), (.slice bl bs.length cl)] R
      (fun v M => v = .bool true ∧ M = R) := by
  obtain ⟨N, hN⟩ : ∃ N : Nat, n % 65536 % 21 = (N : Int) := ⟨(n % 65536 % 21).toNat, by omega⟩
  have hN2 : N ≤ 20 := by omega
  refine ok_of (N := 158) Try.func7 rfl rfl rfl (fun W => ?_)
  refine c_seq (fun K1 hK1 => ?_)
  refine c_region ?_
  refine tp rfl (lv_assign rfl) ?_
  refine t_done ?_
  refine q_then_n (hK1 _ _ ?_)
  refine c_seq (fun K2 hK2 => ?_)
  refine c_region ?_
  refine tc rfl (en_fn Try.call10 rfl) (shown_ok) ?_
  rintro _ _ ⟨rfl, hMR⟩
  rw [hMR]; clear hMR
  refine tp rfl (lv_assign rfl) ?_
  refine t_done ?_
  refine q_then_n (hK2 _ _ ?_)
  refine c_seq (fun K3 hK3 => ?_)
  refine c_region ?_
  refine tp rfl (lv_move rfl) ?_
  refine tp rfl (lv_and (c := n % 65536) rfl rfl (and_ffff n)) ?_
  refine tp rfl (lv_rem (c := ((N : Nat) : Int)) rfl rfl (by omega) ((Int.tmod_eq_emod_of_nonneg (by omega)).trans hN)) ?_
  refine tp rfl (lv_assign rfl) ?_
  refine t_done ?_
  refine q_then_n (hK3 _ _ ?_)
  refine c_seq (fun K4 hK4 => ?_)
  refine c_region ?_
  refine tc rfl (en_fn Try.call11 rfl) (anew_ok 1 20) ?_
  rintro _ _ ⟨p1, rfl, rfl⟩
  refine tp rfl (lv_assign rfl) ?_
  refine t_done ?_
  refine q_then_n (hK4 _ _ ?_)
  refine c_seq (fun K5 hK5 => ?_)
  refine c_seq (fun K6 hK6 => ?_)
  refine c_region ?_
  refine tp rfl (lv_move rfl) ?_
  refine tp rfl (lv_eqnil Try.underlying24 rfl rfl) ?_
  refine t_done ?_
  refine q_then_n (hK6 _ _ ?_)
  refine c_false rfl ?_
  refine c_skip ?_
  refine q_then_n (hK5 _ _ ?_)
  refine c_seq (fun K7 hK7 => ?_)
  refine c_region ?_
  refine tp rfl (lv_move rfl) ?_
  refine tc rfl (en_fn Try.call12 rfl) (aadd_ok (A := 1) (Q := 20) (s := ⟨[], []⟩) 500 (by decide)) ?_
  rintro _ _ ⟨rfl, rfl⟩
  rw [show addS 1 20 ⟨[], []⟩ 500 = waitS 0 from rfl]
  rw [show addV 1 20 ⟨[], []⟩ 500 = 1 from rfl]
  rw [show addEr 1 20 ⟨[], []⟩ 500 = 0 from rfl]
  refine tp rfl (lv_move rfl) ?_
  refine tp rfl (lv_extract rfl rfl) ?_
  refine tp rfl (lv_extract rfl rfl) ?_
  refine tp rfl (lv_assign rfl) ?_
  refine tp rfl (lv_assign rfl) ?_
  refine t_done ?_
  refine q_then_n (hK7 _ _ ?_)
  refine c_seq (fun K8 hK8 => ?_)
  refine c_seq (fun K9 hK9 => ?_)
  refine c_region ?_
  refine tp rfl (lv_move rfl) ?_
  refine tp rfl (lv_neq (r := false) rfl rfl (by decide)) ?_
  refine tp rfl (lv_move rfl) ?_
  refine t_guard rfl rfl ?_
  refine tp rfl (lv_move rfl) ?_
  refine t_guard rfl rfl ?_
  refine tp rfl (lv_neq (r := false) rfl rfl (by decide)) ?_
  refine tp rfl (lv_pick_f rfl rfl) ?_
  refine t_done ?_
  refine q_then_n (hK9 _ _ ?_)
  refine c_false rfl ?_
  refine c_skip ?_
  refine q_then_n (hK8 _ _ ?_)
  refine c_seq (fun K10 hK10 => ?_)
  refine c_region ?_
  refine tp rfl (lv_assign rfl) ?_
  refine t_done ?_
  refine q_then_n (hK10 _ _ ?_)
  refine c_seq (fun K11 hK11 => ?_)
  refine c_seq (fun K12 hK12 => ?_)
  refine c_region ?_
  refine tp rfl (lv_assign rfl) ?_
  refine t_done ?_
  refine q_then_n (hK12 _ _ ?_)
  refine c_block ?_
  refine c_loop (γ := (Nat)) (fun (i : Nat) => i ≤ N) (fun (i : Nat) => [(0, (.int .i64 ((N : Nat) : Int))), (1, (.slice bl bs.length cl)), (5, (.bool true)), (6, (.pointer (some ⟨p1, 0, none⟩))), (7, (.int .i64 1)), (8, (.int .i64 0)), (9, (.slice none 0 0)), (10, (.int .i64 ((i : Nat) : Int))), (28, (.bool false)), (39, (.bool false))]) (fun (i : Nat) => (AdmO p1 1 20 (waitS i)) :: R) (fun (i : Nat) => N - i) (0) (by omega) ⟨rfl, rfl, rfl, rfl, rfl, rfl, rfl, rfl, rfl, rfl, trivial⟩ (fun _ h => h) ?_
  rintro i K13 hF hK13
  try dsimp only at hF hK13 ⊢
  refine c_seq (fun K14 hK14 => ?_)
  refine c_seq (fun K15 hK15 => ?_)
  refine c_region ?_
  refine tp rfl (lv_move rfl) ?_
  refine tp rfl (lv_move rfl) ?_
  by_cases h2 : ((i : Nat) : Int) < ((N : Nat) : Int)
  · -- yes
    refine tp rfl (lv_lss rfl rfl (decide_eq_true h2)) ?_
    refine t_done ?_
    refine q_then_n (hK15 _ _ ?_)
    refine c_true rfl ?_
    refine c_skip ?_
    refine q_then_n (hK14 _ _ ?_)
    refine c_seq (fun K16 hK16 => ?_)
    refine c_block ?_
    refine c_seq (fun K17 hK17 => ?_)
    refine c_region ?_
    obtain ⟨e1, e2, e3⟩ := add_queue (A := 1) (Q := 20) (s := waitS i) (waitS_not (by omega)) (by simp [waitS]) (by simp [waitS, iotaL_len]; omega)
    refine tp rfl (lv_move rfl) ?_
    refine tp rfl (lv_move rfl) ?_
    refine tc rfl (en_fn Try.call12 rfl) (aadd_ok (A := 1) (Q := 20) (s := waitS i) ((i : Nat) : Int) (by simp [waitS, iotaL_len]; try omega)) ?_
    rintro _ _ ⟨rfl, rfl⟩
    rw [show addS 1 20 (waitS i) ((i : Nat) : Int) = waitS (i + 1) from (e1.trans (waitS_push i))]
    rw [show addV 1 20 (waitS i) ((i : Nat) : Int) = 0 from e2]
    rw [show addEr 1 20 (waitS i) ((i : Nat) : Int) = 0 from e3]
    refine tp rfl (lv_move rfl) ?_
    refine tp rfl (lv_extract rfl rfl) ?_
    refine tp rfl (lv_extract rfl rfl) ?_
    refine tp rfl (lv_assign rfl) ?_
    refine tp rfl (lv_assign rfl) ?_
    refine t_done ?_
    refine q_then_n (hK17 _ _ ?_)
    refine c_seq (fun K18 hK18 => ?_)
    refine c_region ?_
    refine tp rfl (lv_move rfl) ?_
    refine tp rfl (lv_neq (r := false) rfl rfl (by decide)) ?_
    refine tp rfl (lv_move rfl) ?_
    refine t_guard rfl rfl ?_
    refine tp rfl (lv_move rfl) ?_
    refine t_guard rfl rfl ?_
    refine tp rfl (lv_neq (r := false) rfl rfl (by decide)) ?_
    refine tp rfl (lv_pick_f rfl rfl) ?_
    refine t_done ?_
    refine q_then_n (hK18 _ _ ?_)
    refine c_false rfl ?_
    refine c_skip ?_
    refine q_in_n ?_
    refine q_then_n (hK16 _ _ ?_)
    refine c_region ?_
    refine tp rfl (lv_move rfl) ?_
    refine tp rfl (lv_add (c := ((i + 1 : Nat) : Int)) rfl rfl (wr_i64_succ (by omega))) ?_
    refine tp rfl (lv_assign rfl) ?_
    refine t_done ?_
    refine q_then_n ?_
    exact t_weak (by exact ⟨rfl, rfl, rfl, rfl, rfl, rfl, rfl, rfl, rfl, rfl, trivial⟩) ((hK13 (i + 1) (by omega) (by omega)))
  · -- no
    refine tp rfl (lv_lss rfl rfl (decide_eq_false h2)) ?_
    refine t_done ?_
    refine q_then_n (hK15 _ _ ?_)
    refine c_false rfl ?_
    refine c_exit ?_
    refine q_then_x ?_
    refine q_then_x ?_
    refine q_in_x ?_
    refine q_then_n (hK11 _ _ ?_)
    refine c_seq (fun K16 hK16 => ?_)
    refine c_seq (fun K17 hK17 => ?_)
    refine c_region ?_
    rw [show waitS i = goS bs 0 N from by rw [show i = N by omega]; unfold waitS goS; rw [restL_zero]; rfl]
    refine t_sat (fun _ h => sat_nilsl 3 1 h) ?_
    refine tp rfl (lv_assign rfl) ?_
    refine t_done ?_
    refine q_then_n (hK17 _ _ ?_)
    refine c_block ?_
    refine c_loop (γ := (Nat) × (Option Addr) × (Nat)) (fun (k, bw, cw) => k ≤ N ∧ SlOk bw (leftL bs k).length ∧ (leftL bs k).length ≤ cw) (fun (k, bw, cw) => [(0, (.int .i64 ((N : Nat) : Int))), (1, (.slice bl bs.length cl)), (5, (.bool true)), (6, (.pointer (some ⟨p1, 0, none⟩))), (7, (.int .i64 1)), (8, (.int .i64 0)), (9, (.slice bw ((leftL bs k).length) cw)), (10, (.int .i64 ((i : Nat) : Int))), (13, (.int .i64 ((k : Nat) : Int))), (28, (.bool false)), (39, (.bool false)), (42, (.bool false))]) (fun (k, bw, cw) => (SlV 3 1 (.slice bw ((leftL bs k).length) cw) ((leftL bs k).length) (ints .i64 (leftL bs k))) :: (AdmO p1 1 20 (goS bs k N)) :: R) (fun (k, bw, cw) => N - k) (0, none, 0) ⟨by omega, slok_none, Nat.le_refl _⟩ ⟨rfl, rfl, rfl, rfl, rfl, rfl, rfl, rfl, rfl, rfl, rfl, rfl, trivial⟩ (fun _ h => h) ?_
    rintro ⟨k, bw, cw⟩ K18 hF hK18
    try dsimp only at hF hK18 ⊢
    obtain ⟨hk, hbw, hwc⟩ := hF
    have hll := leftL_le bs k
    refine c_seq (fun K19 hK19 => ?_)
    refine c_seq (fun K20 hK20 => ?_)
    refine c_region ?_
    refine tp rfl (lv_move rfl) ?_
    refine tp rfl (lv_move rfl) ?_
    by_cases h3 : ((k : Nat) : Int) < ((N : Nat) : Int)
    · -- yes
      refine tp rfl (lv_lss rfl rfl (decide_eq_true h3)) ?_
      refine t_done ?_
      refine q_then_n (hK20 _ _ ?_)
      refine c_true rfl ?_
      refine c_skip ?_
      refine q_then_n (hK19 _ _ ?_)
      refine c_seq (fun K21 hK21 => ?_)
      refine c_block ?_
      refine c_seq (fun K22 hK22 => ?_)
      rcases hgo : bs.getD k false with _ | _
      · -- false
        refine c_region ?_
        refine tp rfl (lv_move rfl) ?_
        refine tp rfl (lv_move rfl) ?_
        refine tp rfl (lv_len Try.underlying44 rfl rfl) ?_
        by_cases h4 : ((k : Nat) : Int) < ((bs.length : Nat) : Int)
        · -- yes
         refine tp rfl (lv_lss rfl rfl (decide_eq_true h4)) ?_
         refine tp rfl (lv_move rfl) ?_
         refine t_guard rfl rfl ?_
         refine tp rfl (lv_move rfl) ?_
         refine t_guard rfl rfl ?_
         refine tp rfl (lv_move rfl) ?_
         refine t_guard rfl rfl ?_
         refine tp rfl (lv_indexAddr (k' := k) Try.underlying44 Try.sizeOf4 rfl rfl okl (by omega) (by omega) (by omega)) ?_
         refine t_guard rfl rfl ?_
         refine tp rfl (lv_load Try.isAgg4 rfl (gives_as (by rw [hgo]) (Rd.gives (Rd.cons (Rd.cons hl)) (bools_get (by omega))))) ?_
         refine tp rfl (lv_pick_t rfl rfl) ?_
         refine t_done ?_
         refine q_then_n (hK22 _ _ ?_)
         refine c_false rfl ?_
         refine c_region ?_
         refine tp rfl (lv_move rfl) ?_
         refine tp rfl (lv_move rfl) ?_
         refine tm rfl (mv_buildSlice (cs := [(.int .i64 ((k : Nat) : Int))]) Try.underlying27 Try.sizeOf3 Try.zeroValue3 (by decide) rfl rfl rfl rfl) ?_
         rintro _ _ ⟨bs5, cp6, hok7, hle8, rfl, rfl⟩
         refine t_f1 ?_
         refine tm rfl (mv_append (i := Try.t3) Try.underlying27 Try.type3 rfl rfl rfl (by decide) rfl rfl hok7 (by simp) (rd_sl (.tail _ (.head _))) (by simp [Value.oneCell']) (by rw [show Try.t3.bytes = 8 from rfl]; omega)) ?_
         rintro _ _ ⟨bs9, cp10, hok11, hle12, rfl, rfl⟩
         rw [show ints .i64 (leftL bs k) ++ [(.int .i64 ((k : Nat) : Int))] = ints .i64 ((leftL bs k) ++ [((k : Nat) : Int)]) from ints_snoc _ _ _]
         refine tp rfl (lv_assign rfl) ?_
         refine t_done ?_
         refine q_in_n ?_
         refine q_then_n (hK21 _ _ ?_)
         refine c_region ?_
         refine tp rfl (lv_move rfl) ?_
         refine tp rfl (lv_add (c := ((k + 1 : Nat) : Int)) rfl rfl (wr_i64_succ (by omega))) ?_
         refine tp rfl (lv_assign rfl) ?_
         refine t_done ?_
         refine q_then_n ?_
         refine t_f1 ?_
         refine t_drop ?_
         have hst := goS_stay (bs := bs) (k := k) (n := N) (by omega) hgo
         have hww := leftL_stay hgo
         have hwl : (leftL bs k).length + 1 = (leftL bs (k + 1)).length := by rw [hww]; simp
         rw [← hww, hwl, ← hst]
         rw [hwl] at hok11 hle12
         exact t_weak (by exact ⟨rfl, rfl, rfl, rfl, rfl, rfl, rfl, rfl, rfl, rfl, rfl, rfl, trivial⟩) ((hK18 (k + 1, bs9, cp10) ⟨by omega, hok11, hle12⟩ (by dsimp only; omega)))
        · -- no
         refine tp rfl (lv_lss rfl rfl (decide_eq_false h4)) ?_
         refine tp rfl (lv_move rfl) ?_
         refine t_skip rfl rfl rfl ?_
         refine t_skip rfl rfl rfl ?_
         refine t_skip rfl rfl rfl ?_
         refine t_skip rfl rfl rfl ?_
         refine tp rfl (lv_pick_f rfl rfl) ?_
         refine t_done ?_
         refine q_then_n (hK22 _ _ ?_)
         refine c_false rfl ?_
         refine c_region ?_
         refine tp rfl (lv_move rfl) ?_
         refine tp rfl (lv_move rfl) ?_
         refine tm rfl (mv_buildSlice (cs := [(.int .i64 ((k : Nat) : Int))]) Try.underlying27 Try.sizeOf3 Try.zeroValue3 (by decide) rfl rfl rfl rfl) ?_
         rintro _ _ ⟨bs13, cp14, hok15, hle16, rfl, rfl⟩
         refine t_f1 ?_
         refine tm rfl (mv_append (i := Try.t3) Try.underlying27 Try.type3 rfl rfl rfl (by decide) rfl rfl hok15 (by simp) (rd_sl (.tail _ (.head _))) (by simp [Value.oneCell']) (by rw [show Try.t3.bytes = 8 from rfl]; omega)) ?_
         rintro _ _ ⟨bs17, cp18, hok19, hle20, rfl, rfl⟩
         rw [show ints .i64 (leftL bs k) ++ [(.int .i64 ((k : Nat) : Int))] = ints .i64 ((leftL bs k) ++ [((k : Nat) : Int)]) from ints_snoc _ _ _]
         refine tp rfl (lv_assign rfl) ?_
         refine t_done ?_
         refine q_in_n ?_
         refine q_then_n (hK21 _ _ ?_)
         refine c_region ?_
         refine tp rfl (lv_move rfl) ?_
         refine tp rfl (lv_add (c := ((k + 1 : Nat) : Int)) rfl rfl (wr_i64_succ (by omega))) ?_
         refine tp rfl (lv_assign rfl) ?_
         refine t_done ?_
         refine q_then_n ?_
         refine t_f1 ?_
         refine t_drop ?_
         have hst := goS_stay (bs := bs) (k := k) (n := N) (by omega) hgo
         have hww := leftL_stay hgo
         have hwl : (leftL bs k).length + 1 = (leftL bs (k + 1)).length := by rw [hww]; simp
         rw [← hww, hwl, ← hst]
         rw [hwl] at hok19 hle20
         exact t_weak (by exact ⟨rfl, rfl, rfl, rfl, rfl, rfl, rfl, rfl, rfl, rfl, rfl, rfl, trivial⟩) ((hK18 (k + 1, bs17, cp18) ⟨by omega, hok19, hle20⟩ (by dsimp only; omega)))
      · -- true
        have hkb : k < bs.length := by
                    rcases Nat.lt_or_ge k bs.length with h | h
                    · exact h
                    · simp [List.getD, h] at hgo
        refine c_region ?_
        refine tp rfl (lv_move rfl) ?_
        refine tp rfl (lv_move rfl) ?_
        refine tp rfl (lv_len Try.underlying44 rfl rfl) ?_
        refine tp rfl (lv_lss rfl rfl (decide_eq_true (by omega))) ?_
        refine tp rfl (lv_move rfl) ?_
        refine t_guard rfl rfl ?_
        refine tp rfl (lv_move rfl) ?_
        refine t_guard rfl rfl ?_
        refine tp rfl (lv_move rfl) ?_
        refine t_guard rfl rfl ?_
        refine tp rfl (lv_indexAddr (k' := k) Try.underlying44 Try.sizeOf4 rfl rfl okl (by omega) (by omega) (by omega)) ?_
        refine t_guard rfl rfl ?_
        refine tp rfl (lv_load Try.isAgg4 rfl (gives_as (by rw [hgo]) (Rd.gives (Rd.cons (Rd.cons hl)) (bools_get (by omega))))) ?_
        refine tp rfl (lv_pick_t rfl rfl) ?_
        refine t_done ?_
        refine q_then_n (hK22 _ _ ?_)
        refine c_true rfl ?_
        refine c_seq (fun K23 hK23 => ?_)
        refine c_region ?_
        obtain ⟨e1, e2, e3⟩ := goS_end (bs := bs) (k := k) (n := N) (by omega) hgo
        refine tp rfl (lv_move rfl) ?_
        refine tp rfl (lv_move rfl) ?_
        refine t_f1 ?_
        refine tc rfl (en_fn Try.call14 rfl) (aend_ok (A := 1) (Q := 20) (s := goS bs k N) ((k : Nat) : Int) (by have := leftL_le bs k; have := restL_len k N; simp [goS]; omega)) ?_
        rintro _ _ ⟨rfl, rfl⟩
        rw [show endS (goS bs k N) ((k : Nat) : Int) = goS bs (k + 1) N from e1]
        rw [show endV (goS bs k N) ((k : Nat) : Int) = (-1) from e2]
        rw [show endEr (goS bs k N) ((k : Nat) : Int) = 0 from e3]
        refine tp rfl (lv_move rfl) ?_
        refine tp rfl (lv_extract rfl rfl) ?_
        refine tp rfl (lv_extract rfl rfl) ?_
        refine tp rfl (lv_assign rfl) ?_
        refine tp rfl (lv_assign rfl) ?_
        refine t_done ?_
        refine q_then_n (hK23 _ _ ?_)
        refine c_seq (fun K24 hK24 => ?_)
        refine c_region ?_
        refine tp rfl (lv_move rfl) ?_
        refine tp rfl (lv_neq (r := false) rfl rfl (by decide)) ?_
        refine tp rfl (lv_move rfl) ?_
        refine t_guard rfl rfl ?_
        refine tp rfl (lv_move rfl) ?_
        refine t_guard rfl rfl ?_
        refine tp rfl (lv_neq (r := false) rfl rfl (by decide)) ?_
        refine tp rfl (lv_pick_f rfl rfl) ?_
        refine t_done ?_
        refine q_then_n (hK24 _ _ ?_)
        refine c_false rfl ?_
        refine c_skip ?_
        refine q_in_n ?_
        refine q_then_n (hK21 _ _ ?_)
        refine c_region ?_
        refine tp rfl (lv_move rfl) ?_
        refine tp rfl (lv_add (c := ((k + 1 : Nat) : Int)) rfl rfl (wr_i64_succ (by omega))) ?_
        refine tp rfl (lv_assign rfl) ?_
        refine t_done ?_
        refine q_then_n ?_
        refine t_f1 ?_
        rw [show leftL bs k = leftL bs (k + 1) from (leftL_go hgo).symm] at hbw hwc ⊢
        exact t_weak (by exact ⟨rfl, rfl, rfl, rfl, rfl, rfl, rfl, rfl, rfl, rfl, rfl, rfl, trivial⟩) ((hK18 (k + 1, bw, cw) ⟨by omega, hbw, hwc⟩ (by dsimp only; omega)))
    · -- no
      refine tp rfl (lv_lss rfl rfl (decide_eq_false h3)) ?_
      refine t_done ?_
      refine q_then_n (hK20 _ _ ?_)
      refine c_false rfl ?_
      refine c_exit ?_
      refine q_then_x ?_
      refine q_then_x ?_
      refine q_in_x ?_
      refine q_then_n (hK16 _ _ ?_)
      refine c_seq (fun K21 hK21 => ?_)
      refine c_seq (fun K22 hK22 => ?_)
      refine c_region ?_
      obtain rfl : k = N := by omega
      rw [goS_now]
      have hnd := leftL_nodup bs k
      have h5 : ∀ y ∈ leftL bs k, y < 500 := fun y hy => by have := mem_leftL hy; omega
      have hwx := leftL_le bs k
      obtain ⟨l, hl⟩ : ∃ x, leftL bs k = x := ⟨_, rfl⟩
      rw [hl] at hbw hwc hnd h5 hwx ⊢
      refine tp rfl (lv_move rfl) ?_
      refine t_f1 ?_
      refine tc rfl (en_fn Try.call17 rfl) (waiting_ok (A := 1) (Q := 20) (s := nowS l 0) (by simp [nowS]; omega)) ?_
      rintro _ _ ⟨bs21, cp22, hok23, hle24, rfl, rfl⟩
      refine tp rfl (lv_move rfl) ?_
      refine tc rfl (en_fn Try.call21 rfl) (ints_ok ((nowS l 0).q) l (rd_sl (.head _)) (rd_sl (.tail _ (.tail _ (.head _)))) hok23 hbw (by show (l.drop 0).length ≤ _; rw [List.length_drop]; omega) (by first | omega | (simp; omega) | (simp; done))) ?_
      rintro _ _ ⟨rfl, rfl⟩
      rw [show eqI ((nowS l 0).q) l = true from (eqI_refl _)]
      refine tp rfl (lv_not (c := false) rfl rfl) ?_
      refine tp rfl (lv_move rfl) ?_
      refine t_guard rfl rfl ?_
      refine tp rfl (lv_move rfl) ?_
      refine t_guard rfl rfl ?_
      refine t_f1 ?_
      refine tc rfl (en_fn Try.call16 rfl) (actives_ok (A := 1) (Q := 20) (s := nowS l 0) (by simp [nowS]; omega)) ?_
      rintro _ _ ⟨bs25, cp26, hok27, hle28, rfl, rfl⟩
      refine t_guard rfl rfl ?_
      refine tm rfl (mv_buildSlice (cs := [(.int .i64 500)]) Try.underlying27 Try.sizeOf3 Try.zeroValue3 (by decide) rfl rfl rfl rfl) ?_
      rintro _ _ ⟨bs29, cp30, hok31, hle32, rfl, rfl⟩
      refine t_guard rfl rfl ?_
      refine tc rfl (en_fn Try.call21 rfl) (ints_ok ((nowS l 0).a) [500] (rd_sl (.tail _ (.head _))) (rd_sl (.head _)) hok27 hok31 (by show 1 ≤ _; omega) (by first | omega | (simp; omega) | (simp; done))) ?_
      rintro _ _ ⟨rfl, rfl⟩
      rw [show eqI ((nowS l 0).a) [500] = true from rfl]
      refine t_guard rfl rfl ?_
      refine tp rfl (lv_not (c := false) rfl rfl) ?_
      refine tp rfl (lv_pick_f rfl rfl) ?_
      refine t_done ?_
      refine q_then_n (hK22 _ _ ?_)
      refine c_false rfl ?_
      refine c_skip ?_
      refine q_then_n (hK21 _ _ ?_)
      refine c_seq (fun K23 hK23 => ?_)
      refine c_region ?_
      refine tp rfl (lv_assign rfl) ?_
      refine t_done ?_
      refine q_then_n (hK23 _ _ ?_)
      refine c_seq (fun K24 hK24 => ?_)
      refine c_seq (fun K25 hK25 => ?_)
      refine c_region ?_
      refine tp rfl (lv_assign rfl) ?_
      refine t_done ?_
      refine q_then_n (hK25 _ _ ?_)
      refine c_block ?_
      refine t_drop ?_
      refine t_drop ?_
      refine t_f1 ?_
      refine t_drop ?_
      refine c_loop (γ := (Nat)) (fun (m : Nat) => m ≤ l.length) (fun (m : Nat) => [(0, (.int .i64 ((k : Nat) : Int))), (1, (.slice bl bs.length cl)), (5, (.bool true)), (6, (.pointer (some ⟨p1, 0, none⟩))), (7, (.int .i64 1)), (8, (.int .i64 0)), (9, (.slice bw l.length cw)), (10, (.int .i64 ((i : Nat) : Int))), (13, (.int .i64 ((k : Nat) : Int))), (16, (.int .i64 (nowV l m))), (17, (.int .i64 ((m : Nat) : Int))), (28, (.bool false)), (39, (.bool false)), (42, (.bool false)), (59, (.bool false)), (99, (.bool false))]) (fun (m : Nat) => (AdmO p1 1 20 (nowS l m)) :: (SlV 3 1 (.slice bw l.length cw) l.length (ints .i64 l)) :: R) (fun (m : Nat) => l.length - m) (0) (by omega) ⟨rfl, rfl, rfl, rfl, rfl, rfl, rfl, rfl, rfl, rfl, rfl, rfl, rfl, rfl, rfl, rfl, trivial⟩ (fun _ h => h) ?_
      rintro m K26 hF hK26
      try dsimp only at hF hK26 ⊢
      refine c_seq (fun K27 hK27 => ?_)
      refine c_seq (fun K28 hK28 => ?_)
      refine c_region ?_
      refine tp rfl (lv_move rfl) ?_
      refine tp rfl (lv_move rfl) ?_
      refine tp rfl (lv_len Try.underlying27 rfl rfl) ?_
      by_cases h33 : ((m : Nat) : Int) < ((l.length : Nat) : Int)
      · -- yes
        refine tp rfl (lv_lss rfl rfl (decide_eq_true h33)) ?_
        refine t_done ?_
        refine q_then_n (hK28 _ _ ?_)
        refine c_true rfl ?_
        refine c_skip ?_
        refine q_then_n (hK27 _ _ ?_)
        refine c_seq (fun K29 hK29 => ?_)
        refine c_block ?_
        refine c_seq (fun K30 hK30 => ?_)
        refine c_region ?_
        obtain ⟨e1, e2, e3⟩ := nowS_end (k := m) hnd h5 (by omega)
        refine tp rfl (lv_move rfl) ?_
        refine tp rfl (lv_move rfl) ?_
        refine tc rfl (en_fn Try.call14 rfl) (aend_ok (A := 1) (Q := 20) (s := nowS l m) (nowV l m) (by simp [nowS]; omega)) ?_
        rintro _ _ ⟨rfl, rfl⟩
        rw [show endS (nowS l m) (nowV l m) = nowS l (m + 1) from e1]
        rw [show endV (nowS l m) (nowV l m) = (l).getD m 0 from e2]
        rw [show endEr (nowS l m) (nowV l m) = 0 from e3]
        refine tp rfl (lv_move rfl) ?_
        refine tp rfl (lv_extract rfl rfl) ?_
        refine tp rfl (lv_extract rfl rfl) ?_
        refine tp rfl (lv_assign rfl) ?_
        refine tp rfl (lv_assign rfl) ?_
        refine t_done ?_
        refine q_then_n (hK30 _ _ ?_)
        refine c_seq (fun K31 hK31 => ?_)
        refine c_seq (fun K32 hK32 => ?_)
        refine c_draw (γ := Option Addr × Nat × Option Addr × Nat) (n := 21) Try.mixed rfl rfl (fun (bs34, cp35, bs38, cp39) S => (S 12 = true → SlOk bs34 (((nowS l (m + 1)).a).length)) ∧ (S 12 = true → ((nowS l (m + 1)).a).length ≤ cp35) ∧ (S 17 = true → SlOk bs38 1) ∧ (S 17 = true → 1 ≤ cp39)) (fun (bs34, cp35, bs38, cp39) => [(0, 112, (.int .i64 ((l).getD m 0))), (1, 113, (.slice bw l.length cw)), (2, 114, (.int .i64 ((m : Nat) : Int))), (3, 115, (.pointer (some (ad bw m)))), (4, 116, (.int .i64 ((l).getD m 0))), (5, 117, (.bool false)), (6, 118, (.bool false)), (7, 119, (.int .i64 0)), (8, 120, (.bool false)), (9, 121, (.bool false)), (10, 122, (.bool false)), (11, 123, (.pointer (some ⟨p1, 0, none⟩))), (12, 124, (.slice bs34 (((nowS l (m + 1)).a).length) cp35)), (13, 125, (.slice bw l.length cw)), (14, 126, (.int .i64 ((m : Nat) : Int))), (15, 127, (.pointer (some (ad bw m)))), (16, 128, (.int .i64 ((l).getD m 0))), (17, 129, (.slice bs38 1 cp39)), (18, 130, (.bool true)), (19, 131, (.bool false)), (20, 132, (.bool false))]) (fun (bs34, cp35, bs38, cp39) S => (AdmO p1 1 20 (nowS l (m + 1))) :: (SlV 3 1 (.slice bw l.length cw) l.length (ints .i64 l)) :: (bif S 12 then (SlV 3 1 (.slice bs34 (((nowS l (m + 1)).a).length) cp35) (((nowS l (m + 1)).a).length) (ints .i64 ((nowS l (m + 1)).a))) else Emp) :: (bif S 17 then (SlV 3 1 (.slice bs38 1 cp39) 1 [(.int .i64 ((l).getD m 0))]) else Emp) :: R) (none, 0, none, 0) (by simp [Nat.ble]) (fun _ h => sat_emps [_, _] 2 h) (fun _ _ h => h) ?_ ?_
        · -- steps
         refine ⟨?_, ?_, ?_, ?_, ?_, ?_, ?_, ?_, ?_, ?_, ?_, ?_, ?_, ?_, ?_, ?_, ?_, ?_, ?_, ?_, ?_, trivial⟩
         · -- 0
          rintro ⟨bs34, cp35, bs38, cp39⟩ S hF hS D hp K hK
          try dsimp only at hF ⊢
          obtain ⟨hf0, hf1, hf2, hf3⟩ := hF
          refine d_need (small := [(18, (.int .i64 ((l).getD m 0)))]) ⟨look_b rfl rfl, trivial⟩ ?_
          refine tp rfl (lv_move rfl) ?_
          exact d_closes ⟨look_b rfl rfl, trivial⟩ 0 rfl rfl rfl hS (AgreeR.refl _) (t_sat (fun _ h => h) (hK (bs34, cp35, bs38, cp39) ⟨hf0, hf1, hf2, hf3⟩))
         · -- 1
          rintro ⟨bs34, cp35, bs38, cp39⟩ S hF hS D hp K hK
          try dsimp only at hF ⊢
          obtain ⟨hf0, hf1, hf2, hf3⟩ := hF
          refine d_need (small := [(9, (.slice bw l.length cw))]) ⟨look_b rfl rfl, trivial⟩ ?_
          refine tp rfl (lv_move rfl) ?_
          exact d_closes ⟨look_b rfl rfl, trivial⟩ 1 rfl rfl rfl hS (AgreeR.refl _) (t_sat (fun _ h => h) (hK (bs34, cp35, bs38, cp39) ⟨hf0, hf1, hf2, hf3⟩))
         · -- 2
          rintro ⟨bs34, cp35, bs38, cp39⟩ S hF hS D hp K hK
          try dsimp only at hF ⊢
          obtain ⟨hf0, hf1, hf2, hf3⟩ := hF
          refine d_need (small := [(17, (.int .i64 ((m : Nat) : Int)))]) ⟨look_b rfl rfl, trivial⟩ ?_
          refine tp rfl (lv_move rfl) ?_
          exact d_closes ⟨look_b rfl rfl, trivial⟩ 2 rfl rfl rfl hS (AgreeR.refl _) (t_sat (fun _ h => h) (hK (bs34, cp35, bs38, cp39) ⟨hf0, hf1, hf2, hf3⟩))
         · -- 3
          rintro ⟨bs34, cp35, bs38, cp39⟩ S hF hS D hp K hK
          try dsimp only at hF ⊢
          obtain ⟨hf0, hf1, hf2, hf3⟩ := hF
          have s1 := hp 1 rfl
          have s2 := hp 2 rfl
          refine d_need (small := [(113, (.slice bw l.length cw)), (114, (.int .i64 ((m : Nat) : Int)))]) ⟨look_row rfl 1 rfl s1, look_row rfl 2 rfl s2, trivial⟩ ?_
          refine tp rfl (lv_indexAddr (k' := m) Try.underlying27 Try.sizeOf3 rfl rfl hbw (by omega) (by omega) (by omega)) ?_
          exact d_closes ⟨look_row rfl 1 rfl s1, look_row rfl 2 rfl s2, trivial⟩ 3 rfl rfl rfl hS (AgreeR.refl _) (t_sat (fun _ h => h) (hK (bs34, cp35, bs38, cp39) ⟨hf0, hf1, hf2, hf3⟩))
         · -- 4
          rintro ⟨bs34, cp35, bs38, cp39⟩ S hF hS D hp K hK
          try dsimp only at hF ⊢
          obtain ⟨hf0, hf1, hf2, hf3⟩ := hF
          have s3 := hp 3 rfl
          refine d_need (small := [(115, (.pointer (some (ad bw m))))]) ⟨look_row rfl 3 rfl s3, trivial⟩ ?_
          refine tp rfl (lv_load Try.isAgg3 rfl (gives_sl (.tail _ (.head _)) (ints_get (by omega)))) ?_
          exact d_closes ⟨look_row rfl 3 rfl s3, trivial⟩ 4 rfl rfl rfl hS (AgreeR.refl _) (t_sat (fun _ h => h) (hK (bs34, cp35, bs38, cp39) ⟨hf0, hf1, hf2, hf3⟩))
         · -- 5
          rintro ⟨bs34, cp35, bs38, cp39⟩ S hF hS D hp K hK
          try dsimp only at hF ⊢
          obtain ⟨hf0, hf1, hf2, hf3⟩ := hF
          have s0 := hp 0 rfl
          have s4 := hp 4 rfl
          refine d_need (small := [(112, (.int .i64 ((l).getD m 0))), (116, (.int .i64 ((l).getD m 0)))]) ⟨look_row rfl 0 rfl s0, look_row rfl 4 rfl s4, trivial⟩ ?_
          refine tp rfl (lv_neq rfl rfl (bne_eq_false_iff_eq.2 rfl)) ?_
          exact d_closes ⟨look_row rfl 0 rfl s0, look_row rfl 4 rfl s4, trivial⟩ 5 rfl rfl rfl hS (AgreeR.refl _) (t_sat (fun _ h => h) (hK (bs34, cp35, bs38, cp39) ⟨hf0, hf1, hf2, hf3⟩))
         · -- 6
          rintro ⟨bs34, cp35, bs38, cp39⟩ S hF hS D hp K hK
          try dsimp only at hF ⊢
          obtain ⟨hf0, hf1, hf2, hf3⟩ := hF
          have s5 := hp 5 rfl
          refine d_need (small := [(117, (.bool false))]) ⟨look_row rfl 5 rfl s5, trivial⟩ ?_
          refine tp rfl (lv_move rfl) ?_
          exact d_closes ⟨look_row rfl 5 rfl s5, trivial⟩ 6 rfl rfl rfl hS (AgreeR.refl _) (t_sat (fun _ h => h) (hK (bs34, cp35, bs38, cp39) ⟨hf0, hf1, hf2, hf3⟩))
         · -- 7
          rintro ⟨bs34, cp35, bs38, cp39⟩ S hF hS D hp K hK
          try dsimp only at hF ⊢
          obtain ⟨hf0, hf1, hf2, hf3⟩ := hF
          have s6 := hp 6 rfl
          refine d_need (small := [(19, (.int .i64 0)), (118, (.bool false))]) ⟨look_b rfl rfl, look_row rfl 6 rfl s6, trivial⟩ ?_
          refine t_guard rfl rfl ?_
          refine tp rfl (lv_move rfl) ?_
          exact d_closes ⟨look_b rfl rfl, look_row rfl 6 rfl s6, trivial⟩ 7 rfl rfl rfl hS (AgreeR.refl _) (t_sat (fun _ h => h) (hK (bs34, cp35, bs38, cp39) ⟨hf0, hf1, hf2, hf3⟩))
         · -- 8
          rintro ⟨bs34, cp35, bs38, cp39⟩ S hF hS D hp K hK
          try dsimp only at hF ⊢
          obtain ⟨hf0, hf1, hf2, hf3⟩ := hF
          have s6 := hp 6 rfl
          have s7 := hp 7 rfl
          refine d_need (small := [(118, (.bool false)), (119, (.int .i64 0))]) ⟨look_row rfl 6 rfl s6, look_row rfl 7 rfl s7, trivial⟩ ?_
          refine t_guard rfl rfl ?_
          refine tp rfl (lv_neq (r := false) rfl rfl (by decide)) ?_
          exact d_closes ⟨look_row rfl 6 rfl s6, look_row rfl 7 rfl s7, trivial⟩ 8 rfl rfl rfl hS (AgreeR.refl _) (t_sat (fun _ h => h) (hK (bs34, cp35, bs38, cp39) ⟨hf0, hf1, hf2, hf3⟩))
         · -- 9
          rintro ⟨bs34, cp35, bs38, cp39⟩ S hF hS D hp K hK
          try dsimp only at hF ⊢
          obtain ⟨hf0, hf1, hf2, hf3⟩ := hF
          have s6 := hp 6 rfl
          have s8 := hp 8 rfl
          refine d_need (small := [(118, (.bool false)), (120, (.bool false))]) ⟨look_row rfl 6 rfl s6, look_row rfl 8 rfl s8, trivial⟩ ?_
          refine tp rfl (lv_pick_f rfl rfl) ?_
          exact d_closes ⟨look_row rfl 6 rfl s6, look_row rfl 8 rfl s8, trivial⟩ 9 rfl rfl rfl hS (AgreeR.refl _) (t_sat (fun _ h => h) (hK (bs34, cp35, bs38, cp39) ⟨hf0, hf1, hf2, hf3⟩))
         · -- 10
          rintro ⟨bs34, cp35, bs38, cp39⟩ S hF hS D hp K hK
          try dsimp only at hF ⊢
          obtain ⟨hf0, hf1, hf2, hf3⟩ := hF
          have s9 := hp 9 rfl
          refine d_need (small := [(121, (.bool false))]) ⟨look_row rfl 9 rfl s9, trivial⟩ ?_
          refine tp rfl (lv_move rfl) ?_
          exact d_closes ⟨look_row rfl 9 rfl s9, trivial⟩ 10 rfl rfl rfl hS (AgreeR.refl _) (t_sat (fun _ h => h) (hK (bs34, cp35, bs38, cp39) ⟨hf0, hf1, hf2, hf3⟩))
         · -- 11
          rintro ⟨bs34, cp35, bs38, cp39⟩ S hF hS D hp K hK
          try dsimp only at hF ⊢
          obtain ⟨hf0, hf1, hf2, hf3⟩ := hF
          have s10 := hp 10 rfl
          refine d_need (small := [(6, (.pointer (some ⟨p1, 0, none⟩))), (122, (.bool false))]) ⟨look_b rfl rfl, look_row rfl 10 rfl s10, trivial⟩ ?_
          refine t_guard rfl rfl ?_
          refine tp rfl (lv_move rfl) ?_
          exact d_closes ⟨look_b rfl rfl, look_row rfl 10 rfl s10, trivial⟩ 11 rfl rfl rfl hS (AgreeR.refl _) (t_sat (fun _ h => h) (hK (bs34, cp35, bs38, cp39) ⟨hf0, hf1, hf2, hf3⟩))
         · -- 12
          rintro ⟨bs34, cp35, bs38, cp39⟩ S hF hS D hp K hK
          try dsimp only at hF ⊢
          obtain ⟨hf0, hf1, hf2, hf3⟩ := hF
          have s10 := hp 10 rfl
          have s11 := hp 11 rfl
          refine d_need (small := [(122, (.bool false)), (123, (.pointer (some ⟨p1, 0, none⟩)))]) ⟨look_row rfl 10 rfl s10, look_row rfl 11 rfl s11, trivial⟩ ?_
          refine t_guard rfl rfl ?_
          refine tc rfl (en_fn Try.call16 rfl) (actives_ok (A := 1) (Q := 20) (s := nowS l (m + 1)) (by simp [nowS]; omega)) ?_
          rintro _ _ ⟨bs34, cp35, hok36, hle37, rfl, rfl⟩
          refine t_sat (fun _ h => sat_put [_, _] h) ?_
          exact d_closes ⟨look_row rfl 10 rfl s10, look_row rfl 11 rfl s11, trivial⟩ 12 rfl rfl rfl hS (by exact ⟨.inl rfl, .inl rfl, .inl rfl, .inl rfl, .inl rfl, .inl rfl, .inl rfl, .inl rfl, .inl rfl, .inl rfl, .inl rfl, .inl rfl, .inr ⟨rfl, rfl, hS⟩, .inl rfl, .inl rfl, .inl rfl, .inl rfl, .inl rfl, .inl rfl, .inl rfl, .inl rfl, trivial⟩) (t_sat (fun _ h => h) (hK (bs34, cp35, bs38, cp39) ⟨(fun _ => hok36), (fun _ => hle37), hf2, hf3⟩))
         · -- 13
          rintro ⟨bs34, cp35, bs38, cp39⟩ S hF hS D hp K hK
          try dsimp only at hF ⊢
          obtain ⟨hf0, hf1, hf2, hf3⟩ := hF
          have s10 := hp 10 rfl
          refine d_need (small := [(9, (.slice bw l.length cw)), (122, (.bool false))]) ⟨look_b rfl rfl, look_row rfl 10 rfl s10, trivial⟩ ?_
          refine t_guard rfl rfl ?_
          refine tp rfl (lv_move rfl) ?_
          exact d_closes ⟨look_b rfl rfl, look_row rfl 10 rfl s10, trivial⟩ 13 rfl rfl rfl hS (AgreeR.refl _) (t_sat (fun _ h => h) (hK (bs34, cp35, bs38, cp39) ⟨hf0, hf1, hf2, hf3⟩))
         · -- 14
          rintro ⟨bs34, cp35, bs38, cp39⟩ S hF hS D hp K hK
          try dsimp only at hF ⊢
          obtain ⟨hf0, hf1, hf2, hf3⟩ := hF
          have s10 := hp 10 rfl
          refine d_need (small := [(17, (.int .i64 ((m : Nat) : Int))), (122, (.bool false))]) ⟨look_b rfl rfl, look_row rfl 10 rfl s10, trivial⟩ ?_
          refine t_guard rfl rfl ?_
          refine tp rfl (lv_move rfl) ?_
          exact d_closes ⟨look_b rfl rfl, look_row rfl 10 rfl s10, trivial⟩ 14 rfl rfl rfl hS (AgreeR.refl _) (t_sat (fun _ h => h) (hK (bs34, cp35, bs38, cp39) ⟨hf0, hf1, hf2, hf3⟩))
         · -- 15
          rintro ⟨bs34, cp35, bs38, cp39⟩ S hF hS D hp K hK
          try dsimp only at hF ⊢
          obtain ⟨hf0, hf1, hf2, hf3⟩ := hF
          have s10 := hp 10 rfl
          have s13 := hp 13 rfl
          have s14 := hp 14 rfl
          refine d_need (small := [(122, (.bool false)), (125, (.slice bw l.length cw)), (126, (.int .i64 ((m : Nat) : Int)))]) ⟨look_row rfl 10 rfl s10, look_row rfl 13 rfl s13, look_row rfl 14 rfl s14, trivial⟩ ?_
          refine t_guard rfl rfl ?_
          refine tp rfl (lv_indexAddr (k' := m) Try.underlying27 Try.sizeOf3 rfl rfl hbw (by omega) (by omega) (by omega)) ?_
          exact d_closes ⟨look_row rfl 10 rfl s10, look_row rfl 13 rfl s13, look_row rfl 14 rfl s14, trivial⟩ 15 rfl rfl rfl hS (AgreeR.refl _) (t_sat (fun _ h => h) (hK (bs34, cp35, bs38, cp39) ⟨hf0, hf1, hf2, hf3⟩))
         · -- 16
          rintro ⟨bs34, cp35, bs38, cp39⟩ S hF hS D hp K hK
          try dsimp only at hF ⊢
          obtain ⟨hf0, hf1, hf2, hf3⟩ := hF
          have s10 := hp 10 rfl
          have s15 := hp 15 rfl
          refine d_need (small := [(122, (.bool false)), (127, (.pointer (some (ad bw m))))]) ⟨look_row rfl 10 rfl s10, look_row rfl 15 rfl s15, trivial⟩ ?_
          refine t_guard rfl rfl ?_
          refine tp rfl (lv_load Try.isAgg3 rfl (gives_sl (.tail _ (.head _)) (ints_get (by omega)))) ?_
          exact d_closes ⟨look_row rfl 10 rfl s10, look_row rfl 15 rfl s15, trivial⟩ 16 rfl rfl rfl hS (AgreeR.refl _) (t_sat (fun _ h => h) (hK (bs34, cp35, bs38, cp39) ⟨hf0, hf1, hf2, hf3⟩))
         · -- 17
          rintro ⟨bs34, cp35, bs38, cp39⟩ S hF hS D hp K hK
          try dsimp only at hF ⊢
          obtain ⟨hf0, hf1, hf2, hf3⟩ := hF
          have s10 := hp 10 rfl
          have s16 := hp 16 rfl
          refine d_need (small := [(122, (.bool false)), (128, (.int .i64 ((l).getD m 0)))]) ⟨look_row rfl 10 rfl s10, look_row rfl 16 rfl s16, trivial⟩ ?_
          refine t_guard rfl rfl ?_
          refine tm rfl (mv_buildSlice (cs := [(.int .i64 ((l).getD m 0))]) Try.underlying27 Try.sizeOf3 Try.zeroValue3 (by decide) rfl rfl rfl rfl) ?_
          rintro _ _ ⟨bs38, cp39, hok40, hle41, rfl, rfl⟩
          refine t_sat (fun _ h => sat_put [_, _, _] h) ?_
          exact d_closes ⟨look_row rfl 10 rfl s10, look_row rfl 16 rfl s16, trivial⟩ 17 rfl rfl rfl hS (by exact ⟨.inl rfl, .inl rfl, .inl rfl, .inl rfl, .inl rfl, .inl rfl, .inl rfl, .inl rfl, .inl rfl, .inl rfl, .inl rfl, .inl rfl, .inl rfl, .inl rfl, .inl rfl, .inl rfl, .inl rfl, .inr ⟨rfl, rfl, hS⟩, .inl rfl, .inl rfl, .inl rfl, trivial⟩) (t_sat (fun _ h => h) (hK (bs34, cp35, bs38, cp39) ⟨hf0, hf1, (fun _ => hok40), (fun _ => hle41)⟩))
         · -- 18
          rintro ⟨bs34, cp35, bs38, cp39⟩ S hF hS D hp K hK
          try dsimp only at hF ⊢
          obtain ⟨hf0, hf1, hf2, hf3⟩ := hF
          have s12 := hp 12 rfl
          have hok36 := hf0 s12
          have hle37 := hf1 s12
          have s17 := hp 17 rfl
          have hok40 := hf2 s17
          have hle41 := hf3 s17
          have s10 := hp 10 rfl
          refine d_need (small := [(122, (.bool false)), (124, (.slice bs34 (((nowS l (m + 1)).a).length) cp35)), (129, (.slice bs38 1 cp39))]) ⟨look_row rfl 10 rfl s10, look_row rfl 12 rfl s12, look_row rfl 17 rfl s17, trivial⟩ ?_
          refine t_f2 ?_
          refine t_cT s12 ?_
          refine t_f3 ?_
          refine t_cT s17 ?_
          refine t_guard rfl rfl ?_
          refine tc rfl (en_fn Try.call21 rfl) (ints_ok ((nowS l (m + 1)).a) [(l).getD m 0] (rd_sl (.tail _ (.head _))) (rd_sl (.head _)) hok36 hok40 (by show 1 ≤ _; omega) (by first | omega | (simp; omega) | (simp; done))) ?_
          rintro _ _ ⟨rfl, rfl⟩
          rw [show eqI ((nowS l (m + 1)).a) [(l).getD m 0] = true from (eqI_refl _)]
          refine t_f1 ?_
          refine t_wT (B := Emp) s12 ?_
          refine t_f1 ?_
          refine t_wT (B := Emp) s17 ?_
          refine t_f1 ?_
          refine t_f3 ?_
          refine t_f3 ?_
          exact d_closes ⟨look_row rfl 10 rfl s10, look_row rfl 12 rfl s12, look_row rfl 17 rfl s17, trivial⟩ 18 rfl rfl rfl hS (AgreeR.refl _) (t_sat (fun _ h => h) (hK (bs34, cp35, bs38, cp39) ⟨hf0, hf1, hf2, hf3⟩))
         · -- 19
          rintro ⟨bs34, cp35, bs38, cp39⟩ S hF hS D hp K hK
          try dsimp only at hF ⊢
          obtain ⟨hf0, hf1, hf2, hf3⟩ := hF
          have s18 := hp 18 rfl
          have s12 := D 18 12 rfl s18
          have hok36 := hf0 s12
          have hle37 := hf1 s12
          have s17 := D 18 17 rfl s18
          have hok40 := hf2 s17
          have hle41 := hf3 s17
          have s10 := hp 10 rfl
          refine d_need (small := [(122, (.bool false)), (130, (.bool true))]) ⟨look_row rfl 10 rfl s10, look_row rfl 18 rfl s18, trivial⟩ ?_
          refine t_guard rfl rfl ?_
          refine tp rfl (lv_not (c := false) rfl rfl) ?_
          exact d_closes ⟨look_row rfl 10 rfl s10, look_row rfl 18 rfl s18, trivial⟩ 19 rfl rfl rfl hS (AgreeR.refl _) (t_sat (fun _ h => h) (hK (bs34, cp35, bs38, cp39) ⟨hf0, hf1, hf2, hf3⟩))
         · -- 20
          rintro ⟨bs34, cp35, bs38, cp39⟩ S hF hS D hp K hK
          try dsimp only at hF ⊢
          obtain ⟨hf0, hf1, hf2, hf3⟩ := hF
          have s10 := hp 10 rfl
          have s19 := hp 19 rfl
          refine d_need (small := [(122, (.bool false)), (131, (.bool false))]) ⟨look_row rfl 10 rfl s10, look_row rfl 19 rfl s19, trivial⟩ ?_
          refine tp rfl (lv_pick_f rfl rfl) ?_
          exact d_closes ⟨look_row rfl 10 rfl s10, look_row rfl 19 rfl s19, trivial⟩ 20 rfl rfl rfl hS (AgreeR.refl _) (t_sat (fun _ h => h) (hK (bs34, cp35, bs38, cp39) ⟨hf0, hf1, hf2, hf3⟩))
        · -- behind
         rintro ⟨bs34, cp35, bs38, cp39⟩ hF
         try dsimp only at hF ⊢
         obtain ⟨hf0, hf1, hf2, hf3⟩ := hF
         have hok36 := hf0 rfl
         have hle37 := hf1 rfl
         have hok40 := hf2 rfl
         have hle41 := hf3 rfl
         refine t_weak (E' := [(0, (.int .i64 ((k : Nat) : Int))), (1, (.slice bl bs.length cl)), (5, (.bool true)), (6, (.pointer (some ⟨p1, 0, none⟩))), (7, (.int .i64 1)), (8, (.int .i64 0)), (9, (.slice bw l.length cw)), (10, (.int .i64 ((i : Nat) : Int))), (13, (.int .i64 ((k : Nat) : Int))), (16, (.int .i64 (nowV l m))), (17, (.int .i64 ((m : Nat) : Int))), (18, (.int .i64 ((l).getD m 0))), (19, (.int .i64 0)), (28, (.bool false)), (39, (.bool false)), (42, (.bool false)), (59, (.bool false)), (99, (.bool false)), (103, (.bool true)), (132, (.bool false))]) ⟨rfl, rfl, rfl, rfl, rfl, rfl, rfl, rfl, rfl, rfl, rfl, rfl, rfl, rfl, rfl, rfl, rfl, rfl, rfl, rfl, trivial⟩ ?_
         refine q_then_n (hK32 _ _ ?_)
         refine c_false rfl ?_
         refine c_skip ?_
         refine q_then_n (hK31 _ _ ?_)
         refine c_region ?_
         refine tp rfl (lv_move rfl) ?_
         refine tp rfl (lv_move rfl) ?_
         refine tp rfl (lv_indexAddr (k' := m) Try.underlying27 Try.sizeOf3 rfl rfl hbw (by omega) (by omega) (by omega)) ?_
         refine tp rfl (lv_load Try.isAgg3 rfl (gives_sl (.tail _ (.head _)) (ints_get (by omega)))) ?_
         refine tp rfl (lv_assign rfl) ?_
         refine t_done ?_
         refine q_in_n ?_
         refine q_then_n (hK29 _ _ ?_)
         refine c_region ?_
         refine tp rfl (lv_move rfl) ?_
         refine tp rfl (lv_add (c := ((m + 1 : Nat) : Int)) rfl rfl (wr_i64_succ (by omega))) ?_
         refine tp rfl (lv_assign rfl) ?_
         refine t_done ?_
         refine q_then_n ?_
         refine t_f2 ?_
         refine t_drop ?_
         refine t_f2 ?_
         refine t_drop ?_
         exact t_weak (by exact ⟨rfl, rfl, rfl, rfl, rfl, rfl, rfl, rfl, rfl, rfl, rfl, rfl, rfl, rfl, rfl, rfl, trivial⟩) ((hK26 (m + 1) (by omega) (by omega)))
      · -- no
        refine tp rfl (lv_lss rfl rfl (decide_eq_false h33)) ?_
        refine t_done ?_
        refine q_then_n (hK28 _ _ ?_)
        refine c_false rfl ?_
        refine c_exit ?_
        refine q_then_x ?_
        refine q_then_x ?_
        refine q_in_x ?_
        refine q_then_n (hK24 _ _ ?_)
        refine c_seq (fun K29 hK29 => ?_)
        refine c_region ?_
        obtain ⟨e1, e2, e3⟩ := nowS_last (l := l) (k := m) (by omega)
        refine tp rfl (lv_move rfl) ?_
        refine tp rfl (lv_move rfl) ?_
        refine tc rfl (en_fn Try.call14 rfl) (aend_ok (A := 1) (Q := 20) (s := nowS l m) (nowV l m) (by simp [nowS]; omega)) ?_
        rintro _ _ ⟨rfl, rfl⟩
        rw [show endS (nowS l m) (nowV l m) = ⟨[], []⟩ from e1]
        rw [show endV (nowS l m) (nowV l m) = (-1) from e2]
        rw [show endEr (nowS l m) (nowV l m) = 0 from e3]
        refine tp rfl (lv_move rfl) ?_
        refine tp rfl (lv_extract rfl rfl) ?_
        refine tp rfl (lv_extract rfl rfl) ?_
        refine tp rfl (lv_assign rfl) ?_
        refine tp rfl (lv_assign rfl) ?_
        refine t_done ?_
        refine q_then_n (hK29 _ _ ?_)
        refine c_seq (fun K30 hK30 => ?_)
        refine c_region ?_
        refine tp rfl (lv_move rfl) ?_
        refine tp rfl (lv_move rfl) ?_
        refine t_guard rfl rfl ?_
        refine tp rfl (lv_move rfl) ?_
        refine t_guard rfl rfl ?_
        refine tp rfl (lv_eql (r := true) rfl rfl (by decide)) ?_
        refine tp rfl (lv_pick_t rfl rfl) ?_
        refine tp rfl (lv_move rfl) ?_
        refine t_guard rfl rfl ?_
        refine tp rfl (lv_move rfl) ?_
        refine t_guard rfl rfl ?_
        refine tp rfl (lv_eql (r := true) rfl rfl (by decide)) ?_
        refine tp rfl (lv_pick_t rfl rfl) ?_
        refine tp rfl (lv_move rfl) ?_
        refine t_guard rfl rfl ?_
        refine tp rfl (lv_move rfl) ?_
        refine t_guard rfl rfl ?_
        refine tc rfl (en_fn Try.call16 rfl) (actives_ok (A := 1) (Q := 20) (s := ⟨[], []⟩) (by decide)) ?_
        rintro _ _ ⟨bs34, cp35, hok36, hle37, rfl, rfl⟩
        refine t_guard rfl rfl ?_
        refine tp rfl (lv_len Try.underlying27 rfl rfl) ?_
        refine t_guard rfl rfl ?_
        refine tp rfl (lv_eql rfl rfl (beq_iff_eq.2 rfl)) ?_
        refine tp rfl (lv_pick_t rfl rfl) ?_
        refine tp rfl (lv_assign rfl) ?_
        refine t_done ?_
        refine q_then_n (hK30 _ _ ?_)
        refine c_ret ?_
        refine t_drop ?_
        refine t_drop ?_
        refine t_drop ?_
        refine q_ret rfl rfl ?_
        exact ⟨rfl, rfl⟩
end Go.Proofs.Ythhmdcbhgnoemaa
