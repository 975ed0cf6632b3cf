/- PickMoved: the law's walk. -/
import Derived.Test.YtfoiopbjomaclaaDoorLa
import Derived.Test.YtfoiopbjomaclaaDoorPib
set_option maxRecDepth 100000
set_option linter.unusedVariables false
set_option linter.unusedSimpArgs false
namespace Go.Proofs.YtfoiopbjomaclaaDoor
open Go Go.Proofs Sp
set_option maxHeartbeats 4000000 in
theorem moved_law {R : List HP} {ba : Option Addr} {ca : Nat} (xs : List Int) (ha : Rd R ba (ints .i64 xs)) (oka : SlOk ba xs.length) (la : xs.length ≤ 9223372036854775807) (lca : xs.length ≤ ca) {bp : Option Addr} {cp : Nat} (ys : List Int) (hp : Rd R bp (ints .i64 ys)) (okp : SlOk bp ys.length) (lp : ys.length ≤ 9223372036854775807) (lcp : ys.length ≤ cp) (d0 : Int) (hT : Tab R) :
    Ok Tryd.prog 7 [(.slice ba xs.length ca), (.slice bp ys.length cp), (.int .i64 d0)] R
      (fun v M => v = .bool true ∧ M = R) := by
  obtain ⟨n1, hn1n⟩ : ∃ n, n = min xs.length 60 := ⟨_, rfl⟩
  obtain ⟨us, husl⟩ : ∃ l, l = xs.take n1 := ⟨_, rfl⟩
  have usn : us.length = n1 := by rw [husl, List.length_take]; omega
  have rda : Rd R ba (ints .i64 us) := by rw [husl]; exact rd_tk_ints n1 ha
  obtain ⟨d, hd⟩ : ∃ d, d = d0 % 1024 := ⟨_, rfl⟩
  have hd0 : 0 ≤ d := by omega
  have hd1 : d ≤ 1023 := by omega
  refine ok_of (N := 104) Tryd.func7 rfl rfl rfl (fun W => ?_)
  refine c_seq (fun K1 hK1 => ?_)
  refine c_region ?_
  refine tp rfl (lv_assign rfl) ?_
  refine t_done ?_
  refine q_then_n (hK1 _ _ ?_)
  refine c_seq (fun K2 hK2 => ?_)
  refine c_region ?_
  refine tc rfl (en_fn Tryd.call8 rfl) (shown_ok hT) ?_
  rintro _ _ ⟨rfl, hMR⟩
  rw [hMR]; clear hMR
  refine tp rfl (lv_assign rfl) ?_
  refine t_done ?_
  refine q_then_n (hK2 _ _ ?_)
  refine c_seq (fun K3 hK3 => ?_)
  refine c_region ?_
  refine tp rfl (lv_move rfl) ?_
  refine tp rfl (lv_move rfl) ?_
  refine tp rfl (lv_len Tryd.underlying22 rfl rfl) ?_
  refine tp rfl (lv_min (c := ((n1 : Nat) : Int)) rfl rfl (by omega)) ?_
  refine tp rfl (lv_slice (l := 0) (h := n1) (m := ca) (v := (.slice ba n1 ca)) Tryd.underlying22 Tryd.sizeOf3 rfl rfl rfl rfl (.inr ⟨rfl, rfl⟩) (.inl ⟨_, _, rfl, (by omega), (by omega), (by omega)⟩) (.inr ⟨rfl, rfl⟩) (by simp) (by rw [sbase_zero]; rfl)) ?_
  refine tp rfl (lv_assign rfl) ?_
  refine t_done ?_
  refine q_then_n (hK3 _ _ ?_)
  refine c_seq (fun K4 hK4 => ?_)
  refine c_region ?_
  refine tp rfl (lv_move rfl) ?_
  refine tp rfl (lv_and (c := d) rfl rfl ((and_1023 d0).trans hd.symm)) ?_
  refine tp rfl (lv_assign rfl) ?_
  refine t_done ?_
  refine q_then_n (hK4 _ _ ?_)
  refine c_seq (fun K5 hK5 => ?_)
  refine c_region ?_
  refine tp rfl (lv_assign rfl) ?_
  refine t_done ?_
  refine q_then_n (hK5 _ _ ?_)
  refine c_seq (fun K6 hK6 => ?_)
  refine c_region ?_
  refine tp rfl (lv_assign rfl) ?_
  refine t_done ?_
  refine q_then_n (hK6 _ _ ?_)
  refine c_seq (fun K7 hK7 => ?_)
  refine c_seq (fun K8 hK8 => ?_)
  refine c_region ?_
  refine tp rfl (lv_assign rfl) ?_
  refine t_done ?_
  refine q_then_n (hK8 _ _ ?_)
  refine c_block ?_
  refine t_sat (fun _ h => sat_nilsl 3 1 h) ?_
  refine t_sat (fun _ h => sat_nilsl 3 1 h) ?_
  refine c_loop (γ := (Nat) × (Option Addr) × (Nat) × (Option Addr) × (Nat)) (fun (i, bv, cv, bw, cw) => i ≤ 60 ∧ i ≤ ys.length ∧ SlOk bv i ∧ i ≤ cv ∧ SlOk bw i ∧ i ≤ cw) (fun (i, bv, cv, bw, cw) => [(0, (.slice ba n1 ca)), (1, (.slice bp ys.length cp)), (2, (.int .i64 d)), (6, (.bool false)), (7, (.bool true)), (8, (.slice bv i cv)), (9, (.slice bw i cw)), (10, (.int .i64 ((i : Nat) : Int)))]) (fun (i, bv, cv, bw, cw) => (SlV 3 1 (.slice bv i cv) i (ints .i64 ((ys.take i).map lowF))) :: (SlV 3 1 (.slice bw i cw) i (ints .i64 ((ys.take i).map (highF d)))) :: R) (fun (i, bv, cv, bw, cw) => 60 - i) (0, none, 0, none, 0) ⟨by omega, by omega, slok_none, Nat.le_refl _, slok_none, Nat.le_refl _⟩ ⟨rfl, rfl, rfl, rfl, rfl, rfl, rfl, rfl, trivial⟩ (fun _ h => by simp only [List.take_zero, List.map_nil]; exact h) ?_
  rintro ⟨i, bv, cv, bw, cw⟩ K9 hF hK9
  try dsimp only at hF hK9 ⊢
  obtain ⟨hi, hi2, hok1, hle1, hok2, hle2⟩ := hF
  have hlb := lowF_bd (ys.getD i 0)
  refine c_seq (fun K10 hK10 => ?_)
  refine c_seq (fun K11 hK11 => ?_)
  refine c_region ?_
  by_cases hc1 : ((i : Nat) : Int) < ((ys.length : Nat) : Int) ∧ ((i : Nat) : Int) < 60
  · -- both
    have hc1a := hc1.1
    have hc1b := hc1.2
    refine tp rfl (lv_move rfl) ?_
    refine tp rfl (lv_move rfl) ?_
    refine tp rfl (lv_len Tryd.underlying22 rfl rfl) ?_
    refine tp rfl (lv_lss rfl rfl (decide_eq_true hc1.1)) ?_
    refine tp rfl (lv_move rfl) ?_
    refine t_guard rfl rfl ?_
    refine tp rfl (lv_move rfl) ?_
    refine t_guard rfl rfl ?_
    refine tp rfl (lv_lss rfl rfl (decide_eq_true hc1.2)) ?_
    refine tp rfl (lv_pick_t rfl rfl) ?_
    refine t_done ?_
    refine q_then_n (hK11 _ _ ?_)
    refine c_true rfl ?_
    refine c_skip ?_
    refine q_then_n (hK10 _ _ ?_)
    refine c_seq (fun K12 hK12 => ?_)
    refine c_block ?_
    refine c_seq (fun K13 hK13 => ?_)
    refine c_region ?_
    refine tp rfl (lv_move rfl) ?_
    refine tp rfl (lv_move rfl) ?_
    refine tp rfl (lv_indexAddr (k' := i) Tryd.underlying22 Tryd.sizeOf3 rfl rfl okp (by omega) (by omega) (by omega)) ?_
    refine tp rfl (lv_load Tryd.isAgg3 rfl (Rd.gives (Rd.cons (Rd.cons hp)) (ints_get (by first | omega | (simp; omega))))) ?_
    refine tp rfl (lv_and (c := ys.getD i 0 % 65536) rfl rfl (and_ffff _)) ?_
    refine tp rfl (lv_rem (c := lowF (ys.getD i 0)) rfl rfl (by omega) (Int.tmod_eq_emod_of_nonneg (by omega))) ?_
    refine tp rfl (lv_assign rfl) ?_
    refine t_done ?_
    refine q_then_n (hK13 _ _ ?_)
    refine c_seq (fun K14 hK14 => ?_)
    refine c_region ?_
    refine tp rfl (lv_move rfl) ?_
    refine tp rfl (lv_move rfl) ?_
    refine tm rfl (mv_buildSlice (cs := [(.int .i64 (lowF (ys.getD i 0)))]) Tryd.underlying22 Tryd.sizeOf3 Tryd.zeroValue3 (by decide) rfl rfl rfl rfl) ?_
    rintro _ _ ⟨bs2, cp3, hok4, hle5, rfl, rfl⟩
    refine t_f1 ?_
    refine tm rfl (mv_append (i := Tryd.t3) Tryd.underlying22 Tryd.type3 rfl rfl rfl (by decide) rfl rfl hok4 (by first | (simp; done) | (simp; omega)) (rd_sl (.tail _ (.head _))) (by simp [Value.oneCell']) (by rw [show Tryd.t3.bytes = 8 from rfl]; omega)) ?_
    rintro _ _ ⟨bs6, cp7, hok8, hle9, rfl, rfl⟩
    rw [show ints .i64 ((ys.take i).map lowF) ++ [(.int .i64 (lowF (ys.getD i 0)))] = ints .i64 (((ys.take i).map lowF) ++ [lowF (ys.getD i 0)]) from ints_snoc _ _ _]
    refine tp rfl (lv_assign rfl) ?_
    refine t_done ?_
    refine q_then_n (hK14 _ _ ?_)
    refine c_region ?_
    refine tp rfl (lv_move rfl) ?_
    refine tp rfl (lv_move rfl) ?_
    refine tp rfl (lv_mul (c := 2 * (lowF (ys.getD i 0))) rfl rfl (wr_i64 (by omega) (by omega))) ?_
    refine tp rfl (lv_move rfl) ?_
    refine tp rfl (lv_add (c := highF d (ys.getD i 0)) rfl rfl (wr_i64 (by omega) (by omega))) ?_
    refine tm rfl (mv_buildSlice (cs := [(.int .i64 (highF d (ys.getD i 0)))]) Tryd.underlying22 Tryd.sizeOf3 Tryd.zeroValue3 (by decide) rfl rfl rfl rfl) ?_
    rintro _ _ ⟨bs10, cp11, hok12, hle13, rfl, rfl⟩
    refine t_f3 ?_
    refine tm rfl (mv_append (i := Tryd.t3) Tryd.underlying22 Tryd.type3 rfl rfl rfl (by decide) rfl rfl hok12 (by first | (simp; done) | (simp; omega)) (rd_sl (.tail _ (.head _))) (by simp [Value.oneCell']) (by rw [show Tryd.t3.bytes = 8 from rfl]; omega)) ?_
    rintro _ _ ⟨bs14, cp15, hok16, hle17, rfl, rfl⟩
    rw [show ints .i64 ((ys.take i).map (highF d)) ++ [(.int .i64 (highF d (ys.getD i 0)))] = ints .i64 (((ys.take i).map (highF d)) ++ [highF d (ys.getD i 0)]) from ints_snoc _ _ _]
    refine tp rfl (lv_assign rfl) ?_
    refine t_done ?_
    refine q_in_n ?_
    refine q_then_n (hK12 _ _ ?_)
    refine c_region ?_
    refine tp rfl (lv_move rfl) ?_
    refine tp rfl (lv_add (c := ((i + 1 : Nat) : Int)) rfl rfl (wr_i64_succ (by omega))) ?_
    refine tp rfl (lv_assign rfl) ?_
    refine t_done ?_
    refine q_then_n ?_
    refine t_f1 ?_
    refine t_drop ?_
    refine t_f2 ?_
    refine t_drop ?_
    refine t_f1 ?_
    rw [show ((ys.take i).map lowF) ++ [lowF (ys.getD i 0)] = (ys.take (i + 1)).map lowF from map_snoc (f := lowF) (by omega)]
    rw [show ((ys.take i).map (highF d)) ++ [highF d (ys.getD i 0)] = (ys.take (i + 1)).map (highF d) from map_snoc (f := highF d) (by omega)]
    exact t_weak (by exact ⟨rfl, rfl, rfl, rfl, rfl, rfl, rfl, rfl, trivial⟩) ((hK9 (i + 1, bs6, cp7, bs14, cp15) ⟨by omega, by omega, hok8, hle9, hok16, hle17⟩ (by dsimp only; omega)))
  · -- not both
    refine t_cut0 (E' := [(0, (.slice ba n1 ca)), (1, (.slice bp ys.length cp)), (2, (.int .i64 d)), (6, (.bool false)), (7, (.bool true)), (8, (.slice bv i cv)), (9, (.slice bw i cw)), (10, (.int .i64 ((i : Nat) : Int))), (31, (.bool false))]) ?_ (fun KK hKK => ?_)
    ·
      refine q_then_n (hK11 _ _ ?_)
      refine c_false rfl ?_
      refine c_exit ?_
      refine q_then_x ?_
      refine q_then_x ?_
      refine q_in_x ?_
      refine q_then_n (hK7 _ _ ?_)
      refine c_seq (fun K12 hK12 => ?_)
      refine c_region ?_
      obtain ⟨m, hm⟩ : ∃ m, m = min n1 i := ⟨_, rfl⟩
      have hmv := best_moved us (ys.take i) d hd0 m (by rw [List.length_take]; omega)
      have hB := best_inv us ((ys.take i).map lowF) m
      have hbl := bestN_len us ((ys.take i).map lowF) m
      refine tp rfl (lv_move rfl) ?_
      refine tp rfl (lv_move rfl) ?_
      refine tc rfl (en_fn Tryd.call13 rfl) (best_ok (m := m) us ((ys.take i).map lowF) (by first | rfl | omega | (simp; done) | (simp; omega)) (by first | rfl | omega | (simp; done) | (simp; omega)) (by first | rfl | omega | (simp; done) | (simp; omega)) (Rd.cons (Rd.cons rda)) (rd_sl (.head _)) (fun hz => oka (by omega)) hok1 (by first | omega | (simp; omega) | (simp; done)) (by first | omega | (simp; omega) | (simp; done)) (by first | omega | (simp; omega))) ?_
      rintro _ _ ⟨bs18, cp19, hok20, hle21, rfl, rfl⟩
      refine tp rfl (lv_move rfl) ?_
      refine tp rfl (lv_extract rfl rfl) ?_
      refine tp rfl (lv_extract rfl rfl) ?_
      refine tp rfl (lv_assign rfl) ?_
      refine tp rfl (lv_assign rfl) ?_
      refine t_done ?_
      refine q_then_n (hK12 _ _ ?_)
      refine c_seq (fun K13 hK13 => ?_)
      refine c_region ?_
      refine tp rfl (lv_move rfl) ?_
      refine tp rfl (lv_move rfl) ?_
      refine tc rfl (en_fn Tryd.call13 rfl) (best_ok (m := m) us ((ys.take i).map (highF d)) (by first | rfl | omega | (simp; done) | (simp; omega)) (by first | rfl | omega | (simp; done) | (simp; omega)) (by first | rfl | omega | (simp; done) | (simp; omega)) (Rd.cons (Rd.cons (Rd.cons rda))) (rd_sl (.tail _ (.tail _ (.head _)))) (fun hz => oka (by omega)) hok2 (by first | omega | (simp; omega) | (simp; done)) (by first | omega | (simp; omega) | (simp; done)) (by first | omega | (simp; omega))) ?_
      rintro _ _ ⟨bs22, cp23, hok24, hle25, rfl, rfl⟩
      refine tp rfl (lv_move rfl) ?_
      refine tp rfl (lv_extract rfl rfl) ?_
      refine tp rfl (lv_extract rfl rfl) ?_
      refine tp rfl (lv_assign rfl) ?_
      refine tp rfl (lv_assign rfl) ?_
      refine t_done ?_
      refine q_then_n (hK13 _ _ ?_)
      refine c_seq (fun K14 hK14 => ?_)
      refine c_region ?_
      obtain ⟨hm1, hm2⟩ := hmv
      rw [hm1] at hok24 hle25 ⊢
      obtain ⟨L, hL⟩ : ∃ x, (bestN us ((ys.take i).map lowF) m).2 = x := ⟨_, rfl⟩
      rw [hL] at hm2 hB hbl hok20 hle21 hok24 hle25 ⊢
      obtain ⟨p0, hp0⟩ : ∃ x, (bestN us ((ys.take i).map lowF) m).1 = x := ⟨_, rfl⟩
      rw [hp0] at hm2 hB ⊢
      obtain ⟨q0, hq0⟩ : ∃ x, (bestN us ((ys.take i).map (highF d)) m).1 = x := ⟨_, rfl⟩
      rw [hq0] at hm2 ⊢
      obtain ⟨hz, hn0⟩ := moved_in hB (by rw [List.length_take]; omega) hm2
      refine tp rfl (lv_move rfl) ?_
      refine tp rfl (lv_move rfl) ?_
      refine t_guard rfl rfl ?_
      refine tp rfl (lv_move rfl) ?_
      refine t_guard rfl rfl ?_
      refine tp rfl (lv_move rfl) ?_
      refine t_guard rfl rfl ?_
      refine tc rfl (en_fn Tryd.call19 rfl) (ints_ok L L (rd_sl (.tail _ (.head _))) (rd_sl (.head _)) hok20 hok24 (by omega) (by omega)) ?_
      rintro _ _ ⟨rfl, rfl⟩
      rw [eqI_refl]
      refine tp rfl (lv_pick_t rfl rfl) ?_
      refine tp rfl (lv_move rfl) ?_
      refine t_guard rfl rfl ?_
      refine tp rfl (lv_move rfl) ?_
      refine t_guard rfl rfl ?_
      refine tp rfl (lv_len Tryd.underlying22 rfl rfl) ?_
      refine t_guard rfl rfl ?_
      by_cases hl0 : ((L.length : Nat) : Int) = 0
      · -- yes
        refine tp rfl (lv_eql rfl rfl (beq_iff_eq.2 hl0)) ?_
        refine t_guard rfl rfl ?_
        refine tp rfl (lv_move rfl) ?_
        refine t_guard rfl rfl ?_
        refine tp rfl (lv_move rfl) ?_
        refine t_guard rfl rfl ?_
        refine tp rfl (lv_eql rfl rfl (beq_iff_eq.2 (hz (by omega)).1)) ?_
        refine t_guard rfl rfl ?_
        refine tp rfl (lv_pick_t rfl rfl) ?_
        refine t_guard rfl rfl ?_
        refine tp rfl (lv_move rfl) ?_
        refine t_guard rfl rfl ?_
        refine tp rfl (lv_move rfl) ?_
        refine t_guard rfl rfl ?_
        refine tp rfl (lv_eql rfl rfl (beq_iff_eq.2 (hz (by omega)).2)) ?_
        refine t_guard rfl rfl ?_
        refine tp rfl (lv_pick_t rfl rfl) ?_
        refine t_guard rfl rfl ?_
        refine tp rfl (lv_move rfl) ?_
        refine t_skip rfl rfl rfl ?_
        refine t_skip rfl rfl rfl ?_
        refine t_skip rfl rfl rfl ?_
        refine t_skip rfl rfl rfl ?_
        refine t_skipu rfl rfl rfl ?_
        refine t_skipu rfl rfl rfl ?_
        refine t_skipu rfl rfl rfl ?_
        refine t_skipu rfl rfl rfl ?_
        refine t_skipu rfl rfl rfl ?_
        refine t_skipu rfl rfl rfl ?_
        refine t_skip rfl rfl rfl ?_
        refine t_skip rfl rfl rfl ?_
        refine t_skipu rfl rfl rfl ?_
        refine t_skipu rfl rfl rfl ?_
        refine t_skipu rfl rfl rfl ?_
        refine t_skipu rfl rfl rfl ?_
        refine t_skipu rfl rfl rfl ?_
        refine t_skipu rfl rfl rfl ?_
        refine t_skipu rfl rfl rfl ?_
        refine t_skip rfl rfl rfl ?_
        refine t_guard rfl rfl ?_
        refine tp rfl (lv_pick_t rfl rfl) ?_
        refine tp rfl (lv_pick_t rfl rfl) ?_
        refine tp rfl (lv_assign rfl) ?_
        refine t_done ?_
        refine q_then_n (hK14 _ _ ?_)
        refine c_ret ?_
        refine t_drop ?_
        refine t_drop ?_
        refine t_drop ?_
        refine t_drop ?_
        refine q_ret rfl rfl ?_
        exact ⟨rfl, rfl⟩
      · -- no
        refine tp rfl (lv_eql rfl rfl (beq_eq_false_iff_ne.2 hl0)) ?_
        obtain ⟨hq0, hp0, hp1, t0, ht0, htm, hts⟩ := hn0 (fun e => hl0 (by rw [e]; rfl))
        clear hn0 hz hm2
        refine t_guard rfl rfl ?_
        refine tp rfl (lv_move rfl) ?_
        refine t_skip rfl rfl rfl ?_
        refine t_skip rfl rfl rfl ?_
        refine t_guard rfl rfl ?_
        refine tp rfl (lv_pick_f rfl rfl) ?_
        refine t_guard rfl rfl ?_
        refine tp rfl (lv_move rfl) ?_
        refine t_skip rfl rfl rfl ?_
        refine t_skip rfl rfl rfl ?_
        refine t_guard rfl rfl ?_
        refine tp rfl (lv_pick_f rfl rfl) ?_
        refine t_guard rfl rfl ?_
        refine tp rfl (lv_move rfl) ?_
        refine t_guard rfl rfl ?_
        refine tp rfl (lv_move rfl) ?_
        refine t_guard rfl rfl ?_
        refine tp rfl (lv_len Tryd.underlying22 rfl rfl) ?_
        refine t_guard rfl rfl ?_
        refine tp rfl (lv_gtr rfl rfl (decide_eq_true (by omega))) ?_
        refine t_guard rfl rfl ?_
        refine tp rfl (lv_move rfl) ?_
        refine t_guard rfl rfl ?_
        refine tp rfl (lv_move rfl) ?_
        refine t_guard rfl rfl ?_
        refine tp rfl (lv_move rfl) ?_
        refine t_guard rfl rfl ?_
        refine tp rfl (lv_mul (c := 2 * p0) rfl rfl (wr_i64 (by omega) (by omega))) ?_
        refine t_guard rfl rfl ?_
        refine tp rfl (lv_move rfl) ?_
        refine t_guard rfl rfl ?_
        refine tp rfl (lv_add (c := (2 * p0) + d) rfl rfl (wr_i64 (by omega) (by omega))) ?_
        refine t_guard rfl rfl ?_
        refine tp rfl (lv_eql rfl rfl (beq_iff_eq.2 hq0)) ?_
        refine t_guard rfl rfl ?_
        refine tp rfl (lv_pick_t rfl rfl) ?_
        refine t_guard rfl rfl ?_
        refine tp rfl (lv_move rfl) ?_
        refine t_guard rfl rfl ?_
        refine tp rfl (lv_move rfl) ?_
        refine t_guard rfl rfl ?_
        refine tp rfl (lv_move rfl) ?_
        refine t_guard rfl rfl ?_
        refine tp rfl (lv_indexAddr (k' := 0) Tryd.underlying22 Tryd.sizeOf3 rfl rfl hok20 (by omega) (by omega) (by omega)) ?_
        refine t_guard rfl rfl ?_
        refine tp rfl (lv_load Tryd.isAgg3 rfl (gives_sl (.tail _ (.head _)) (ints_get (by omega)))) ?_
        refine t_guard rfl rfl ?_
        refine tp rfl (lv_indexAddr (k' := ((L).getD 0 0).toNat) Tryd.underlying22 Tryd.sizeOf3 rfl rfl (fun hz => oka (by omega)) (by omega) (by omega) (by omega)) ?_
        refine t_guard rfl rfl ?_
        refine tp rfl (lv_load Tryd.isAgg3 rfl (Rd.gives (Rd.cons (Rd.cons (Rd.cons (Rd.cons rda)))) (ints_get (by first | omega | (simp; omega))))) ?_
        refine t_guard rfl rfl ?_
        refine tp rfl (lv_eql rfl rfl (beq_iff_eq.2 (by rw [ht0, Int.toNat_natCast]; exact hts))) ?_
        refine t_guard rfl rfl ?_
        refine tp rfl (lv_pick_t rfl rfl) ?_
        refine t_guard rfl rfl ?_
        refine tp rfl (lv_pick_f rfl rfl) ?_
        refine tp rfl (lv_pick_t rfl rfl) ?_
        refine tp rfl (lv_assign rfl) ?_
        refine t_done ?_
        refine q_then_n (hK14 _ _ ?_)
        refine c_ret ?_
        refine t_drop ?_
        refine t_drop ?_
        refine t_drop ?_
        refine t_drop ?_
        refine q_ret rfl rfl ?_
        exact ⟨rfl, rfl⟩
    · -- which
      by_cases hc1A : ((i : Nat) : Int) < ((ys.length : Nat) : Int)
      ·
        have hc1B : ¬ (((i : Nat) : Int) < 60) := fun hh => hc1 ⟨hc1A, hh⟩
        refine tp rfl (lv_move rfl) ?_
        refine tp rfl (lv_move rfl) ?_
        refine tp rfl (lv_len Tryd.underlying22 rfl rfl) ?_
        refine tp rfl (lv_lss rfl rfl (decide_eq_true hc1A)) ?_
        refine tp rfl (lv_move rfl) ?_
        refine t_guard rfl rfl ?_
        refine tp rfl (lv_move rfl) ?_
        refine t_guard rfl rfl ?_
        refine tp rfl (lv_lss rfl rfl (decide_eq_false hc1B)) ?_
        refine tp rfl (lv_pick_t rfl rfl) ?_
        exact t_done (t_weak (by exact ⟨rfl, rfl, rfl, rfl, rfl, rfl, rfl, rfl, rfl, trivial⟩) hKK)
      ·
        refine tp rfl (lv_move rfl) ?_
        refine tp rfl (lv_move rfl) ?_
        refine tp rfl (lv_len Tryd.underlying22 rfl rfl) ?_
        refine tp rfl (lv_lss rfl rfl (decide_eq_false hc1A)) ?_
        refine tp rfl (lv_move rfl) ?_
        refine t_skip rfl rfl rfl ?_
        refine t_skip rfl rfl rfl ?_
        refine tp rfl (lv_pick_f rfl rfl) ?_
        exact t_done (t_weak (by exact ⟨rfl, rfl, rfl, rfl, rfl, rfl, rfl, rfl, rfl, trivial⟩) hKK)
end Go.Proofs.YtfoiopbjomaclaaDoor
