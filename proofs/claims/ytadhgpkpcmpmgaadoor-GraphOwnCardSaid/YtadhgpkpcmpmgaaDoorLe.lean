/- GraphOwn: the law's walk. -/
import Derived.Test.YtadhgpkpcmpmgaaDoorLa
import Derived.Test.YtadhgpkpcmpmgaaDoorBot
set_option maxRecDepth 100000
set_option linter.unusedVariables false
set_option linter.unusedSimpArgs false
namespace Go.Proofs.YtadhgpkpcmpmgaaDoor
open Go Go.Proofs Sp
theorem own_ok {R : List HP} {bl : Option Addr} {cl : Nat} (n : Int) (es : List (Int × Int)) (hl : Rd R bl (pairs es)) (okl : SlOk bl es.length) (ll : es.length ≤ 9223372036854775807) (hT : Tab R) (a : Int) :
    Ok Tryd.prog 6 [(.int .i64 n), (.slice bl es.length cl), (.int .i64 a)] R
      (fun v M => v = .bool true ∧ M = R) := by
  have hln := made_len n es
  have hcn := clampN_le n
  have ho := outs_le (madeE (clampN n) (es.take 200)) a
  have hi := inns_le (madeE (clampN n) (es.take 200)) a
  have hr := reachL_le (clampN n) (madeE (clampN n) (es.take 200)) a
  refine ok_of (N := 91) Tryd.func6 rfl rfl rfl (fun W => ?_)
  refine c_seq (fun K1 hK1 => ?_)
  refine c_region ?_
  refine tp rfl (lv_assign rfl) ?_
  refine t_done ?_
  refine q_then_n (hK1 _ _ ?_)
  refine c_seq (fun K2 hK2 => ?_)
  refine c_region ?_
  refine tc rfl (en_fn Tryd.call10 rfl) (shown_ok hT) ?_
  rintro _ _ ⟨rfl, hMR⟩
  rw [hMR]; clear hMR
  refine tp rfl (lv_assign rfl) ?_
  refine t_done ?_
  refine q_then_n (hK2 _ _ ?_)
  refine c_seq (fun K3 hK3 => ?_)
  refine c_region ?_
  refine tp rfl (lv_move rfl) ?_
  refine tp rfl (lv_move rfl) ?_
  refine tc rfl (en_fn Tryd.call16 rfl) (made_ok n es hl okl (by omega)) ?_
  rintro _ _ ⟨p1, rfl, rfl⟩
  refine tp rfl (lv_assign rfl) ?_
  refine t_done ?_
  refine q_then_n (hK3 _ _ ?_)
  refine c_seq (fun K4 hK4 => ?_)
  refine c_seq (fun K5 hK5 => ?_)
  refine c_region ?_
  refine tp rfl (lv_move rfl) ?_
  refine tp rfl (lv_eqnil Tryd.underlying24 rfl rfl) ?_
  refine t_done ?_
  refine q_then_n (hK5 _ _ ?_)
  refine c_false rfl ?_
  refine c_skip ?_
  refine q_then_n (hK4 _ _ ?_)
  refine c_seq (fun K6 hK6 => ?_)
  refine c_region ?_
  refine tp rfl (lv_move rfl) ?_
  refine tp rfl (lv_move rfl) ?_
  refine tc rfl (en_fn Tryd.call19 rfl) (out_ok (N := clampN n) (es := madeE (clampN n) (es.take 200)) a) ?_
  rintro _ _ ⟨bs2, cp3, hok4, hle5, rfl, rfl⟩
  refine tp rfl (lv_assign rfl) ?_
  refine t_done ?_
  refine q_then_n (hK6 _ _ ?_)
  refine c_seq (fun K7 hK7 => ?_)
  refine c_region ?_
  refine tp rfl (lv_move rfl) ?_
  refine tp rfl (lv_move rfl) ?_
  refine t_f1 ?_
  refine tc rfl (en_fn Tryd.call20 rfl) (in_ok (N := clampN n) (es := madeE (clampN n) (es.take 200)) a) ?_
  rintro _ _ ⟨bs6, cp7, hok8, hle9, rfl, rfl⟩
  refine tp rfl (lv_assign rfl) ?_
  refine t_done ?_
  refine q_then_n (hK7 _ _ ?_)
  refine c_seq (fun K8 hK8 => ?_)
  refine c_region ?_
  refine tp rfl (lv_move rfl) ?_
  refine tp rfl (lv_move rfl) ?_
  refine t_f1 ?_
  refine tc rfl (en_fn Tryd.call15 rfl) (reach_ok (N := clampN n) (es := madeE (clampN n) (es.take 200)) a (Tab.cons (Tab.cons hT))) ?_
  rintro _ _ ⟨bs10, cp11, hok12, hle13, rfl, rfl⟩
  refine tp rfl (lv_assign rfl) ?_
  refine t_done ?_
  refine q_then_n (hK8 _ _ ?_)
  refine c_seq (fun K9 hK9 => ?_)
  refine c_region ?_
  refine tm rfl (mv_buildSlice (cs := []) Tryd.underlying33 Tryd.sizeOf3 Tryd.zeroValue3 (by decide) rfl rfl rfl rfl) ?_
  rintro _ _ ⟨bs14, cp15, hok16, hle17, rfl, rfl⟩
  refine tp rfl (lv_move rfl) ?_
  refine tm rfl (mv_append (i := Tryd.t3) Tryd.underlying33 Tryd.type3 rfl rfl rfl (by decide) rfl rfl hok4 (by simp) (rd_sl (.tail _ (.tail _ (.tail _ (.tail _ (.head _)))))) ints_one (by rw [show Tryd.t3.bytes = 8 from rfl]; omega)) ?_
  rintro _ _ ⟨bs18, cp19, hok20, hle21, rfl, rfl⟩
  simp only [Nat.zero_add] at hok20 hle21 ⊢
  rw [List.nil_append]
  refine tp rfl (lv_assign rfl) ?_
  refine t_done ?_
  refine q_then_n (hK9 _ _ ?_)
  refine c_seq (fun K10 hK10 => ?_)
  refine c_region ?_
  refine tm rfl (mv_buildSlice (cs := []) Tryd.underlying33 Tryd.sizeOf3 Tryd.zeroValue3 (by decide) rfl rfl rfl rfl) ?_
  rintro _ _ ⟨bs22, cp23, hok24, hle25, rfl, rfl⟩
  refine tp rfl (lv_move rfl) ?_
  refine tm rfl (mv_append (i := Tryd.t3) Tryd.underlying33 Tryd.type3 rfl rfl rfl (by decide) rfl rfl hok8 (by simp) (rd_sl (.tail _ (.tail _ (.tail _ (.tail _ (.head _)))))) ints_one (by rw [show Tryd.t3.bytes = 8 from rfl]; omega)) ?_
  rintro _ _ ⟨bs26, cp27, hok28, hle29, rfl, rfl⟩
  simp only [Nat.zero_add] at hok28 hle29 ⊢
  rw [List.nil_append]
  refine tp rfl (lv_assign rfl) ?_
  refine t_done ?_
  refine q_then_n (hK10 _ _ ?_)
  refine c_seq (fun K11 hK11 => ?_)
  refine c_region ?_
  refine tm rfl (mv_buildSlice (cs := []) Tryd.underlying33 Tryd.sizeOf3 Tryd.zeroValue3 (by decide) rfl rfl rfl rfl) ?_
  rintro _ _ ⟨bs30, cp31, hok32, hle33, rfl, rfl⟩
  refine tp rfl (lv_move rfl) ?_
  refine tm rfl (mv_append (i := Tryd.t3) Tryd.underlying33 Tryd.type3 rfl rfl rfl (by decide) rfl rfl hok12 (by simp) (rd_sl (.tail _ (.tail _ (.tail _ (.head _))))) ints_one (by rw [show Tryd.t3.bytes = 8 from rfl]; omega)) ?_
  rintro _ _ ⟨bs34, cp35, hok36, hle37, rfl, rfl⟩
  simp only [Nat.zero_add] at hok36 hle37 ⊢
  rw [List.nil_append]
  refine tp rfl (lv_assign rfl) ?_
  refine t_done ?_
  refine q_then_n (hK11 _ _ ?_)
  refine c_seq (fun K12 hK12 => ?_)
  refine c_seq (fun K13 hK13 => ?_)
  refine c_region ?_
  refine tp rfl (lv_assign rfl) ?_
  refine t_done ?_
  refine q_then_n (hK13 _ _ ?_)
  refine c_block ?_
  refine c_loop (γ := (Nat) × (List Int)) (fun (k1, zs1) => k1 ≤ (outs (madeE (clampN n) (es.take 200)) a).length ∧ zs1.length = (outs (madeE (clampN n) (es.take 200)) a).length) (fun (k1, zs1) => [(0, (.int .i64 n)), (1, (.slice bl es.length cl)), (2, (.int .i64 a)), (6, (.bool false)), (7, (.bool true)), (8, (.pointer (some ⟨p1, 0, none⟩))), (9, (.slice bs2 ((outs (madeE (clampN n) (es.take 200)) a).length) cp3)), (10, (.slice bs6 ((inns (madeE (clampN n) (es.take 200)) a).length) cp7)), (11, (.slice bs10 ((reachL (clampN n) (madeE (clampN n) (es.take 200)) a).length) cp11)), (12, (.slice bs18 ((outs (madeE (clampN n) (es.take 200)) a).length) cp19)), (13, (.slice bs26 ((inns (madeE (clampN n) (es.take 200)) a).length) cp27)), (14, (.slice bs34 ((reachL (clampN n) (madeE (clampN n) (es.take 200)) a).length) cp35)), (15, (.int .i64 ((k1 : Nat) : Int))), (23, (.bool false))]) (fun (k1, zs1) => (SlV 3 1 (.slice bs34 ((reachL (clampN n) (madeE (clampN n) (es.take 200)) a).length) cp35) ((reachL (clampN n) (madeE (clampN n) (es.take 200)) a).length) (ints .i64 (reachL (clampN n) (madeE (clampN n) (es.take 200)) a))) :: (SlV 3 1 (.slice bs26 ((inns (madeE (clampN n) (es.take 200)) a).length) cp27) ((inns (madeE (clampN n) (es.take 200)) a).length) (ints .i64 (inns (madeE (clampN n) (es.take 200)) a))) :: (SlV 3 1 (.slice bs18 ((outs (madeE (clampN n) (es.take 200)) a).length) cp19) ((outs (madeE (clampN n) (es.take 200)) a).length) (ints .i64 (outs (madeE (clampN n) (es.take 200)) a))) :: (SlV 3 1 (.slice bs10 ((reachL (clampN n) (madeE (clampN n) (es.take 200)) a).length) cp11) ((reachL (clampN n) (madeE (clampN n) (es.take 200)) a).length) (ints .i64 (reachL (clampN n) (madeE (clampN n) (es.take 200)) a))) :: (GraphO p1 (clampN n) (madeE (clampN n) (es.take 200))) :: (SlV 3 1 (.slice bs6 ((inns (madeE (clampN n) (es.take 200)) a).length) cp7) ((inns (madeE (clampN n) (es.take 200)) a).length) (ints .i64 (inns (madeE (clampN n) (es.take 200)) a))) :: (SlV 3 1 (.slice bs2 ((outs (madeE (clampN n) (es.take 200)) a).length) cp3) ((outs (madeE (clampN n) (es.take 200)) a).length) (ints .i64 zs1)) :: R) (fun (k1, zs1) => (outs (madeE (clampN n) (es.take 200)) a).length - k1) (0, outs (madeE (clampN n) (es.take 200)) a) ⟨by omega, rfl⟩ ⟨rfl, rfl, rfl, rfl, rfl, rfl, rfl, rfl, rfl, rfl, rfl, rfl, rfl, rfl, trivial⟩ (fun _ h => h) ?_
  rintro ⟨k1, zs1⟩ K14 hF hK14
  try dsimp only at hF hK14 ⊢
  obtain ⟨hk1, hz1⟩ := hF
  refine c_seq (fun K15 hK15 => ?_)
  refine c_seq (fun K16 hK16 => ?_)
  refine c_region ?_
  refine tp rfl (lv_move rfl) ?_
  refine tp rfl (lv_move rfl) ?_
  refine tp rfl (lv_len Tryd.underlying33 rfl rfl) ?_
  by_cases h38 : ((k1 : Nat) : Int) < (((outs (madeE (clampN n) (es.take 200)) a).length : Nat) : Int)
  · -- yes
    refine tp rfl (lv_lss rfl rfl (decide_eq_true h38)) ?_
    refine t_done ?_
    refine q_then_n (hK16 _ _ ?_)
    refine c_true rfl ?_
    refine c_skip ?_
    refine q_then_n (hK15 _ _ ?_)
    refine c_seq (fun K17 hK17 => ?_)
    refine c_block ?_
    refine c_region ?_
    refine tp rfl (lv_move rfl) ?_
    refine tp rfl (lv_move rfl) ?_
    refine tp rfl (lv_indexAddr (k' := k1) Tryd.underlying33 Tryd.sizeOf3 rfl rfl hok4 (by omega) (by omega) (by omega)) ?_
    refine t_f6 ?_
    refine ts (sv_sl Tryd.sizeOf3 rfl rfl rfl (by first | (simp; omega) | omega) ints_set) ?_
    refine t_done ?_
    refine q_in_n ?_
    refine q_then_n (hK17 _ _ ?_)
    refine c_region ?_
    refine tp rfl (lv_move rfl) ?_
    refine tp rfl (lv_add (c := ((k1 + 1 : Nat) : Int)) rfl rfl (wr_i64_succ (by omega))) ?_
    refine tp rfl (lv_assign rfl) ?_
    refine t_done ?_
    refine q_then_n ?_
    refine t_f6 ?_
    refine t_f6 ?_
    refine t_f6 ?_
    refine t_f6 ?_
    refine t_f6 ?_
    refine t_f6 ?_
    exact t_weak (by exact ⟨rfl, rfl, rfl, rfl, rfl, rfl, rfl, rfl, rfl, rfl, rfl, rfl, rfl, rfl, trivial⟩) ((hK14 (k1 + 1, zs1.set k1 (-7)) ⟨by omega, by simp; omega⟩ (by dsimp only; omega)))
  · -- no
    refine tp rfl (lv_lss rfl rfl (decide_eq_false h38)) ?_
    refine t_done ?_
    refine q_then_n (hK16 _ _ ?_)
    refine c_false rfl ?_
    refine c_exit ?_
    refine q_then_x ?_
    refine q_then_x ?_
    refine q_in_x ?_
    refine q_then_n (hK12 _ _ ?_)
    refine c_seq (fun K17 hK17 => ?_)
    refine c_seq (fun K18 hK18 => ?_)
    refine c_region ?_
    refine tp rfl (lv_assign rfl) ?_
    refine t_done ?_
    refine q_then_n (hK18 _ _ ?_)
    refine c_block ?_
    refine c_loop (γ := (Nat) × (List Int)) (fun (k2, zs2) => k2 ≤ (inns (madeE (clampN n) (es.take 200)) a).length ∧ zs2.length = (inns (madeE (clampN n) (es.take 200)) a).length) (fun (k2, zs2) => [(0, (.int .i64 n)), (1, (.slice bl es.length cl)), (2, (.int .i64 a)), (6, (.bool false)), (7, (.bool true)), (8, (.pointer (some ⟨p1, 0, none⟩))), (9, (.slice bs2 ((outs (madeE (clampN n) (es.take 200)) a).length) cp3)), (10, (.slice bs6 ((inns (madeE (clampN n) (es.take 200)) a).length) cp7)), (11, (.slice bs10 ((reachL (clampN n) (madeE (clampN n) (es.take 200)) a).length) cp11)), (12, (.slice bs18 ((outs (madeE (clampN n) (es.take 200)) a).length) cp19)), (13, (.slice bs26 ((inns (madeE (clampN n) (es.take 200)) a).length) cp27)), (14, (.slice bs34 ((reachL (clampN n) (madeE (clampN n) (es.take 200)) a).length) cp35)), (15, (.int .i64 ((k1 : Nat) : Int))), (16, (.int .i64 ((k2 : Nat) : Int))), (23, (.bool false)), (45, (.bool false))]) (fun (k2, zs2) => (SlV 3 1 (.slice bs34 ((reachL (clampN n) (madeE (clampN n) (es.take 200)) a).length) cp35) ((reachL (clampN n) (madeE (clampN n) (es.take 200)) a).length) (ints .i64 (reachL (clampN n) (madeE (clampN n) (es.take 200)) a))) :: (SlV 3 1 (.slice bs26 ((inns (madeE (clampN n) (es.take 200)) a).length) cp27) ((inns (madeE (clampN n) (es.take 200)) a).length) (ints .i64 (inns (madeE (clampN n) (es.take 200)) a))) :: (SlV 3 1 (.slice bs18 ((outs (madeE (clampN n) (es.take 200)) a).length) cp19) ((outs (madeE (clampN n) (es.take 200)) a).length) (ints .i64 (outs (madeE (clampN n) (es.take 200)) a))) :: (SlV 3 1 (.slice bs10 ((reachL (clampN n) (madeE (clampN n) (es.take 200)) a).length) cp11) ((reachL (clampN n) (madeE (clampN n) (es.take 200)) a).length) (ints .i64 (reachL (clampN n) (madeE (clampN n) (es.take 200)) a))) :: (GraphO p1 (clampN n) (madeE (clampN n) (es.take 200))) :: (SlV 3 1 (.slice bs6 ((inns (madeE (clampN n) (es.take 200)) a).length) cp7) ((inns (madeE (clampN n) (es.take 200)) a).length) (ints .i64 zs2)) :: (SlV 3 1 (.slice bs2 ((outs (madeE (clampN n) (es.take 200)) a).length) cp3) ((outs (madeE (clampN n) (es.take 200)) a).length) (ints .i64 zs1)) :: R) (fun (k2, zs2) => (inns (madeE (clampN n) (es.take 200)) a).length - k2) (0, inns (madeE (clampN n) (es.take 200)) a) ⟨by omega, rfl⟩ ⟨rfl, rfl, rfl, rfl, rfl, rfl, rfl, rfl, rfl, rfl, rfl, rfl, rfl, rfl, rfl, rfl, trivial⟩ (fun _ h => h) ?_
    rintro ⟨k2, zs2⟩ K19 hF hK19
    try dsimp only at hF hK19 ⊢
    obtain ⟨hk2, hz2⟩ := hF
    refine c_seq (fun K20 hK20 => ?_)
    refine c_seq (fun K21 hK21 => ?_)
    refine c_region ?_
    refine tp rfl (lv_move rfl) ?_
    refine tp rfl (lv_move rfl) ?_
    refine tp rfl (lv_len Tryd.underlying33 rfl rfl) ?_
    by_cases h39 : ((k2 : Nat) : Int) < (((inns (madeE (clampN n) (es.take 200)) a).length : Nat) : Int)
    · -- yes
      refine tp rfl (lv_lss rfl rfl (decide_eq_true h39)) ?_
      refine t_done ?_
      refine q_then_n (hK21 _ _ ?_)
      refine c_true rfl ?_
      refine c_skip ?_
      refine q_then_n (hK20 _ _ ?_)
      refine c_seq (fun K22 hK22 => ?_)
      refine c_block ?_
      refine c_region ?_
      refine tp rfl (lv_move rfl) ?_
      refine tp rfl (lv_move rfl) ?_
      refine tp rfl (lv_indexAddr (k' := k2) Tryd.underlying33 Tryd.sizeOf3 rfl rfl hok8 (by omega) (by omega) (by omega)) ?_
      refine t_f5 ?_
      refine ts (sv_sl Tryd.sizeOf3 rfl rfl rfl (by first | (simp; omega) | omega) ints_set) ?_
      refine t_done ?_
      refine q_in_n ?_
      refine q_then_n (hK22 _ _ ?_)
      refine c_region ?_
      refine tp rfl (lv_move rfl) ?_
      refine tp rfl (lv_add (c := ((k2 + 1 : Nat) : Int)) rfl rfl (wr_i64_succ (by omega))) ?_
      refine tp rfl (lv_assign rfl) ?_
      refine t_done ?_
      refine q_then_n ?_
      refine t_f5 ?_
      refine t_f5 ?_
      refine t_f5 ?_
      refine t_f5 ?_
      refine t_f5 ?_
      exact t_weak (by exact ⟨rfl, rfl, rfl, rfl, rfl, rfl, rfl, rfl, rfl, rfl, rfl, rfl, rfl, rfl, rfl, rfl, trivial⟩) ((hK19 (k2 + 1, zs2.set k2 (-7)) ⟨by omega, by simp; omega⟩ (by dsimp only; omega)))
    · -- no
      refine tp rfl (lv_lss rfl rfl (decide_eq_false h39)) ?_
      refine t_done ?_
      refine q_then_n (hK21 _ _ ?_)
      refine c_false rfl ?_
      refine c_exit ?_
      refine q_then_x ?_
      refine q_then_x ?_
      refine q_in_x ?_
      refine q_then_n (hK17 _ _ ?_)
      refine c_seq (fun K22 hK22 => ?_)
      refine c_seq (fun K23 hK23 => ?_)
      refine c_region ?_
      refine tp rfl (lv_assign rfl) ?_
      refine t_done ?_
      refine q_then_n (hK23 _ _ ?_)
      refine c_block ?_
      refine c_loop (γ := (Nat) × (List Int)) (fun (k3, zs3) => k3 ≤ (reachL (clampN n) (madeE (clampN n) (es.take 200)) a).length ∧ zs3.length = (reachL (clampN n) (madeE (clampN n) (es.take 200)) a).length) (fun (k3, zs3) => [(0, (.int .i64 n)), (1, (.slice bl es.length cl)), (2, (.int .i64 a)), (6, (.bool false)), (7, (.bool true)), (8, (.pointer (some ⟨p1, 0, none⟩))), (9, (.slice bs2 ((outs (madeE (clampN n) (es.take 200)) a).length) cp3)), (10, (.slice bs6 ((inns (madeE (clampN n) (es.take 200)) a).length) cp7)), (11, (.slice bs10 ((reachL (clampN n) (madeE (clampN n) (es.take 200)) a).length) cp11)), (12, (.slice bs18 ((outs (madeE (clampN n) (es.take 200)) a).length) cp19)), (13, (.slice bs26 ((inns (madeE (clampN n) (es.take 200)) a).length) cp27)), (14, (.slice bs34 ((reachL (clampN n) (madeE (clampN n) (es.take 200)) a).length) cp35)), (15, (.int .i64 ((k1 : Nat) : Int))), (16, (.int .i64 ((k2 : Nat) : Int))), (17, (.int .i64 ((k3 : Nat) : Int))), (23, (.bool false)), (45, (.bool false)), (54, (.bool false))]) (fun (k3, zs3) => (SlV 3 1 (.slice bs34 ((reachL (clampN n) (madeE (clampN n) (es.take 200)) a).length) cp35) ((reachL (clampN n) (madeE (clampN n) (es.take 200)) a).length) (ints .i64 (reachL (clampN n) (madeE (clampN n) (es.take 200)) a))) :: (SlV 3 1 (.slice bs26 ((inns (madeE (clampN n) (es.take 200)) a).length) cp27) ((inns (madeE (clampN n) (es.take 200)) a).length) (ints .i64 (inns (madeE (clampN n) (es.take 200)) a))) :: (SlV 3 1 (.slice bs18 ((outs (madeE (clampN n) (es.take 200)) a).length) cp19) ((outs (madeE (clampN n) (es.take 200)) a).length) (ints .i64 (outs (madeE (clampN n) (es.take 200)) a))) :: (SlV 3 1 (.slice bs10 ((reachL (clampN n) (madeE (clampN n) (es.take 200)) a).length) cp11) ((reachL (clampN n) (madeE (clampN n) (es.take 200)) a).length) (ints .i64 zs3)) :: (GraphO p1 (clampN n) (madeE (clampN n) (es.take 200))) :: (SlV 3 1 (.slice bs6 ((inns (madeE (clampN n) (es.take 200)) a).length) cp7) ((inns (madeE (clampN n) (es.take 200)) a).length) (ints .i64 zs2)) :: (SlV 3 1 (.slice bs2 ((outs (madeE (clampN n) (es.take 200)) a).length) cp3) ((outs (madeE (clampN n) (es.take 200)) a).length) (ints .i64 zs1)) :: R) (fun (k3, zs3) => (reachL (clampN n) (madeE (clampN n) (es.take 200)) a).length - k3) (0, reachL (clampN n) (madeE (clampN n) (es.take 200)) a) ⟨by omega, rfl⟩ ⟨rfl, rfl, rfl, rfl, rfl, rfl, rfl, rfl, rfl, rfl, rfl, rfl, rfl, rfl, rfl, rfl, rfl, rfl, trivial⟩ (fun _ h => h) ?_
      rintro ⟨k3, zs3⟩ K24 hF hK24
      try dsimp only at hF hK24 ⊢
      obtain ⟨hk3, hz3⟩ := hF
      refine c_seq (fun K25 hK25 => ?_)
      refine c_seq (fun K26 hK26 => ?_)
      refine c_region ?_
      refine tp rfl (lv_move rfl) ?_
      refine tp rfl (lv_move rfl) ?_
      refine tp rfl (lv_len Tryd.underlying33 rfl rfl) ?_
      by_cases h40 : ((k3 : Nat) : Int) < (((reachL (clampN n) (madeE (clampN n) (es.take 200)) a).length : Nat) : Int)
      · -- yes
        refine tp rfl (lv_lss rfl rfl (decide_eq_true h40)) ?_
        refine t_done ?_
        refine q_then_n (hK26 _ _ ?_)
        refine c_true rfl ?_
        refine c_skip ?_
        refine q_then_n (hK25 _ _ ?_)
        refine c_seq (fun K27 hK27 => ?_)
        refine c_block ?_
        refine c_region ?_
        refine tp rfl (lv_move rfl) ?_
        refine tp rfl (lv_move rfl) ?_
        refine tp rfl (lv_indexAddr (k' := k3) Tryd.underlying33 Tryd.sizeOf3 rfl rfl hok12 (by omega) (by omega) (by omega)) ?_
        refine t_f3 ?_
        refine ts (sv_sl Tryd.sizeOf3 rfl rfl rfl (by first | (simp; omega) | omega) ints_set) ?_
        refine t_done ?_
        refine q_in_n ?_
        refine q_then_n (hK27 _ _ ?_)
        refine c_region ?_
        refine tp rfl (lv_move rfl) ?_
        refine tp rfl (lv_add (c := ((k3 + 1 : Nat) : Int)) rfl rfl (wr_i64_succ (by omega))) ?_
        refine tp rfl (lv_assign rfl) ?_
        refine t_done ?_
        refine q_then_n ?_
        refine t_f3 ?_
        refine t_f3 ?_
        refine t_f3 ?_
        exact t_weak (by exact ⟨rfl, rfl, rfl, rfl, rfl, rfl, rfl, rfl, rfl, rfl, rfl, rfl, rfl, rfl, rfl, rfl, rfl, rfl, trivial⟩) ((hK24 (k3 + 1, zs3.set k3 (-7)) ⟨by omega, by simp; omega⟩ (by dsimp only; omega)))
      · -- no
        refine tp rfl (lv_lss rfl rfl (decide_eq_false h40)) ?_
        refine t_done ?_
        refine q_then_n (hK26 _ _ ?_)
        refine c_false rfl ?_
        refine c_exit ?_
        refine q_then_x ?_
        refine q_then_x ?_
        refine q_in_x ?_
        refine q_then_n (hK22 _ _ ?_)
        refine c_seq (fun K27 hK27 => ?_)
        refine c_region ?_
        refine tp rfl (lv_move rfl) ?_
        refine tp rfl (lv_move rfl) ?_
        refine t_guard rfl rfl ?_
        refine tp rfl (lv_move rfl) ?_
        refine t_guard rfl rfl ?_
        refine tp rfl (lv_move rfl) ?_
        refine t_guard rfl rfl ?_
        refine t_f4 ?_
        refine tc rfl (en_fn Tryd.call19 rfl) (out_ok (N := clampN n) (es := madeE (clampN n) (es.take 200)) a) ?_
        rintro _ _ ⟨bs41, cp42, hok43, hle44, rfl, rfl⟩
        refine t_guard rfl rfl ?_
        refine tp rfl (lv_move rfl) ?_
        refine t_guard rfl rfl ?_
        refine tc rfl (en_fn Tryd.call21 rfl) (ints_ok (outs (madeE (clampN n) (es.take 200)) a) (outs (madeE (clampN n) (es.take 200)) a) (rd_sl (.head _)) (rd_sl (.tail _ (.tail _ (.tail _ (.tail _ (.head _)))))) hok43 hok20 (by first | omega | (simp; done) | (simp; omega)) (by first | omega | (simp; done) | (simp; omega))) ?_
        rintro _ _ ⟨rfl, rfl⟩
        rw [show eqI (outs (madeE (clampN n) (es.take 200)) a) (outs (madeE (clampN n) (es.take 200)) a) = true from (eqI_refl _)]
        refine tp rfl (lv_pick_t rfl rfl) ?_
        refine tp rfl (lv_move rfl) ?_
        refine t_guard rfl rfl ?_
        refine tp rfl (lv_move rfl) ?_
        refine t_guard rfl rfl ?_
        refine tp rfl (lv_move rfl) ?_
        refine t_guard rfl rfl ?_
        refine t_f1 ?_
        refine tc rfl (en_fn Tryd.call20 rfl) (in_ok (N := clampN n) (es := madeE (clampN n) (es.take 200)) a) ?_
        rintro _ _ ⟨bs45, cp46, hok47, hle48, rfl, rfl⟩
        refine t_guard rfl rfl ?_
        refine tp rfl (lv_move rfl) ?_
        refine t_guard rfl rfl ?_
        refine tc rfl (en_fn Tryd.call21 rfl) (ints_ok (inns (madeE (clampN n) (es.take 200)) a) (inns (madeE (clampN n) (es.take 200)) a) (rd_sl (.head _)) (rd_sl (.tail _ (.tail _ (.tail _ (.tail _ (.head _)))))) hok47 hok28 (by first | omega | (simp; done) | (simp; omega)) (by first | omega | (simp; done) | (simp; omega))) ?_
        rintro _ _ ⟨rfl, rfl⟩
        rw [show eqI (inns (madeE (clampN n) (es.take 200)) a) (inns (madeE (clampN n) (es.take 200)) a) = true from (eqI_refl _)]
        refine tp rfl (lv_pick_t rfl rfl) ?_
        refine tp rfl (lv_move rfl) ?_
        refine t_guard rfl rfl ?_
        refine tp rfl (lv_move rfl) ?_
        refine t_guard rfl rfl ?_
        refine tp rfl (lv_move rfl) ?_
        refine t_guard rfl rfl ?_
        refine t_f1 ?_
        refine tc rfl (en_fn Tryd.call15 rfl) (reach_ok (N := clampN n) (es := madeE (clampN n) (es.take 200)) a (Tab.cons (Tab.cons (Tab.cons (Tab.cons (Tab.cons (Tab.cons (Tab.cons (Tab.cons hT))))))))) ?_
        rintro _ _ ⟨bs49, cp50, hok51, hle52, rfl, rfl⟩
        refine t_guard rfl rfl ?_
        refine tp rfl (lv_move rfl) ?_
        refine t_guard rfl rfl ?_
        refine tc rfl (en_fn Tryd.call21 rfl) (ints_ok (reachL (clampN n) (madeE (clampN n) (es.take 200)) a) (reachL (clampN n) (madeE (clampN n) (es.take 200)) a) (rd_sl (.head _)) (rd_sl (.tail _ (.tail _ (.tail _ (.tail _ (.head _)))))) hok51 hok36 (by first | omega | (simp; done) | (simp; omega)) (by first | omega | (simp; done) | (simp; omega))) ?_
        rintro _ _ ⟨rfl, rfl⟩
        rw [show eqI (reachL (clampN n) (madeE (clampN n) (es.take 200)) a) (reachL (clampN n) (madeE (clampN n) (es.take 200)) a) = true from (eqI_refl _)]
        refine tp rfl (lv_pick_t rfl rfl) ?_
        refine tp rfl (lv_assign rfl) ?_
        refine t_done ?_
        refine q_then_n (hK27 _ _ ?_)
        refine c_ret ?_
        refine t_drop ?_
        refine t_drop ?_
        refine t_drop ?_
        refine t_drop ?_
        refine t_drop ?_
        refine t_drop ?_
        refine t_drop ?_
        refine t_drop ?_
        refine t_drop ?_
        refine t_drop ?_
        refine q_ret rfl rfl ?_
        exact ⟨rfl, rfl⟩
end Go.Proofs.YtadhgpkpcmpmgaaDoor
