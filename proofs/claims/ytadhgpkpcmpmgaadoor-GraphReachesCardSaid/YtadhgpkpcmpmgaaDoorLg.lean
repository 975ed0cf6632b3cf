/- GraphReaches: the law's walk. -/
import Derived.Test.YtadhgpkpcmpmgaaDoorLa
import Derived.Test.YtadhgpkpcmpmgaaDoorRea
import Derived.Test.YtadhgpkpcmpmgaaDoorOpm
set_option maxRecDepth 100000
set_option linter.unusedVariables false
set_option linter.unusedSimpArgs false
namespace Go.Proofs.YtadhgpkpcmpmgaaDoor
open Go Go.Proofs Sp
set_option maxHeartbeats 2000000 in
theorem greaches_ok {R : List HP} {bl : Option Addr} {cl : Nat} (n : Int) (es : List (Int × Int)) (hl : Rd R bl (pairs es)) (okl : SlOk bl es.length) (ll : es.length ≤ 9223372036854775807) (hT : Tab R) (a : Int) :
    Ok Tryd.prog 5 [(.int .i64 n), (.slice bl es.length cl), (.int .i64 a)] R
      (fun v M => v = .bool true ∧ M = R) := by
  have hgk : GOk (clampN n) (madeE (clampN n) (es.take 200)) := GOk.made (clampN_le n) _
  have hln := made_len n es
  have hcn := clampN_le n
  have hr := reachL_le (clampN n) (madeE (clampN n) (es.take 200)) a
  refine ok_of (N := 201) Tryd.func5 rfl rfl rfl (fun W => ?_)
  refine c_seq (fun K1 hK1 => ?_)
  refine c_region ?_
  refine tp rfl (lv_assign rfl) ?_
  refine t_done ?_
  refine q_then_n (hK1 _ _ ?_)
  refine c_seq (fun K2 hK2 => ?_)
  refine c_region ?_
  refine tc rfl (en_fn Tryd.call10 rfl) (shown_ok hT) ?_
  rintro _ _ ⟨rfl, hMR⟩
  rw [hMR]; clear hMR
  refine tp rfl (lv_assign rfl) ?_
  refine t_done ?_
  refine q_then_n (hK2 _ _ ?_)
  refine c_seq (fun K3 hK3 => ?_)
  refine c_region ?_
  refine tp rfl (lv_move rfl) ?_
  refine tp rfl (lv_move rfl) ?_
  refine tc rfl (en_fn Tryd.call16 rfl) (made_ok n es hl okl (by omega)) ?_
  rintro _ _ ⟨p1, rfl, rfl⟩
  refine tp rfl (lv_assign rfl) ?_
  refine t_done ?_
  refine q_then_n (hK3 _ _ ?_)
  refine c_seq (fun K4 hK4 => ?_)
  refine c_seq (fun K5 hK5 => ?_)
  refine c_region ?_
  refine tp rfl (lv_move rfl) ?_
  refine tp rfl (lv_eqnil Tryd.underlying24 rfl rfl) ?_
  refine t_done ?_
  refine q_then_n (hK5 _ _ ?_)
  refine c_false rfl ?_
  refine c_skip ?_
  refine q_then_n (hK4 _ _ ?_)
  refine c_seq (fun K6 hK6 => ?_)
  refine c_seq (fun K7 hK7 => ?_)
  refine c_region ?_
  refine tp rfl (lv_move rfl) ?_
  by_cases h2 : a < 0
  · -- yes
    refine tp rfl (lv_lss rfl rfl (decide_eq_true h2)) ?_
    refine tp rfl (lv_move rfl) ?_
    refine t_skip rfl rfl rfl ?_
    refine t_skip rfl rfl rfl ?_
    refine t_skip rfl rfl rfl ?_
    refine t_skip rfl rfl rfl ?_
    refine tp rfl (lv_pick_t rfl rfl) ?_
    refine t_done ?_
    refine q_then_n (hK7 _ _ ?_)
    refine c_true rfl ?_
    refine c_seq (fun K8 hK8 => ?_)
    refine c_region ?_
    refine tp rfl (lv_move rfl) ?_
    refine tp rfl (lv_move rfl) ?_
    refine t_guard rfl rfl ?_
    refine tp rfl (lv_move rfl) ?_
    refine t_guard rfl rfl ?_
    refine tp rfl (lv_move rfl) ?_
    refine t_guard rfl rfl ?_
    refine tc rfl (en_fn Tryd.call15 rfl) (reach_ok (N := clampN n) (es := madeE (clampN n) (es.take 200)) a hT) ?_
    rintro _ _ ⟨bs3, cp4, hok5, hle6, rfl, rfl⟩
    rw [show reachL (clampN n) (madeE (clampN n) (es.take 200)) a = [] from (reachL_bad (by omega))] at hok5 hle6 ⊢
    refine t_guard rfl rfl ?_
    refine tp rfl (lv_len Tryd.underlying33 rfl rfl) ?_
    refine t_guard rfl rfl ?_
    refine tp rfl (lv_eql rfl rfl rfl) ?_
    refine tp rfl (lv_pick_t rfl rfl) ?_
    refine tp rfl (lv_assign rfl) ?_
    refine t_done ?_
    refine q_then_n (hK8 _ _ ?_)
    refine c_ret ?_
    refine q_then_r ?_
    refine t_drop ?_
    refine t_drop ?_
    refine q_ret rfl rfl ?_
    exact ⟨rfl, rfl⟩
  · -- no
    refine tp rfl (lv_lss rfl rfl (decide_eq_false h2)) ?_
    refine tp rfl (lv_move rfl) ?_
    refine t_guard rfl rfl ?_
    refine tp rfl (lv_move rfl) ?_
    refine t_guard rfl rfl ?_
    refine tp rfl (lv_move rfl) ?_
    refine t_guard rfl rfl ?_
    refine tc rfl (en_fn Tryd.call18 rfl) (n_ok) ?_
    rintro _ _ ⟨rfl, rfl⟩
    refine t_guard rfl rfl ?_
    by_cases h7 : a ≥ ((clampN n : Nat) : Int)
    · -- yes
      refine tp rfl (lv_geq rfl rfl (decide_eq_true h7)) ?_
      refine tp rfl (lv_pick_f rfl rfl) ?_
      refine t_done ?_
      refine q_then_n (hK7 _ _ ?_)
      refine c_true rfl ?_
      refine c_seq (fun K8 hK8 => ?_)
      refine c_region ?_
      refine tp rfl (lv_move rfl) ?_
      refine tp rfl (lv_move rfl) ?_
      refine t_guard rfl rfl ?_
      refine tp rfl (lv_move rfl) ?_
      refine t_guard rfl rfl ?_
      refine tp rfl (lv_move rfl) ?_
      refine t_guard rfl rfl ?_
      refine tc rfl (en_fn Tryd.call15 rfl) (reach_ok (N := clampN n) (es := madeE (clampN n) (es.take 200)) a hT) ?_
      rintro _ _ ⟨bs8, cp9, hok10, hle11, rfl, rfl⟩
      rw [show reachL (clampN n) (madeE (clampN n) (es.take 200)) a = [] from (reachL_bad (by omega))] at hok10 hle11 ⊢
      refine t_guard rfl rfl ?_
      refine tp rfl (lv_len Tryd.underlying33 rfl rfl) ?_
      refine t_guard rfl rfl ?_
      refine tp rfl (lv_eql rfl rfl rfl) ?_
      refine tp rfl (lv_pick_t rfl rfl) ?_
      refine tp rfl (lv_assign rfl) ?_
      refine t_done ?_
      refine q_then_n (hK8 _ _ ?_)
      refine c_ret ?_
      refine q_then_r ?_
      refine t_drop ?_
      refine t_drop ?_
      refine q_ret rfl rfl ?_
      exact ⟨rfl, rfl⟩
    · -- no
      refine tp rfl (lv_geq rfl rfl (decide_eq_false h7)) ?_
      refine tp rfl (lv_pick_f rfl rfl) ?_
      refine t_done ?_
      refine q_then_n (hK7 _ _ ?_)
      refine c_false rfl ?_
      refine c_skip ?_
      refine q_then_n (hK6 _ _ ?_)
      refine c_seq (fun K8 hK8 => ?_)
      refine c_region ?_
      refine tp rfl (lv_buildArr0 (cs := (bools (List.replicate 64 false))) Tryd.underlying38 Tryd.zeroValue38 Tryd.sizeOf4 rfl) ?_
      refine tm rfl (mv_alloc (cs := (bools (List.replicate 64 false))) Tryd.zeroValue38 rfl) ?_
      rintro _ _ ⟨b12, rfl, rfl⟩
      refine ts (sv_blkAgg (news := (bools (List.replicate 64 false))) (cs' := (bools (List.replicate 64 false))) Tryd.sizeOf38 rfl rfl rfl (by decide) (by decide) rfl) ?_
      refine t_done ?_
      refine q_then_n (hK8 _ _ ?_)
      refine c_seq (fun K9 hK9 => ?_)
      refine c_region ?_
      refine tp rfl (lv_move rfl) ?_
      refine tp rfl (lv_move rfl) ?_
      refine t_f1 ?_
      refine tc rfl (en_fn Tryd.call15 rfl) (reach_ok (N := clampN n) (es := madeE (clampN n) (es.take 200)) a (Tab.cons hT)) ?_
      rintro _ _ ⟨bs13, cp14, hok15, hle16, rfl, rfl⟩
      refine tp rfl (lv_assign rfl) ?_
      refine t_done ?_
      refine q_then_n (hK9 _ _ ?_)
      refine c_seq (fun K10 hK10 => ?_)
      refine c_seq (fun K11 hK11 => ?_)
      refine c_region ?_
      refine tp rfl (lv_assign rfl) ?_
      refine t_done ?_
      refine q_then_n (hK11 _ _ ?_)
      refine c_block ?_
      refine c_loop (γ := (Nat)) (fun (k : Nat) => k ≤ (reachL (clampN n) (madeE (clampN n) (es.take 200)) a).length) (fun (k : Nat) => [(0, (.int .i64 n)), (1, (.slice bl es.length cl)), (2, (.int .i64 a)), (7, (.bool true)), (8, (.pointer (some ⟨p1, 0, none⟩))), (9, (.pointer (some ⟨b12, 0, none⟩))), (10, (.slice bs13 ((reachL (clampN n) (madeE (clampN n) (es.take 200)) a).length) cp14)), (11, (.int .i64 ((k : Nat) : Int))), (23, (.bool false)), (31, (.bool false))]) (fun (k : Nat) => (SlV 3 1 (.slice bs13 ((reachL (clampN n) (madeE (clampN n) (es.take 200)) a).length) cp14) ((reachL (clampN n) (madeE (clampN n) (es.take 200)) a).length) (ints .i64 (reachL (clampN n) (madeE (clampN n) (es.take 200)) a))) :: (GraphO p1 (clampN n) (madeE (clampN n) (es.take 200))) :: (Blk b12 (bools (mkS ((reachL (clampN n) (madeE (clampN n) (es.take 200)) a).take k))) 38) :: R) (fun (k : Nat) => (reachL (clampN n) (madeE (clampN n) (es.take 200)) a).length - k) (0) (by omega) ⟨rfl, rfl, rfl, rfl, rfl, rfl, rfl, rfl, rfl, rfl, trivial⟩ (fun _ h => by rw [show mkS ((reachL (clampN n) (madeE (clampN n) (es.take 200)) a).take 0) = List.replicate 64 false from mkS_nil]; exact h) ?_
      rintro k K12 hF hK12
      try dsimp only at hF hK12 ⊢
      refine c_seq (fun K13 hK13 => ?_)
      refine c_seq (fun K14 hK14 => ?_)
      refine c_region ?_
      refine tp rfl (lv_move rfl) ?_
      refine tp rfl (lv_move rfl) ?_
      refine tp rfl (lv_len Tryd.underlying33 rfl rfl) ?_
      by_cases h17 : ((k : Nat) : Int) < (((reachL (clampN n) (madeE (clampN n) (es.take 200)) a).length : Nat) : Int)
      · -- yes
        refine tp rfl (lv_lss rfl rfl (decide_eq_true h17)) ?_
        refine t_done ?_
        refine q_then_n (hK14 _ _ ?_)
        refine c_true rfl ?_
        refine c_skip ?_
        refine q_then_n (hK13 _ _ ?_)
        refine c_seq (fun K15 hK15 => ?_)
        refine c_block ?_
        refine c_seq (fun K16 hK16 => ?_)
        refine c_seq (fun K17 hK17 => ?_)
        have hat := reachL_at (k := k) (show k < (reachL (clampN n) (madeE (clampN n) (es.take 200)) a).length by omega)
        have hnx := fun h0 => reachL_next (k := k) (show k < (reachL (clampN n) (madeE (clampN n) (es.take 200)) a).length by omega) h0
        by_cases h18 : ((k : Nat) : Int) > 0
        · -- yes
          refine c_draw (γ := Unit) (n := 37) Tryd.mixed rfl rfl (fun _ S => True) (fun _ => [(0, 50, (.slice bs13 ((reachL (clampN n) (madeE (clampN n) (es.take 200)) a).length) cp14)), (1, 51, (.int .i64 ((k : Nat) : Int))), (2, 52, (.pointer (some (ad bs13 k)))), (3, 53, (.int .i64 ((reachL (clampN n) (madeE (clampN n) (es.take 200)) a).getD k 0))), (4, 54, (.bool false)), (5, 55, (.bool false)), (6, 56, (.slice bs13 ((reachL (clampN n) (madeE (clampN n) (es.take 200)) a).length) cp14)), (7, 57, (.int .i64 ((k : Nat) : Int))), (8, 58, (.pointer (some (ad bs13 k)))), (9, 59, (.int .i64 ((reachL (clampN n) (madeE (clampN n) (es.take 200)) a).getD k 0))), (10, 60, (.pointer (some ⟨p1, 0, none⟩))), (11, 61, (.int .i64 ((clampN n : Nat) : Int))), (12, 62, (.bool false)), (13, 63, (.bool false)), (14, 64, (.bool false)), (15, 65, (.slice bs13 ((reachL (clampN n) (madeE (clampN n) (es.take 200)) a).length) cp14)), (16, 66, (.int .i64 ((k : Nat) : Int))), (17, 67, (.pointer (some (ad bs13 k)))), (18, 68, (.int .i64 ((reachL (clampN n) (madeE (clampN n) (es.take 200)) a).getD k 0))), (19, 69, (.bool false)), (20, 70, (.bool false)), (21, 71, (.bool false)), (22, 72, (.int .i64 ((k : Nat) : Int))), (23, 73, (.bool true)), (24, 74, (.bool true)), (25, 75, (.slice bs13 ((reachL (clampN n) (madeE (clampN n) (es.take 200)) a).length) cp14)), (26, 76, (.int .i64 ((k : Nat) : Int))), (27, 77, (.int .i64 (((k : Nat) : Int) - 1))), (28, 78, (.pointer (some (ad bs13 ((((k : Nat) : Int) - 1).toNat))))), (29, 79, (.int .i64 ((reachL (clampN n) (madeE (clampN n) (es.take 200)) a).getD ((((k : Nat) : Int) - 1).toNat) 0))), (30, 80, (.slice bs13 ((reachL (clampN n) (madeE (clampN n) (es.take 200)) a).length) cp14)), (31, 81, (.int .i64 ((k : Nat) : Int))), (32, 82, (.pointer (some (ad bs13 k)))), (33, 83, (.int .i64 ((reachL (clampN n) (madeE (clampN n) (es.take 200)) a).getD k 0))), (34, 84, (.bool false)), (35, 85, (.bool false)), (36, 86, (.bool false))]) (fun _ S => (SlV 3 1 (.slice bs13 ((reachL (clampN n) (madeE (clampN n) (es.take 200)) a).length) cp14) ((reachL (clampN n) (madeE (clampN n) (es.take 200)) a).length) (ints .i64 (reachL (clampN n) (madeE (clampN n) (es.take 200)) a))) :: (GraphO p1 (clampN n) (madeE (clampN n) (es.take 200))) :: (Blk b12 (bools (mkS ((reachL (clampN n) (madeE (clampN n) (es.take 200)) a).take k))) 38) :: R) (()) trivial (fun _ h => h) (fun _ _ h => h) ?_ ?_
          · refine ⟨?_, ?_, ?_, ?_, ?_, ?_, ?_, ?_, ?_, ?_, ?_, ?_, ?_, ?_, ?_, ?_, ?_, ?_, ?_, ?_, ?_, ?_, ?_, ?_, ?_, ?_, ?_, ?_, ?_, ?_, ?_, ?_, ?_, ?_, ?_, ?_, ?_, trivial⟩
            · -- 0
              rintro _ S hF hS D hp K hK
              try dsimp only at hF ⊢
              refine d_need (small := [(10, (.slice bs13 ((reachL (clampN n) (madeE (clampN n) (es.take 200)) a).length) cp14))]) ⟨look_b rfl rfl, trivial⟩ ?_
              refine tp rfl (lv_move rfl) ?_
              exact d_closes ⟨look_b rfl rfl, trivial⟩ 0 rfl rfl rfl hS (AgreeR.refl _) (t_sat (fun _ h => h) (hK () trivial))
            · -- 1
              rintro _ S hF hS D hp K hK
              try dsimp only at hF ⊢
              refine d_need (small := [(11, (.int .i64 ((k : Nat) : Int)))]) ⟨look_b rfl rfl, trivial⟩ ?_
              refine tp rfl (lv_move rfl) ?_
              exact d_closes ⟨look_b rfl rfl, trivial⟩ 1 rfl rfl rfl hS (AgreeR.refl _) (t_sat (fun _ h => h) (hK () trivial))
            · -- 2
              rintro _ S hF hS D hp K hK
              try dsimp only at hF ⊢
              refine d_need (small := [(50, (.slice bs13 ((reachL (clampN n) (madeE (clampN n) (es.take 200)) a).length) cp14)), (51, (.int .i64 ((k : Nat) : Int)))]) ⟨look_row rfl 0 rfl (hp 0 rfl), look_row rfl 1 rfl (hp 1 rfl), trivial⟩ ?_
              refine tp rfl (lv_indexAddr (k' := k) Tryd.underlying33 Tryd.sizeOf3 rfl rfl hok15 (by omega) (by omega) (by omega)) ?_
              exact d_closes ⟨look_row rfl 0 rfl (hp 0 rfl), look_row rfl 1 rfl (hp 1 rfl), trivial⟩ 2 rfl rfl rfl hS (AgreeR.refl _) (t_sat (fun _ h => h) (hK () trivial))
            · -- 3
              rintro _ S hF hS D hp K hK
              try dsimp only at hF ⊢
              refine d_need (small := [(52, (.pointer (some (ad bs13 k))))]) ⟨look_row rfl 2 rfl (hp 2 rfl), trivial⟩ ?_
              refine tp rfl (lv_load Tryd.isAgg3 rfl (gives_sl (.head _) (ints_get (by first | omega | (simp; omega))))) ?_
              exact d_closes ⟨look_row rfl 2 rfl (hp 2 rfl), trivial⟩ 3 rfl rfl rfl hS (AgreeR.refl _) (t_sat (fun _ h => h) (hK () trivial))
            · -- 4
              rintro _ S hF hS D hp K hK
              try dsimp only at hF ⊢
              refine d_need (small := [(53, (.int .i64 ((reachL (clampN n) (madeE (clampN n) (es.take 200)) a).getD k 0)))]) ⟨look_row rfl 3 rfl (hp 3 rfl), trivial⟩ ?_
              refine tp rfl (lv_lss rfl rfl (decide_eq_false (by omega))) ?_
              exact d_closes ⟨look_row rfl 3 rfl (hp 3 rfl), trivial⟩ 4 rfl rfl rfl hS (AgreeR.refl _) (t_sat (fun _ h => h) (hK () trivial))
            · -- 5
              rintro _ S hF hS D hp K hK
              try dsimp only at hF ⊢
              refine d_need (small := [(54, (.bool false))]) ⟨look_row rfl 4 rfl (hp 4 rfl), trivial⟩ ?_
              refine tp rfl (lv_move rfl) ?_
              exact d_closes ⟨look_row rfl 4 rfl (hp 4 rfl), trivial⟩ 5 rfl rfl rfl hS (AgreeR.refl _) (t_sat (fun _ h => h) (hK () trivial))
            · -- 6
              rintro _ S hF hS D hp K hK
              try dsimp only at hF ⊢
              refine d_need (small := [(10, (.slice bs13 ((reachL (clampN n) (madeE (clampN n) (es.take 200)) a).length) cp14)), (55, (.bool false))]) ⟨look_b rfl rfl, look_row rfl 5 rfl (hp 5 rfl), trivial⟩ ?_
              refine t_guard rfl rfl ?_
              refine tp rfl (lv_move rfl) ?_
              exact d_closes ⟨look_b rfl rfl, look_row rfl 5 rfl (hp 5 rfl), trivial⟩ 6 rfl rfl rfl hS (AgreeR.refl _) (t_sat (fun _ h => h) (hK () trivial))
            · -- 7
              rintro _ S hF hS D hp K hK
              try dsimp only at hF ⊢
              refine d_need (small := [(11, (.int .i64 ((k : Nat) : Int))), (55, (.bool false))]) ⟨look_b rfl rfl, look_row rfl 5 rfl (hp 5 rfl), trivial⟩ ?_
              refine t_guard rfl rfl ?_
              refine tp rfl (lv_move rfl) ?_
              exact d_closes ⟨look_b rfl rfl, look_row rfl 5 rfl (hp 5 rfl), trivial⟩ 7 rfl rfl rfl hS (AgreeR.refl _) (t_sat (fun _ h => h) (hK () trivial))
            · -- 8
              rintro _ S hF hS D hp K hK
              try dsimp only at hF ⊢
              refine d_need (small := [(55, (.bool false)), (56, (.slice bs13 ((reachL (clampN n) (madeE (clampN n) (es.take 200)) a).length) cp14)), (57, (.int .i64 ((k : Nat) : Int)))]) ⟨look_row rfl 5 rfl (hp 5 rfl), look_row rfl 6 rfl (hp 6 rfl), look_row rfl 7 rfl (hp 7 rfl), trivial⟩ ?_
              refine t_guard rfl rfl ?_
              refine tp rfl (lv_indexAddr (k' := k) Tryd.underlying33 Tryd.sizeOf3 rfl rfl hok15 (by omega) (by omega) (by omega)) ?_
              exact d_closes ⟨look_row rfl 5 rfl (hp 5 rfl), look_row rfl 6 rfl (hp 6 rfl), look_row rfl 7 rfl (hp 7 rfl), trivial⟩ 8 rfl rfl rfl hS (AgreeR.refl _) (t_sat (fun _ h => h) (hK () trivial))
            · -- 9
              rintro _ S hF hS D hp K hK
              try dsimp only at hF ⊢
              refine d_need (small := [(55, (.bool false)), (58, (.pointer (some (ad bs13 k))))]) ⟨look_row rfl 5 rfl (hp 5 rfl), look_row rfl 8 rfl (hp 8 rfl), trivial⟩ ?_
              refine t_guard rfl rfl ?_
              refine tp rfl (lv_load Tryd.isAgg3 rfl (gives_sl (.head _) (ints_get (by first | omega | (simp; omega))))) ?_
              exact d_closes ⟨look_row rfl 5 rfl (hp 5 rfl), look_row rfl 8 rfl (hp 8 rfl), trivial⟩ 9 rfl rfl rfl hS (AgreeR.refl _) (t_sat (fun _ h => h) (hK () trivial))
            · -- 10
              rintro _ S hF hS D hp K hK
              try dsimp only at hF ⊢
              refine d_need (small := [(8, (.pointer (some ⟨p1, 0, none⟩))), (55, (.bool false))]) ⟨look_b rfl rfl, look_row rfl 5 rfl (hp 5 rfl), trivial⟩ ?_
              refine t_guard rfl rfl ?_
              refine tp rfl (lv_move rfl) ?_
              exact d_closes ⟨look_b rfl rfl, look_row rfl 5 rfl (hp 5 rfl), trivial⟩ 10 rfl rfl rfl hS (AgreeR.refl _) (t_sat (fun _ h => h) (hK () trivial))
            · -- 11
              rintro _ S hF hS D hp K hK
              try dsimp only at hF ⊢
              refine d_need (small := [(55, (.bool false)), (60, (.pointer (some ⟨p1, 0, none⟩)))]) ⟨look_row rfl 5 rfl (hp 5 rfl), look_row rfl 10 rfl (hp 10 rfl), trivial⟩ ?_
              refine t_guard rfl rfl ?_
              refine t_f1 ?_
              refine tc rfl (en_fn Tryd.call18 rfl) (n_ok) ?_
              rintro _ _ ⟨rfl, rfl⟩
              refine t_f1 ?_
              exact d_closes ⟨look_row rfl 5 rfl (hp 5 rfl), look_row rfl 10 rfl (hp 10 rfl), trivial⟩ 11 rfl rfl rfl hS (AgreeR.refl _) (t_sat (fun _ h => h) (hK () trivial))
            · -- 12
              rintro _ S hF hS D hp K hK
              try dsimp only at hF ⊢
              refine d_need (small := [(55, (.bool false)), (59, (.int .i64 ((reachL (clampN n) (madeE (clampN n) (es.take 200)) a).getD k 0))), (61, (.int .i64 ((clampN n : Nat) : Int)))]) ⟨look_row rfl 5 rfl (hp 5 rfl), look_row rfl 9 rfl (hp 9 rfl), look_row rfl 11 rfl (hp 11 rfl), trivial⟩ ?_
              refine t_guard rfl rfl ?_
              refine tp rfl (lv_geq rfl rfl (decide_eq_false (by omega))) ?_
              exact d_closes ⟨look_row rfl 5 rfl (hp 5 rfl), look_row rfl 9 rfl (hp 9 rfl), look_row rfl 11 rfl (hp 11 rfl), trivial⟩ 12 rfl rfl rfl hS (AgreeR.refl _) (t_sat (fun _ h => h) (hK () trivial))
            · -- 13
              rintro _ S hF hS D hp K hK
              try dsimp only at hF ⊢
              refine d_need (small := [(55, (.bool false)), (62, (.bool false))]) ⟨look_row rfl 5 rfl (hp 5 rfl), look_row rfl 12 rfl (hp 12 rfl), trivial⟩ ?_
              refine tp rfl (lv_pick_f rfl rfl) ?_
              exact d_closes ⟨look_row rfl 5 rfl (hp 5 rfl), look_row rfl 12 rfl (hp 12 rfl), trivial⟩ 13 rfl rfl rfl hS (AgreeR.refl _) (t_sat (fun _ h => h) (hK () trivial))
            · -- 14
              rintro _ S hF hS D hp K hK
              try dsimp only at hF ⊢
              refine d_need (small := [(63, (.bool false))]) ⟨look_row rfl 13 rfl (hp 13 rfl), trivial⟩ ?_
              refine tp rfl (lv_move rfl) ?_
              exact d_closes ⟨look_row rfl 13 rfl (hp 13 rfl), trivial⟩ 14 rfl rfl rfl hS (AgreeR.refl _) (t_sat (fun _ h => h) (hK () trivial))
            · -- 15
              rintro _ S hF hS D hp K hK
              try dsimp only at hF ⊢
              refine d_need (small := [(10, (.slice bs13 ((reachL (clampN n) (madeE (clampN n) (es.take 200)) a).length) cp14)), (64, (.bool false))]) ⟨look_b rfl rfl, look_row rfl 14 rfl (hp 14 rfl), trivial⟩ ?_
              refine t_guard rfl rfl ?_
              refine tp rfl (lv_move rfl) ?_
              exact d_closes ⟨look_b rfl rfl, look_row rfl 14 rfl (hp 14 rfl), trivial⟩ 15 rfl rfl rfl hS (AgreeR.refl _) (t_sat (fun _ h => h) (hK () trivial))
            · -- 16
              rintro _ S hF hS D hp K hK
              try dsimp only at hF ⊢
              refine d_need (small := [(11, (.int .i64 ((k : Nat) : Int))), (64, (.bool false))]) ⟨look_b rfl rfl, look_row rfl 14 rfl (hp 14 rfl), trivial⟩ ?_
              refine t_guard rfl rfl ?_
              refine tp rfl (lv_move rfl) ?_
              exact d_closes ⟨look_b rfl rfl, look_row rfl 14 rfl (hp 14 rfl), trivial⟩ 16 rfl rfl rfl hS (AgreeR.refl _) (t_sat (fun _ h => h) (hK () trivial))
            · -- 17
              rintro _ S hF hS D hp K hK
              try dsimp only at hF ⊢
              refine d_need (small := [(64, (.bool false)), (65, (.slice bs13 ((reachL (clampN n) (madeE (clampN n) (es.take 200)) a).length) cp14)), (66, (.int .i64 ((k : Nat) : Int)))]) ⟨look_row rfl 14 rfl (hp 14 rfl), look_row rfl 15 rfl (hp 15 rfl), look_row rfl 16 rfl (hp 16 rfl), trivial⟩ ?_
              refine t_guard rfl rfl ?_
              refine tp rfl (lv_indexAddr (k' := k) Tryd.underlying33 Tryd.sizeOf3 rfl rfl hok15 (by omega) (by omega) (by omega)) ?_
              exact d_closes ⟨look_row rfl 14 rfl (hp 14 rfl), look_row rfl 15 rfl (hp 15 rfl), look_row rfl 16 rfl (hp 16 rfl), trivial⟩ 17 rfl rfl rfl hS (AgreeR.refl _) (t_sat (fun _ h => h) (hK () trivial))
            · -- 18
              rintro _ S hF hS D hp K hK
              try dsimp only at hF ⊢
              refine d_need (small := [(64, (.bool false)), (67, (.pointer (some (ad bs13 k))))]) ⟨look_row rfl 14 rfl (hp 14 rfl), look_row rfl 17 rfl (hp 17 rfl), trivial⟩ ?_
              refine t_guard rfl rfl ?_
              refine tp rfl (lv_load Tryd.isAgg3 rfl (gives_sl (.head _) (ints_get (by first | omega | (simp; omega))))) ?_
              exact d_closes ⟨look_row rfl 14 rfl (hp 14 rfl), look_row rfl 17 rfl (hp 17 rfl), trivial⟩ 18 rfl rfl rfl hS (AgreeR.refl _) (t_sat (fun _ h => h) (hK () trivial))
            · -- 19
              rintro _ S hF hS D hp K hK
              try dsimp only at hF ⊢
              refine d_need (small := [(64, (.bool false)), (68, (.int .i64 ((reachL (clampN n) (madeE (clampN n) (es.take 200)) a).getD k 0)))]) ⟨look_row rfl 14 rfl (hp 14 rfl), look_row rfl 18 rfl (hp 18 rfl), trivial⟩ ?_
              refine t_guard rfl rfl ?_
              refine tp rfl (lv_geq rfl rfl (decide_eq_false (by omega))) ?_
              exact d_closes ⟨look_row rfl 14 rfl (hp 14 rfl), look_row rfl 18 rfl (hp 18 rfl), trivial⟩ 19 rfl rfl rfl hS (AgreeR.refl _) (t_sat (fun _ h => h) (hK () trivial))
            · -- 20
              rintro _ S hF hS D hp K hK
              try dsimp only at hF ⊢
              refine d_need (small := [(64, (.bool false)), (69, (.bool false))]) ⟨look_row rfl 14 rfl (hp 14 rfl), look_row rfl 19 rfl (hp 19 rfl), trivial⟩ ?_
              refine tp rfl (lv_pick_f rfl rfl) ?_
              exact d_closes ⟨look_row rfl 14 rfl (hp 14 rfl), look_row rfl 19 rfl (hp 19 rfl), trivial⟩ 20 rfl rfl rfl hS (AgreeR.refl _) (t_sat (fun _ h => h) (hK () trivial))
            · -- 21
              rintro _ S hF hS D hp K hK
              try dsimp only at hF ⊢
              refine d_need (small := [(70, (.bool false))]) ⟨look_row rfl 20 rfl (hp 20 rfl), trivial⟩ ?_
              refine tp rfl (lv_move rfl) ?_
              exact d_closes ⟨look_row rfl 20 rfl (hp 20 rfl), trivial⟩ 21 rfl rfl rfl hS (AgreeR.refl _) (t_sat (fun _ h => h) (hK () trivial))
            · -- 22
              rintro _ S hF hS D hp K hK
              try dsimp only at hF ⊢
              refine d_need (small := [(11, (.int .i64 ((k : Nat) : Int))), (71, (.bool false))]) ⟨look_b rfl rfl, look_row rfl 21 rfl (hp 21 rfl), trivial⟩ ?_
              refine t_guard rfl rfl ?_
              refine tp rfl (lv_move rfl) ?_
              exact d_closes ⟨look_b rfl rfl, look_row rfl 21 rfl (hp 21 rfl), trivial⟩ 22 rfl rfl rfl hS (AgreeR.refl _) (t_sat (fun _ h => h) (hK () trivial))
            · -- 23
              rintro _ S hF hS D hp K hK
              try dsimp only at hF ⊢
              refine d_need (small := [(71, (.bool false)), (72, (.int .i64 ((k : Nat) : Int)))]) ⟨look_row rfl 21 rfl (hp 21 rfl), look_row rfl 22 rfl (hp 22 rfl), trivial⟩ ?_
              refine t_guard rfl rfl ?_
              refine tp rfl (lv_gtr rfl rfl (decide_eq_true h18)) ?_
              exact d_closes ⟨look_row rfl 21 rfl (hp 21 rfl), look_row rfl 22 rfl (hp 22 rfl), trivial⟩ 23 rfl rfl rfl hS (AgreeR.refl _) (t_sat (fun _ h => h) (hK () trivial))
            · -- 24
              rintro _ S hF hS D hp K hK
              try dsimp only at hF ⊢
              refine d_need (small := [(71, (.bool false)), (73, (.bool true))]) ⟨look_row rfl 21 rfl (hp 21 rfl), look_row rfl 23 rfl (hp 23 rfl), trivial⟩ ?_
              refine t_guard rfl rfl ?_
              refine tp rfl (lv_move rfl) ?_
              exact d_closes ⟨look_row rfl 21 rfl (hp 21 rfl), look_row rfl 23 rfl (hp 23 rfl), trivial⟩ 24 rfl rfl rfl hS (AgreeR.refl _) (t_sat (fun _ h => h) (hK () trivial))
            · -- 25
              rintro _ S hF hS D hp K hK
              try dsimp only at hF ⊢
              refine d_need (small := [(10, (.slice bs13 ((reachL (clampN n) (madeE (clampN n) (es.take 200)) a).length) cp14)), (74, (.bool true))]) ⟨look_b rfl rfl, look_row rfl 24 rfl (hp 24 rfl), trivial⟩ ?_
              refine t_guard rfl rfl ?_
              refine tp rfl (lv_move rfl) ?_
              exact d_closes ⟨look_b rfl rfl, look_row rfl 24 rfl (hp 24 rfl), trivial⟩ 25 rfl rfl rfl hS (AgreeR.refl _) (t_sat (fun _ h => h) (hK () trivial))
            · -- 26
              rintro _ S hF hS D hp K hK
              try dsimp only at hF ⊢
              refine d_need (small := [(11, (.int .i64 ((k : Nat) : Int))), (74, (.bool true))]) ⟨look_b rfl rfl, look_row rfl 24 rfl (hp 24 rfl), trivial⟩ ?_
              refine t_guard rfl rfl ?_
              refine tp rfl (lv_move rfl) ?_
              exact d_closes ⟨look_b rfl rfl, look_row rfl 24 rfl (hp 24 rfl), trivial⟩ 26 rfl rfl rfl hS (AgreeR.refl _) (t_sat (fun _ h => h) (hK () trivial))
            · -- 27
              rintro _ S hF hS D hp K hK
              try dsimp only at hF ⊢
              refine d_need (small := [(74, (.bool true)), (76, (.int .i64 ((k : Nat) : Int)))]) ⟨look_row rfl 24 rfl (hp 24 rfl), look_row rfl 26 rfl (hp 26 rfl), trivial⟩ ?_
              refine t_guard rfl rfl ?_
              refine tp rfl (lv_sub (c := ((k : Nat) : Int) - 1) rfl rfl (wr_i64 (by omega) (by omega))) ?_
              exact d_closes ⟨look_row rfl 24 rfl (hp 24 rfl), look_row rfl 26 rfl (hp 26 rfl), trivial⟩ 27 rfl rfl rfl hS (AgreeR.refl _) (t_sat (fun _ h => h) (hK () trivial))
            · -- 28
              rintro _ S hF hS D hp K hK
              try dsimp only at hF ⊢
              refine d_need (small := [(74, (.bool true)), (75, (.slice bs13 ((reachL (clampN n) (madeE (clampN n) (es.take 200)) a).length) cp14)), (77, (.int .i64 (((k : Nat) : Int) - 1)))]) ⟨look_row rfl 24 rfl (hp 24 rfl), look_row rfl 25 rfl (hp 25 rfl), look_row rfl 27 rfl (hp 27 rfl), trivial⟩ ?_
              refine t_guard rfl rfl ?_
              refine tp rfl (lv_indexAddr (k' := (((k : Nat) : Int) - 1).toNat) Tryd.underlying33 Tryd.sizeOf3 rfl rfl hok15 (by omega) (by omega) (by omega)) ?_
              exact d_closes ⟨look_row rfl 24 rfl (hp 24 rfl), look_row rfl 25 rfl (hp 25 rfl), look_row rfl 27 rfl (hp 27 rfl), trivial⟩ 28 rfl rfl rfl hS (AgreeR.refl _) (t_sat (fun _ h => h) (hK () trivial))
            · -- 29
              rintro _ S hF hS D hp K hK
              try dsimp only at hF ⊢
              refine d_need (small := [(74, (.bool true)), (78, (.pointer (some (ad bs13 ((((k : Nat) : Int) - 1).toNat)))))]) ⟨look_row rfl 24 rfl (hp 24 rfl), look_row rfl 28 rfl (hp 28 rfl), trivial⟩ ?_
              refine t_guard rfl rfl ?_
              refine tp rfl (lv_load Tryd.isAgg3 rfl (gives_sl (.head _) (ints_get (by first | omega | (simp; omega))))) ?_
              exact d_closes ⟨look_row rfl 24 rfl (hp 24 rfl), look_row rfl 28 rfl (hp 28 rfl), trivial⟩ 29 rfl rfl rfl hS (AgreeR.refl _) (t_sat (fun _ h => h) (hK () trivial))
            · -- 30
              rintro _ S hF hS D hp K hK
              try dsimp only at hF ⊢
              refine d_need (small := [(10, (.slice bs13 ((reachL (clampN n) (madeE (clampN n) (es.take 200)) a).length) cp14)), (74, (.bool true))]) ⟨look_b rfl rfl, look_row rfl 24 rfl (hp 24 rfl), trivial⟩ ?_
              refine t_guard rfl rfl ?_
              refine tp rfl (lv_move rfl) ?_
              exact d_closes ⟨look_b rfl rfl, look_row rfl 24 rfl (hp 24 rfl), trivial⟩ 30 rfl rfl rfl hS (AgreeR.refl _) (t_sat (fun _ h => h) (hK () trivial))
            · -- 31
              rintro _ S hF hS D hp K hK
              try dsimp only at hF ⊢
              refine d_need (small := [(11, (.int .i64 ((k : Nat) : Int))), (74, (.bool true))]) ⟨look_b rfl rfl, look_row rfl 24 rfl (hp 24 rfl), trivial⟩ ?_
              refine t_guard rfl rfl ?_
              refine tp rfl (lv_move rfl) ?_
              exact d_closes ⟨look_b rfl rfl, look_row rfl 24 rfl (hp 24 rfl), trivial⟩ 31 rfl rfl rfl hS (AgreeR.refl _) (t_sat (fun _ h => h) (hK () trivial))
            · -- 32
              rintro _ S hF hS D hp K hK
              try dsimp only at hF ⊢
              refine d_need (small := [(74, (.bool true)), (80, (.slice bs13 ((reachL (clampN n) (madeE (clampN n) (es.take 200)) a).length) cp14)), (81, (.int .i64 ((k : Nat) : Int)))]) ⟨look_row rfl 24 rfl (hp 24 rfl), look_row rfl 30 rfl (hp 30 rfl), look_row rfl 31 rfl (hp 31 rfl), trivial⟩ ?_
              refine t_guard rfl rfl ?_
              refine tp rfl (lv_indexAddr (k' := k) Tryd.underlying33 Tryd.sizeOf3 rfl rfl hok15 (by omega) (by omega) (by omega)) ?_
              exact d_closes ⟨look_row rfl 24 rfl (hp 24 rfl), look_row rfl 30 rfl (hp 30 rfl), look_row rfl 31 rfl (hp 31 rfl), trivial⟩ 32 rfl rfl rfl hS (AgreeR.refl _) (t_sat (fun _ h => h) (hK () trivial))
            · -- 33
              rintro _ S hF hS D hp K hK
              try dsimp only at hF ⊢
              refine d_need (small := [(74, (.bool true)), (82, (.pointer (some (ad bs13 k))))]) ⟨look_row rfl 24 rfl (hp 24 rfl), look_row rfl 32 rfl (hp 32 rfl), trivial⟩ ?_
              refine t_guard rfl rfl ?_
              refine tp rfl (lv_load Tryd.isAgg3 rfl (gives_sl (.head _) (ints_get (by first | omega | (simp; omega))))) ?_
              exact d_closes ⟨look_row rfl 24 rfl (hp 24 rfl), look_row rfl 32 rfl (hp 32 rfl), trivial⟩ 33 rfl rfl rfl hS (AgreeR.refl _) (t_sat (fun _ h => h) (hK () trivial))
            · -- 34
              rintro _ S hF hS D hp K hK
              try dsimp only at hF ⊢
              refine d_need (small := [(74, (.bool true)), (79, (.int .i64 ((reachL (clampN n) (madeE (clampN n) (es.take 200)) a).getD ((((k : Nat) : Int) - 1).toNat) 0))), (83, (.int .i64 ((reachL (clampN n) (madeE (clampN n) (es.take 200)) a).getD k 0)))]) ⟨look_row rfl 24 rfl (hp 24 rfl), look_row rfl 29 rfl (hp 29 rfl), look_row rfl 33 rfl (hp 33 rfl), trivial⟩ ?_
              refine t_guard rfl rfl ?_
              refine tp rfl (lv_geq rfl rfl (decide_eq_false (by have := hnx (by omega); omega))) ?_
              exact d_closes ⟨look_row rfl 24 rfl (hp 24 rfl), look_row rfl 29 rfl (hp 29 rfl), look_row rfl 33 rfl (hp 33 rfl), trivial⟩ 34 rfl rfl rfl hS (AgreeR.refl _) (t_sat (fun _ h => h) (hK () trivial))
            · -- 35
              rintro _ S hF hS D hp K hK
              try dsimp only at hF ⊢
              refine d_need (small := [(71, (.bool false)), (74, (.bool true)), (84, (.bool false))]) ⟨look_row rfl 21 rfl (hp 21 rfl), look_row rfl 24 rfl (hp 24 rfl), look_row rfl 34 rfl (hp 34 rfl), trivial⟩ ?_
              refine t_guard rfl rfl ?_
              refine tp rfl (lv_pick_t rfl rfl) ?_
              exact d_closes ⟨look_row rfl 21 rfl (hp 21 rfl), look_row rfl 24 rfl (hp 24 rfl), look_row rfl 34 rfl (hp 34 rfl), trivial⟩ 35 rfl rfl rfl hS (AgreeR.refl _) (t_sat (fun _ h => h) (hK () trivial))
            · -- 36
              rintro _ S hF hS D hp K hK
              try dsimp only at hF ⊢
              refine d_need (small := [(71, (.bool false)), (85, (.bool false))]) ⟨look_row rfl 21 rfl (hp 21 rfl), look_row rfl 35 rfl (hp 35 rfl), trivial⟩ ?_
              refine tp rfl (lv_pick_f rfl rfl) ?_
              exact d_closes ⟨look_row rfl 21 rfl (hp 21 rfl), look_row rfl 35 rfl (hp 35 rfl), trivial⟩ 36 rfl rfl rfl hS (AgreeR.refl _) (t_sat (fun _ h => h) (hK () trivial))
          · rintro _ hF
            try dsimp only at hF ⊢
            refine t_weak (E' := [(0, (.int .i64 n)), (1, (.slice bl es.length cl)), (2, (.int .i64 a)), (7, (.bool true)), (8, (.pointer (some ⟨p1, 0, none⟩))), (9, (.pointer (some ⟨b12, 0, none⟩))), (10, (.slice bs13 ((reachL (clampN n) (madeE (clampN n) (es.take 200)) a).length) cp14)), (11, (.int .i64 ((k : Nat) : Int))), (23, (.bool false)), (31, (.bool false)), (47, (.bool true)), (86, (.bool false))]) ⟨rfl, rfl, rfl, rfl, rfl, rfl, rfl, rfl, rfl, rfl, rfl, rfl, trivial⟩ ?_
            refine q_then_n (hK17 _ _ ?_)
            refine c_false rfl ?_
            refine c_skip ?_
            refine q_then_n (hK16 _ _ ?_)
            refine c_region ?_
            refine tp rfl (lv_move rfl) ?_
            refine tp rfl (lv_move rfl) ?_
            refine tp rfl (lv_indexAddr (k' := k) Tryd.underlying33 Tryd.sizeOf3 rfl rfl hok15 (by omega) (by omega) (by omega)) ?_
            refine tp rfl (lv_load Tryd.isAgg3 rfl (gives_sl (.head _) (ints_get (by first | omega | (simp; omega))))) ?_
            refine tp rfl (lv_indexArr (k' := ((reachL (clampN n) (madeE (clampN n) (es.take 200)) a).getD k 0).toNat) Tryd.underlying38 Tryd.sizeOf4 rfl rfl (by have := reachL_at (k := k) (show k < (reachL (clampN n) (madeE (clampN n) (es.take 200)) a).length by omega); omega) (by have := reachL_at (k := k) (show k < (reachL (clampN n) (madeE (clampN n) (es.take 200)) a).length by omega); omega) (by omega)) ?_
            refine t_f2 ?_
            refine ts (sv_blk Tryd.sizeOf4 rfl rfl rfl (by have := reachL_at (k := k) (show k < (reachL (clampN n) (madeE (clampN n) (es.take 200)) a).length by omega); rw [bools_length, mkS_len]; omega) bools_set) ?_
            refine t_done ?_
            refine q_in_n ?_
            refine q_then_n (hK15 _ _ ?_)
            refine c_region ?_
            refine tp rfl (lv_move rfl) ?_
            refine tp rfl (lv_add (c := ((k + 1 : Nat) : Int)) rfl rfl (wr_i64_succ (by omega))) ?_
            refine tp rfl (lv_assign rfl) ?_
            refine t_done ?_
            refine q_then_n ?_
            refine t_f2 ?_
            refine t_f2 ?_
            rw [show (mkS ((reachL (clampN n) (madeE (clampN n) (es.take 200)) a).take k)).set ((reachL (clampN n) (madeE (clampN n) (es.take 200)) a).getD k 0).toNat true = mkS ((reachL (clampN n) (madeE (clampN n) (es.take 200)) a).take (k + 1)) from mkS_succ (by omega) (by have := reachL_at (k := k) (show k < (reachL (clampN n) (madeE (clampN n) (es.take 200)) a).length by omega); omega) (by have := reachL_at (k := k) (show k < (reachL (clampN n) (madeE (clampN n) (es.take 200)) a).length by omega); omega)]
            exact t_weak (by exact ⟨rfl, rfl, rfl, rfl, rfl, rfl, rfl, rfl, rfl, rfl, trivial⟩) ((hK12 (k + 1) (by omega) (by omega)))
        · -- no
          refine c_draw (γ := Unit) (n := 37) Tryd.mixed rfl rfl (fun _ S => True) (fun _ => [(0, 50, (.slice bs13 ((reachL (clampN n) (madeE (clampN n) (es.take 200)) a).length) cp14)), (1, 51, (.int .i64 ((k : Nat) : Int))), (2, 52, (.pointer (some (ad bs13 k)))), (3, 53, (.int .i64 ((reachL (clampN n) (madeE (clampN n) (es.take 200)) a).getD k 0))), (4, 54, (.bool false)), (5, 55, (.bool false)), (6, 56, (.slice bs13 ((reachL (clampN n) (madeE (clampN n) (es.take 200)) a).length) cp14)), (7, 57, (.int .i64 ((k : Nat) : Int))), (8, 58, (.pointer (some (ad bs13 k)))), (9, 59, (.int .i64 ((reachL (clampN n) (madeE (clampN n) (es.take 200)) a).getD k 0))), (10, 60, (.pointer (some ⟨p1, 0, none⟩))), (11, 61, (.int .i64 ((clampN n : Nat) : Int))), (12, 62, (.bool false)), (13, 63, (.bool false)), (14, 64, (.bool false)), (15, 65, (.slice bs13 ((reachL (clampN n) (madeE (clampN n) (es.take 200)) a).length) cp14)), (16, 66, (.int .i64 ((k : Nat) : Int))), (17, 67, (.pointer (some (ad bs13 k)))), (18, 68, (.int .i64 ((reachL (clampN n) (madeE (clampN n) (es.take 200)) a).getD k 0))), (19, 69, (.bool false)), (20, 70, (.bool false)), (21, 71, (.bool false)), (22, 72, (.int .i64 ((k : Nat) : Int))), (23, 73, (.bool false)), (24, 74, (.bool false)), (25, 75, undef), (26, 76, undef), (27, 77, undef), (28, 78, undef), (29, 79, undef), (30, 80, undef), (31, 81, undef), (32, 82, undef), (33, 83, undef), (34, 84, undef), (35, 85, (.bool false)), (36, 86, (.bool false))]) (fun _ S => (SlV 3 1 (.slice bs13 ((reachL (clampN n) (madeE (clampN n) (es.take 200)) a).length) cp14) ((reachL (clampN n) (madeE (clampN n) (es.take 200)) a).length) (ints .i64 (reachL (clampN n) (madeE (clampN n) (es.take 200)) a))) :: (GraphO p1 (clampN n) (madeE (clampN n) (es.take 200))) :: (Blk b12 (bools (mkS ((reachL (clampN n) (madeE (clampN n) (es.take 200)) a).take k))) 38) :: R) (()) trivial (fun _ h => h) (fun _ _ h => h) ?_ ?_
          · refine ⟨?_, ?_, ?_, ?_, ?_, ?_, ?_, ?_, ?_, ?_, ?_, ?_, ?_, ?_, ?_, ?_, ?_, ?_, ?_, ?_, ?_, ?_, ?_, ?_, ?_, ?_, ?_, ?_, ?_, ?_, ?_, ?_, ?_, ?_, ?_, ?_, ?_, trivial⟩
            · -- 0
              rintro _ S hF hS D hp K hK
              try dsimp only at hF ⊢
              refine d_need (small := [(10, (.slice bs13 ((reachL (clampN n) (madeE (clampN n) (es.take 200)) a).length) cp14))]) ⟨look_b rfl rfl, trivial⟩ ?_
              refine tp rfl (lv_move rfl) ?_
              exact d_closes ⟨look_b rfl rfl, trivial⟩ 0 rfl rfl rfl hS (AgreeR.refl _) (t_sat (fun _ h => h) (hK () trivial))
            · -- 1
              rintro _ S hF hS D hp K hK
              try dsimp only at hF ⊢
              refine d_need (small := [(11, (.int .i64 ((k : Nat) : Int)))]) ⟨look_b rfl rfl, trivial⟩ ?_
              refine tp rfl (lv_move rfl) ?_
              exact d_closes ⟨look_b rfl rfl, trivial⟩ 1 rfl rfl rfl hS (AgreeR.refl _) (t_sat (fun _ h => h) (hK () trivial))
            · -- 2
              rintro _ S hF hS D hp K hK
              try dsimp only at hF ⊢
              refine d_need (small := [(50, (.slice bs13 ((reachL (clampN n) (madeE (clampN n) (es.take 200)) a).length) cp14)), (51, (.int .i64 ((k : Nat) : Int)))]) ⟨look_row rfl 0 rfl (hp 0 rfl), look_row rfl 1 rfl (hp 1 rfl), trivial⟩ ?_
              refine tp rfl (lv_indexAddr (k' := k) Tryd.underlying33 Tryd.sizeOf3 rfl rfl hok15 (by omega) (by omega) (by omega)) ?_
              exact d_closes ⟨look_row rfl 0 rfl (hp 0 rfl), look_row rfl 1 rfl (hp 1 rfl), trivial⟩ 2 rfl rfl rfl hS (AgreeR.refl _) (t_sat (fun _ h => h) (hK () trivial))
            · -- 3
              rintro _ S hF hS D hp K hK
              try dsimp only at hF ⊢
              refine d_need (small := [(52, (.pointer (some (ad bs13 k))))]) ⟨look_row rfl 2 rfl (hp 2 rfl), trivial⟩ ?_
              refine tp rfl (lv_load Tryd.isAgg3 rfl (gives_sl (.head _) (ints_get (by first | omega | (simp; omega))))) ?_
              exact d_closes ⟨look_row rfl 2 rfl (hp 2 rfl), trivial⟩ 3 rfl rfl rfl hS (AgreeR.refl _) (t_sat (fun _ h => h) (hK () trivial))
            · -- 4
              rintro _ S hF hS D hp K hK
              try dsimp only at hF ⊢
              refine d_need (small := [(53, (.int .i64 ((reachL (clampN n) (madeE (clampN n) (es.take 200)) a).getD k 0)))]) ⟨look_row rfl 3 rfl (hp 3 rfl), trivial⟩ ?_
              refine tp rfl (lv_lss rfl rfl (decide_eq_false (by omega))) ?_
              exact d_closes ⟨look_row rfl 3 rfl (hp 3 rfl), trivial⟩ 4 rfl rfl rfl hS (AgreeR.refl _) (t_sat (fun _ h => h) (hK () trivial))
            · -- 5
              rintro _ S hF hS D hp K hK
              try dsimp only at hF ⊢
              refine d_need (small := [(54, (.bool false))]) ⟨look_row rfl 4 rfl (hp 4 rfl), trivial⟩ ?_
              refine tp rfl (lv_move rfl) ?_
              exact d_closes ⟨look_row rfl 4 rfl (hp 4 rfl), trivial⟩ 5 rfl rfl rfl hS (AgreeR.refl _) (t_sat (fun _ h => h) (hK () trivial))
            · -- 6
              rintro _ S hF hS D hp K hK
              try dsimp only at hF ⊢
              refine d_need (small := [(10, (.slice bs13 ((reachL (clampN n) (madeE (clampN n) (es.take 200)) a).length) cp14)), (55, (.bool false))]) ⟨look_b rfl rfl, look_row rfl 5 rfl (hp 5 rfl), trivial⟩ ?_
              refine t_guard rfl rfl ?_
              refine tp rfl (lv_move rfl) ?_
              exact d_closes ⟨look_b rfl rfl, look_row rfl 5 rfl (hp 5 rfl), trivial⟩ 6 rfl rfl rfl hS (AgreeR.refl _) (t_sat (fun _ h => h) (hK () trivial))
            · -- 7
              rintro _ S hF hS D hp K hK
              try dsimp only at hF ⊢
              refine d_need (small := [(11, (.int .i64 ((k : Nat) : Int))), (55, (.bool false))]) ⟨look_b rfl rfl, look_row rfl 5 rfl (hp 5 rfl), trivial⟩ ?_
              refine t_guard rfl rfl ?_
              refine tp rfl (lv_move rfl) ?_
              exact d_closes ⟨look_b rfl rfl, look_row rfl 5 rfl (hp 5 rfl), trivial⟩ 7 rfl rfl rfl hS (AgreeR.refl _) (t_sat (fun _ h => h) (hK () trivial))
            · -- 8
              rintro _ S hF hS D hp K hK
              try dsimp only at hF ⊢
              refine d_need (small := [(55, (.bool false)), (56, (.slice bs13 ((reachL (clampN n) (madeE (clampN n) (es.take 200)) a).length) cp14)), (57, (.int .i64 ((k : Nat) : Int)))]) ⟨look_row rfl 5 rfl (hp 5 rfl), look_row rfl 6 rfl (hp 6 rfl), look_row rfl 7 rfl (hp 7 rfl), trivial⟩ ?_
              refine t_guard rfl rfl ?_
              refine tp rfl (lv_indexAddr (k' := k) Tryd.underlying33 Tryd.sizeOf3 rfl rfl hok15 (by omega) (by omega) (by omega)) ?_
              exact d_closes ⟨look_row rfl 5 rfl (hp 5 rfl), look_row rfl 6 rfl (hp 6 rfl), look_row rfl 7 rfl (hp 7 rfl), trivial⟩ 8 rfl rfl rfl hS (AgreeR.refl _) (t_sat (fun _ h => h) (hK () trivial))
            · -- 9
              rintro _ S hF hS D hp K hK
              try dsimp only at hF ⊢
              refine d_need (small := [(55, (.bool false)), (58, (.pointer (some (ad bs13 k))))]) ⟨look_row rfl 5 rfl (hp 5 rfl), look_row rfl 8 rfl (hp 8 rfl), trivial⟩ ?_
              refine t_guard rfl rfl ?_
              refine tp rfl (lv_load Tryd.isAgg3 rfl (gives_sl (.head _) (ints_get (by first | omega | (simp; omega))))) ?_
              exact d_closes ⟨look_row rfl 5 rfl (hp 5 rfl), look_row rfl 8 rfl (hp 8 rfl), trivial⟩ 9 rfl rfl rfl hS (AgreeR.refl _) (t_sat (fun _ h => h) (hK () trivial))
            · -- 10
              rintro _ S hF hS D hp K hK
              try dsimp only at hF ⊢
              refine d_need (small := [(8, (.pointer (some ⟨p1, 0, none⟩))), (55, (.bool false))]) ⟨look_b rfl rfl, look_row rfl 5 rfl (hp 5 rfl), trivial⟩ ?_
              refine t_guard rfl rfl ?_
              refine tp rfl (lv_move rfl) ?_
              exact d_closes ⟨look_b rfl rfl, look_row rfl 5 rfl (hp 5 rfl), trivial⟩ 10 rfl rfl rfl hS (AgreeR.refl _) (t_sat (fun _ h => h) (hK () trivial))
            · -- 11
              rintro _ S hF hS D hp K hK
              try dsimp only at hF ⊢
              refine d_need (small := [(55, (.bool false)), (60, (.pointer (some ⟨p1, 0, none⟩)))]) ⟨look_row rfl 5 rfl (hp 5 rfl), look_row rfl 10 rfl (hp 10 rfl), trivial⟩ ?_
              refine t_guard rfl rfl ?_
              refine t_f1 ?_
              refine tc rfl (en_fn Tryd.call18 rfl) (n_ok) ?_
              rintro _ _ ⟨rfl, rfl⟩
              refine t_f1 ?_
              exact d_closes ⟨look_row rfl 5 rfl (hp 5 rfl), look_row rfl 10 rfl (hp 10 rfl), trivial⟩ 11 rfl rfl rfl hS (AgreeR.refl _) (t_sat (fun _ h => h) (hK () trivial))
            · -- 12
              rintro _ S hF hS D hp K hK
              try dsimp only at hF ⊢
              refine d_need (small := [(55, (.bool false)), (59, (.int .i64 ((reachL (clampN n) (madeE (clampN n) (es.take 200)) a).getD k 0))), (61, (.int .i64 ((clampN n : Nat) : Int)))]) ⟨look_row rfl 5 rfl (hp 5 rfl), look_row rfl 9 rfl (hp 9 rfl), look_row rfl 11 rfl (hp 11 rfl), trivial⟩ ?_
              refine t_guard rfl rfl ?_
              refine tp rfl (lv_geq rfl rfl (decide_eq_false (by omega))) ?_
              exact d_closes ⟨look_row rfl 5 rfl (hp 5 rfl), look_row rfl 9 rfl (hp 9 rfl), look_row rfl 11 rfl (hp 11 rfl), trivial⟩ 12 rfl rfl rfl hS (AgreeR.refl _) (t_sat (fun _ h => h) (hK () trivial))
            · -- 13
              rintro _ S hF hS D hp K hK
              try dsimp only at hF ⊢
              refine d_need (small := [(55, (.bool false)), (62, (.bool false))]) ⟨look_row rfl 5 rfl (hp 5 rfl), look_row rfl 12 rfl (hp 12 rfl), trivial⟩ ?_
              refine tp rfl (lv_pick_f rfl rfl) ?_
              exact d_closes ⟨look_row rfl 5 rfl (hp 5 rfl), look_row rfl 12 rfl (hp 12 rfl), trivial⟩ 13 rfl rfl rfl hS (AgreeR.refl _) (t_sat (fun _ h => h) (hK () trivial))
            · -- 14
              rintro _ S hF hS D hp K hK
              try dsimp only at hF ⊢
              refine d_need (small := [(63, (.bool false))]) ⟨look_row rfl 13 rfl (hp 13 rfl), trivial⟩ ?_
              refine tp rfl (lv_move rfl) ?_
              exact d_closes ⟨look_row rfl 13 rfl (hp 13 rfl), trivial⟩ 14 rfl rfl rfl hS (AgreeR.refl _) (t_sat (fun _ h => h) (hK () trivial))
            · -- 15
              rintro _ S hF hS D hp K hK
              try dsimp only at hF ⊢
              refine d_need (small := [(10, (.slice bs13 ((reachL (clampN n) (madeE (clampN n) (es.take 200)) a).length) cp14)), (64, (.bool false))]) ⟨look_b rfl rfl, look_row rfl 14 rfl (hp 14 rfl), trivial⟩ ?_
              refine t_guard rfl rfl ?_
              refine tp rfl (lv_move rfl) ?_
              exact d_closes ⟨look_b rfl rfl, look_row rfl 14 rfl (hp 14 rfl), trivial⟩ 15 rfl rfl rfl hS (AgreeR.refl _) (t_sat (fun _ h => h) (hK () trivial))
            · -- 16
              rintro _ S hF hS D hp K hK
              try dsimp only at hF ⊢
              refine d_need (small := [(11, (.int .i64 ((k : Nat) : Int))), (64, (.bool false))]) ⟨look_b rfl rfl, look_row rfl 14 rfl (hp 14 rfl), trivial⟩ ?_
              refine t_guard rfl rfl ?_
              refine tp rfl (lv_move rfl) ?_
              exact d_closes ⟨look_b rfl rfl, look_row rfl 14 rfl (hp 14 rfl), trivial⟩ 16 rfl rfl rfl hS (AgreeR.refl _) (t_sat (fun _ h => h) (hK () trivial))
            · -- 17
              rintro _ S hF hS D hp K hK
              try dsimp only at hF ⊢
              refine d_need (small := [(64, (.bool false)), (65, (.slice bs13 ((reachL (clampN n) (madeE (clampN n) (es.take 200)) a).length) cp14)), (66, (.int .i64 ((k : Nat) : Int)))]) ⟨look_row rfl 14 rfl (hp 14 rfl), look_row rfl 15 rfl (hp 15 rfl), look_row rfl 16 rfl (hp 16 rfl), trivial⟩ ?_
              refine t_guard rfl rfl ?_
              refine tp rfl (lv_indexAddr (k' := k) Tryd.underlying33 Tryd.sizeOf3 rfl rfl hok15 (by omega) (by omega) (by omega)) ?_
              exact d_closes ⟨look_row rfl 14 rfl (hp 14 rfl), look_row rfl 15 rfl (hp 15 rfl), look_row rfl 16 rfl (hp 16 rfl), trivial⟩ 17 rfl rfl rfl hS (AgreeR.refl _) (t_sat (fun _ h => h) (hK () trivial))
            · -- 18
              rintro _ S hF hS D hp K hK
              try dsimp only at hF ⊢
              refine d_need (small := [(64, (.bool false)), (67, (.pointer (some (ad bs13 k))))]) ⟨look_row rfl 14 rfl (hp 14 rfl), look_row rfl 17 rfl (hp 17 rfl), trivial⟩ ?_
              refine t_guard rfl rfl ?_
              refine tp rfl (lv_load Tryd.isAgg3 rfl (gives_sl (.head _) (ints_get (by first | omega | (simp; omega))))) ?_
              exact d_closes ⟨look_row rfl 14 rfl (hp 14 rfl), look_row rfl 17 rfl (hp 17 rfl), trivial⟩ 18 rfl rfl rfl hS (AgreeR.refl _) (t_sat (fun _ h => h) (hK () trivial))
            · -- 19
              rintro _ S hF hS D hp K hK
              try dsimp only at hF ⊢
              refine d_need (small := [(64, (.bool false)), (68, (.int .i64 ((reachL (clampN n) (madeE (clampN n) (es.take 200)) a).getD k 0)))]) ⟨look_row rfl 14 rfl (hp 14 rfl), look_row rfl 18 rfl (hp 18 rfl), trivial⟩ ?_
              refine t_guard rfl rfl ?_
              refine tp rfl (lv_geq rfl rfl (decide_eq_false (by omega))) ?_
              exact d_closes ⟨look_row rfl 14 rfl (hp 14 rfl), look_row rfl 18 rfl (hp 18 rfl), trivial⟩ 19 rfl rfl rfl hS (AgreeR.refl _) (t_sat (fun _ h => h) (hK () trivial))
            · -- 20
              rintro _ S hF hS D hp K hK
              try dsimp only at hF ⊢
              refine d_need (small := [(64, (.bool false)), (69, (.bool false))]) ⟨look_row rfl 14 rfl (hp 14 rfl), look_row rfl 19 rfl (hp 19 rfl), trivial⟩ ?_
              refine tp rfl (lv_pick_f rfl rfl) ?_
              exact d_closes ⟨look_row rfl 14 rfl (hp 14 rfl), look_row rfl 19 rfl (hp 19 rfl), trivial⟩ 20 rfl rfl rfl hS (AgreeR.refl _) (t_sat (fun _ h => h) (hK () trivial))
            · -- 21
              rintro _ S hF hS D hp K hK
              try dsimp only at hF ⊢
              refine d_need (small := [(70, (.bool false))]) ⟨look_row rfl 20 rfl (hp 20 rfl), trivial⟩ ?_
              refine tp rfl (lv_move rfl) ?_
              exact d_closes ⟨look_row rfl 20 rfl (hp 20 rfl), trivial⟩ 21 rfl rfl rfl hS (AgreeR.refl _) (t_sat (fun _ h => h) (hK () trivial))
            · -- 22
              rintro _ S hF hS D hp K hK
              try dsimp only at hF ⊢
              refine d_need (small := [(11, (.int .i64 ((k : Nat) : Int))), (71, (.bool false))]) ⟨look_b rfl rfl, look_row rfl 21 rfl (hp 21 rfl), trivial⟩ ?_
              refine t_guard rfl rfl ?_
              refine tp rfl (lv_move rfl) ?_
              exact d_closes ⟨look_b rfl rfl, look_row rfl 21 rfl (hp 21 rfl), trivial⟩ 22 rfl rfl rfl hS (AgreeR.refl _) (t_sat (fun _ h => h) (hK () trivial))
            · -- 23
              rintro _ S hF hS D hp K hK
              try dsimp only at hF ⊢
              refine d_need (small := [(71, (.bool false)), (72, (.int .i64 ((k : Nat) : Int)))]) ⟨look_row rfl 21 rfl (hp 21 rfl), look_row rfl 22 rfl (hp 22 rfl), trivial⟩ ?_
              refine t_guard rfl rfl ?_
              refine tp rfl (lv_gtr rfl rfl (decide_eq_false h18)) ?_
              exact d_closes ⟨look_row rfl 21 rfl (hp 21 rfl), look_row rfl 22 rfl (hp 22 rfl), trivial⟩ 23 rfl rfl rfl hS (AgreeR.refl _) (t_sat (fun _ h => h) (hK () trivial))
            · -- 24
              rintro _ S hF hS D hp K hK
              try dsimp only at hF ⊢
              refine d_need (small := [(71, (.bool false)), (73, (.bool false))]) ⟨look_row rfl 21 rfl (hp 21 rfl), look_row rfl 23 rfl (hp 23 rfl), trivial⟩ ?_
              refine t_guard rfl rfl ?_
              refine tp rfl (lv_move rfl) ?_
              exact d_closes ⟨look_row rfl 21 rfl (hp 21 rfl), look_row rfl 23 rfl (hp 23 rfl), trivial⟩ 24 rfl rfl rfl hS (AgreeR.refl _) (t_sat (fun _ h => h) (hK () trivial))
            · -- 25
              rintro _ S hF hS D hp K hK
              try dsimp only at hF ⊢
              refine d_need (small := [(10, (.slice bs13 ((reachL (clampN n) (madeE (clampN n) (es.take 200)) a).length) cp14)), (74, (.bool false))]) ⟨look_b rfl rfl, look_row rfl 24 rfl (hp 24 rfl), trivial⟩ ?_
              refine t_skip rfl rfl rfl ?_
              exact d_closes ⟨look_b rfl rfl, look_row rfl 24 rfl (hp 24 rfl), trivial⟩ 25 rfl rfl rfl hS (AgreeR.refl _) (t_sat (fun _ h => h) (hK () trivial))
            · -- 26
              rintro _ S hF hS D hp K hK
              try dsimp only at hF ⊢
              refine d_need (small := [(11, (.int .i64 ((k : Nat) : Int))), (74, (.bool false))]) ⟨look_b rfl rfl, look_row rfl 24 rfl (hp 24 rfl), trivial⟩ ?_
              refine t_skip rfl rfl rfl ?_
              exact d_closes ⟨look_b rfl rfl, look_row rfl 24 rfl (hp 24 rfl), trivial⟩ 26 rfl rfl rfl hS (AgreeR.refl _) (t_sat (fun _ h => h) (hK () trivial))
            · -- 27
              rintro _ S hF hS D hp K hK
              try dsimp only at hF ⊢
              refine d_need (small := [(74, (.bool false)), (76, undef)]) ⟨look_row rfl 24 rfl (hp 24 rfl), look_row rfl 26 rfl (hp 26 rfl), trivial⟩ ?_
              refine t_skip rfl rfl rfl ?_
              exact d_closes ⟨look_row rfl 24 rfl (hp 24 rfl), look_row rfl 26 rfl (hp 26 rfl), trivial⟩ 27 rfl rfl rfl hS (AgreeR.refl _) (t_sat (fun _ h => h) (hK () trivial))
            · -- 28
              rintro _ S hF hS D hp K hK
              try dsimp only at hF ⊢
              refine d_need (small := [(74, (.bool false)), (75, undef), (77, undef)]) ⟨look_row rfl 24 rfl (hp 24 rfl), look_row rfl 25 rfl (hp 25 rfl), look_row rfl 27 rfl (hp 27 rfl), trivial⟩ ?_
              refine t_skip rfl rfl rfl ?_
              exact d_closes ⟨look_row rfl 24 rfl (hp 24 rfl), look_row rfl 25 rfl (hp 25 rfl), look_row rfl 27 rfl (hp 27 rfl), trivial⟩ 28 rfl rfl rfl hS (AgreeR.refl _) (t_sat (fun _ h => h) (hK () trivial))
            · -- 29
              rintro _ S hF hS D hp K hK
              try dsimp only at hF ⊢
              refine d_need (small := [(74, (.bool false)), (78, undef)]) ⟨look_row rfl 24 rfl (hp 24 rfl), look_row rfl 28 rfl (hp 28 rfl), trivial⟩ ?_
              refine t_skip rfl rfl rfl ?_
              exact d_closes ⟨look_row rfl 24 rfl (hp 24 rfl), look_row rfl 28 rfl (hp 28 rfl), trivial⟩ 29 rfl rfl rfl hS (AgreeR.refl _) (t_sat (fun _ h => h) (hK () trivial))
            · -- 30
              rintro _ S hF hS D hp K hK
              try dsimp only at hF ⊢
              refine d_need (small := [(10, (.slice bs13 ((reachL (clampN n) (madeE (clampN n) (es.take 200)) a).length) cp14)), (74, (.bool false))]) ⟨look_b rfl rfl, look_row rfl 24 rfl (hp 24 rfl), trivial⟩ ?_
              refine t_skip rfl rfl rfl ?_
              exact d_closes ⟨look_b rfl rfl, look_row rfl 24 rfl (hp 24 rfl), trivial⟩ 30 rfl rfl rfl hS (AgreeR.refl _) (t_sat (fun _ h => h) (hK () trivial))
            · -- 31
              rintro _ S hF hS D hp K hK
              try dsimp only at hF ⊢
              refine d_need (small := [(11, (.int .i64 ((k : Nat) : Int))), (74, (.bool false))]) ⟨look_b rfl rfl, look_row rfl 24 rfl (hp 24 rfl), trivial⟩ ?_
              refine t_skip rfl rfl rfl ?_
              exact d_closes ⟨look_b rfl rfl, look_row rfl 24 rfl (hp 24 rfl), trivial⟩ 31 rfl rfl rfl hS (AgreeR.refl _) (t_sat (fun _ h => h) (hK () trivial))
            · -- 32
              rintro _ S hF hS D hp K hK
              try dsimp only at hF ⊢
              refine d_need (small := [(74, (.bool false)), (80, undef), (81, undef)]) ⟨look_row rfl 24 rfl (hp 24 rfl), look_row rfl 30 rfl (hp 30 rfl), look_row rfl 31 rfl (hp 31 rfl), trivial⟩ ?_
              refine t_skip rfl rfl rfl ?_
              exact d_closes ⟨look_row rfl 24 rfl (hp 24 rfl), look_row rfl 30 rfl (hp 30 rfl), look_row rfl 31 rfl (hp 31 rfl), trivial⟩ 32 rfl rfl rfl hS (AgreeR.refl _) (t_sat (fun _ h => h) (hK () trivial))
            · -- 33
              rintro _ S hF hS D hp K hK
              try dsimp only at hF ⊢
              refine d_need (small := [(74, (.bool false)), (82, undef)]) ⟨look_row rfl 24 rfl (hp 24 rfl), look_row rfl 32 rfl (hp 32 rfl), trivial⟩ ?_
              refine t_skip rfl rfl rfl ?_
              exact d_closes ⟨look_row rfl 24 rfl (hp 24 rfl), look_row rfl 32 rfl (hp 32 rfl), trivial⟩ 33 rfl rfl rfl hS (AgreeR.refl _) (t_sat (fun _ h => h) (hK () trivial))
            · -- 34
              rintro _ S hF hS D hp K hK
              try dsimp only at hF ⊢
              refine d_need (small := [(74, (.bool false)), (79, undef), (83, undef)]) ⟨look_row rfl 24 rfl (hp 24 rfl), look_row rfl 29 rfl (hp 29 rfl), look_row rfl 33 rfl (hp 33 rfl), trivial⟩ ?_
              refine t_skip rfl rfl rfl ?_
              exact d_closes ⟨look_row rfl 24 rfl (hp 24 rfl), look_row rfl 29 rfl (hp 29 rfl), look_row rfl 33 rfl (hp 33 rfl), trivial⟩ 34 rfl rfl rfl hS (AgreeR.refl _) (t_sat (fun _ h => h) (hK () trivial))
            · -- 35
              rintro _ S hF hS D hp K hK
              try dsimp only at hF ⊢
              refine d_need (small := [(71, (.bool false)), (74, (.bool false)), (84, undef)]) ⟨look_row rfl 21 rfl (hp 21 rfl), look_row rfl 24 rfl (hp 24 rfl), look_row rfl 34 rfl (hp 34 rfl), trivial⟩ ?_
              refine t_guard rfl rfl ?_
              refine tp rfl (lv_pick_f rfl rfl) ?_
              exact d_closes ⟨look_row rfl 21 rfl (hp 21 rfl), look_row rfl 24 rfl (hp 24 rfl), look_row rfl 34 rfl (hp 34 rfl), trivial⟩ 35 rfl rfl rfl hS (AgreeR.refl _) (t_sat (fun _ h => h) (hK () trivial))
            · -- 36
              rintro _ S hF hS D hp K hK
              try dsimp only at hF ⊢
              refine d_need (small := [(71, (.bool false)), (85, (.bool false))]) ⟨look_row rfl 21 rfl (hp 21 rfl), look_row rfl 35 rfl (hp 35 rfl), trivial⟩ ?_
              refine tp rfl (lv_pick_f rfl rfl) ?_
              exact d_closes ⟨look_row rfl 21 rfl (hp 21 rfl), look_row rfl 35 rfl (hp 35 rfl), trivial⟩ 36 rfl rfl rfl hS (AgreeR.refl _) (t_sat (fun _ h => h) (hK () trivial))
          · rintro _ hF
            try dsimp only at hF ⊢
            refine t_weak (E' := [(0, (.int .i64 n)), (1, (.slice bl es.length cl)), (2, (.int .i64 a)), (7, (.bool true)), (8, (.pointer (some ⟨p1, 0, none⟩))), (9, (.pointer (some ⟨b12, 0, none⟩))), (10, (.slice bs13 ((reachL (clampN n) (madeE (clampN n) (es.take 200)) a).length) cp14)), (11, (.int .i64 ((k : Nat) : Int))), (23, (.bool false)), (31, (.bool false)), (47, (.bool true)), (86, (.bool false))]) ⟨rfl, rfl, rfl, rfl, rfl, rfl, rfl, rfl, rfl, rfl, rfl, rfl, trivial⟩ ?_
            refine q_then_n (hK17 _ _ ?_)
            refine c_false rfl ?_
            refine c_skip ?_
            refine q_then_n (hK16 _ _ ?_)
            refine c_region ?_
            refine tp rfl (lv_move rfl) ?_
            refine tp rfl (lv_move rfl) ?_
            refine tp rfl (lv_indexAddr (k' := k) Tryd.underlying33 Tryd.sizeOf3 rfl rfl hok15 (by omega) (by omega) (by omega)) ?_
            refine tp rfl (lv_load Tryd.isAgg3 rfl (gives_sl (.head _) (ints_get (by first | omega | (simp; omega))))) ?_
            refine tp rfl (lv_indexArr (k' := ((reachL (clampN n) (madeE (clampN n) (es.take 200)) a).getD k 0).toNat) Tryd.underlying38 Tryd.sizeOf4 rfl rfl (by have := reachL_at (k := k) (show k < (reachL (clampN n) (madeE (clampN n) (es.take 200)) a).length by omega); omega) (by have := reachL_at (k := k) (show k < (reachL (clampN n) (madeE (clampN n) (es.take 200)) a).length by omega); omega) (by omega)) ?_
            refine t_f2 ?_
            refine ts (sv_blk Tryd.sizeOf4 rfl rfl rfl (by have := reachL_at (k := k) (show k < (reachL (clampN n) (madeE (clampN n) (es.take 200)) a).length by omega); rw [bools_length, mkS_len]; omega) bools_set) ?_
            refine t_done ?_
            refine q_in_n ?_
            refine q_then_n (hK15 _ _ ?_)
            refine c_region ?_
            refine tp rfl (lv_move rfl) ?_
            refine tp rfl (lv_add (c := ((k + 1 : Nat) : Int)) rfl rfl (wr_i64_succ (by omega))) ?_
            refine tp rfl (lv_assign rfl) ?_
            refine t_done ?_
            refine q_then_n ?_
            refine t_f2 ?_
            refine t_f2 ?_
            rw [show (mkS ((reachL (clampN n) (madeE (clampN n) (es.take 200)) a).take k)).set ((reachL (clampN n) (madeE (clampN n) (es.take 200)) a).getD k 0).toNat true = mkS ((reachL (clampN n) (madeE (clampN n) (es.take 200)) a).take (k + 1)) from mkS_succ (by omega) (by have := reachL_at (k := k) (show k < (reachL (clampN n) (madeE (clampN n) (es.take 200)) a).length by omega); omega) (by have := reachL_at (k := k) (show k < (reachL (clampN n) (madeE (clampN n) (es.take 200)) a).length by omega); omega)]
            exact t_weak (by exact ⟨rfl, rfl, rfl, rfl, rfl, rfl, rfl, rfl, rfl, rfl, trivial⟩) ((hK12 (k + 1) (by omega) (by omega)))
      · -- no
        refine tp rfl (lv_lss rfl rfl (decide_eq_false h17)) ?_
        refine t_done ?_
        refine q_then_n (hK14 _ _ ?_)
        refine c_false rfl ?_
        refine c_exit ?_
        refine q_then_x ?_
        refine q_then_x ?_
        refine q_in_x ?_
        refine q_then_n (hK10 _ _ ?_)
        refine c_seq (fun K15 hK15 => ?_)
        refine c_seq (fun K16 hK16 => ?_)
        refine c_region ?_
        rw [show (reachL (clampN n) (madeE (clampN n) (es.take 200)) a).take k = reachL (clampN n) (madeE (clampN n) (es.take 200)) a from List.take_of_length_le (by omega)]
        refine tp rfl (lv_assign rfl) ?_
        refine t_done ?_
        refine q_then_n (hK16 _ _ ?_)
        refine c_block ?_
        refine c_loop (γ := (Nat)) (fun (x : Nat) => x ≤ clampN n) (fun (x : Nat) => [(0, (.int .i64 n)), (1, (.slice bl es.length cl)), (2, (.int .i64 a)), (7, (.bool true)), (8, (.pointer (some ⟨p1, 0, none⟩))), (9, (.pointer (some ⟨b12, 0, none⟩))), (10, (.slice bs13 ((reachL (clampN n) (madeE (clampN n) (es.take 200)) a).length) cp14)), (11, (.int .i64 ((k : Nat) : Int))), (12, (.int .i64 ((x : Nat) : Int))), (23, (.bool false)), (31, (.bool false)), (47, (.bool false))]) (fun (x : Nat) => (SlV 3 1 (.slice bs13 ((reachL (clampN n) (madeE (clampN n) (es.take 200)) a).length) cp14) ((reachL (clampN n) (madeE (clampN n) (es.take 200)) a).length) (ints .i64 (reachL (clampN n) (madeE (clampN n) (es.take 200)) a))) :: (GraphO p1 (clampN n) (madeE (clampN n) (es.take 200))) :: (Blk b12 (bools (mkS (reachL (clampN n) (madeE (clampN n) (es.take 200)) a))) 38) :: R) (fun (x : Nat) => clampN n - x) (0) (by omega) ⟨rfl, rfl, rfl, rfl, rfl, rfl, rfl, rfl, rfl, rfl, rfl, rfl, trivial⟩ (fun _ h => h) ?_
        rintro x K17 hF hK17
        try dsimp only at hF hK17 ⊢
        refine c_seq (fun K18 hK18 => ?_)
        refine c_seq (fun K19 hK19 => ?_)
        refine c_region ?_
        by_cases hc19 : ((x : Nat) : Int) < ((clampN n : Nat) : Int) ∧ ((x : Nat) : Int) < 64
        · -- both
          have hc19a := hc19.1
          have hc19b := hc19.2
          refine tp rfl (lv_move rfl) ?_
          refine tp rfl (lv_move rfl) ?_
          refine t_f1 ?_
          refine tc rfl (en_fn Tryd.call18 rfl) (n_ok) ?_
          rintro _ _ ⟨rfl, rfl⟩
          refine tp rfl (lv_lss rfl rfl (decide_eq_true hc19.1)) ?_
          refine tp rfl (lv_move rfl) ?_
          refine t_guard rfl rfl ?_
          refine tp rfl (lv_move rfl) ?_
          refine t_guard rfl rfl ?_
          refine tp rfl (lv_lss rfl rfl (decide_eq_true hc19.2)) ?_
          refine tp rfl (lv_pick_t rfl rfl) ?_
          refine t_done ?_
          refine q_then_n (hK19 _ _ ?_)
          refine c_true rfl ?_
          refine c_skip ?_
          refine q_then_n (hK18 _ _ ?_)
          refine c_seq (fun K20 hK20 => ?_)
          refine c_block ?_
          refine c_seq (fun K21 hK21 => ?_)
          refine c_region ?_
          refine tp rfl (lv_move rfl) ?_
          refine tp rfl (lv_move rfl) ?_
          refine tc rfl (en_fn Tryd.call19 rfl) (out_ok (N := clampN n) (es := madeE (clampN n) (es.take 200)) ((x : Nat) : Int)) ?_
          rintro _ _ ⟨bs20, cp21, hok22, hle23, rfl, rfl⟩
          refine tp rfl (lv_assign rfl) ?_
          refine t_done ?_
          refine q_then_n (hK21 _ _ ?_)
          refine c_seq (fun K22 hK22 => ?_)
          refine c_seq (fun K23 hK23 => ?_)
          refine c_region ?_
          refine tp rfl (lv_assign rfl) ?_
          refine t_done ?_
          refine q_then_n (hK23 _ _ ?_)
          refine c_block ?_
          refine c_loop (γ := (Nat)) (fun (i : Nat) => i ≤ (outs (madeE (clampN n) (es.take 200)) ((x : Nat) : Int)).length) (fun (i : Nat) => [(0, (.int .i64 n)), (1, (.slice bl es.length cl)), (2, (.int .i64 a)), (7, (.bool true)), (8, (.pointer (some ⟨p1, 0, none⟩))), (9, (.pointer (some ⟨b12, 0, none⟩))), (10, (.slice bs13 ((reachL (clampN n) (madeE (clampN n) (es.take 200)) a).length) cp14)), (11, (.int .i64 ((k : Nat) : Int))), (12, (.int .i64 ((x : Nat) : Int))), (13, (.slice bs20 ((outs (madeE (clampN n) (es.take 200)) ((x : Nat) : Int)).length) cp21)), (14, (.int .i64 ((i : Nat) : Int))), (23, (.bool false)), (31, (.bool false)), (47, (.bool false)), (99, (.bool true))]) (fun (i : Nat) => (SlV 3 1 (.slice bs20 ((outs (madeE (clampN n) (es.take 200)) ((x : Nat) : Int)).length) cp21) ((outs (madeE (clampN n) (es.take 200)) ((x : Nat) : Int)).length) (ints .i64 (outs (madeE (clampN n) (es.take 200)) ((x : Nat) : Int)))) :: (GraphO p1 (clampN n) (madeE (clampN n) (es.take 200))) :: (SlV 3 1 (.slice bs13 ((reachL (clampN n) (madeE (clampN n) (es.take 200)) a).length) cp14) ((reachL (clampN n) (madeE (clampN n) (es.take 200)) a).length) (ints .i64 (reachL (clampN n) (madeE (clampN n) (es.take 200)) a))) :: (Blk b12 (bools (mkS (reachL (clampN n) (madeE (clampN n) (es.take 200)) a))) 38) :: R) (fun (i : Nat) => (outs (madeE (clampN n) (es.take 200)) ((x : Nat) : Int)).length - i) (0) (by omega) ⟨rfl, rfl, rfl, rfl, rfl, rfl, rfl, rfl, rfl, rfl, rfl, rfl, rfl, rfl, rfl, trivial⟩ (fun _ h => h) ?_
          rintro i K24 hF hK24
          try dsimp only at hF hK24 ⊢
          have hol := outs_le (madeE (clampN n) (es.take 200)) ((x : Nat) : Int)
          refine c_seq (fun K25 hK25 => ?_)
          refine c_seq (fun K26 hK26 => ?_)
          refine c_region ?_
          refine tp rfl (lv_move rfl) ?_
          refine tp rfl (lv_move rfl) ?_
          refine tp rfl (lv_len Tryd.underlying33 rfl rfl) ?_
          by_cases h24 : ((i : Nat) : Int) < (((outs (madeE (clampN n) (es.take 200)) ((x : Nat) : Int)).length : Nat) : Int)
          · -- yes
            refine tp rfl (lv_lss rfl rfl (decide_eq_true h24)) ?_
            refine t_done ?_
            refine q_then_n (hK26 _ _ ?_)
            refine c_true rfl ?_
            refine c_skip ?_
            refine q_then_n (hK25 _ _ ?_)
            refine c_seq (fun K27 hK27 => ?_)
            refine c_block ?_
            refine c_seq (fun K28 hK28 => ?_)
            refine c_region ?_
            have hob := outs_bd hgk (show i < (outs (madeE (clampN n) (es.take 200)) ((x : Nat) : Int)).length by omega)
            refine tp rfl (lv_move rfl) ?_
            refine tp rfl (lv_move rfl) ?_
            refine tp rfl (lv_indexAddr (k' := i) Tryd.underlying33 Tryd.sizeOf3 rfl rfl hok22 (by omega) (by omega) (by omega)) ?_
            refine tp rfl (lv_load Tryd.isAgg3 rfl (gives_sl (.head _) (ints_get (by first | omega | (simp; omega))))) ?_
            refine tp rfl (lv_lss rfl rfl (decide_eq_false (by omega))) ?_
            refine tp rfl (lv_move rfl) ?_
            refine t_guard rfl rfl ?_
            refine tp rfl (lv_move rfl) ?_
            refine t_guard rfl rfl ?_
            refine tp rfl (lv_move rfl) ?_
            refine t_guard rfl rfl ?_
            refine tp rfl (lv_indexAddr (k' := i) Tryd.underlying33 Tryd.sizeOf3 rfl rfl hok22 (by omega) (by omega) (by omega)) ?_
            refine t_guard rfl rfl ?_
            refine tp rfl (lv_load Tryd.isAgg3 rfl (gives_sl (.head _) (ints_get (by first | omega | (simp; omega))))) ?_
            refine t_guard rfl rfl ?_
            refine tp rfl (lv_geq rfl rfl (decide_eq_false (by omega))) ?_
            refine tp rfl (lv_pick_f rfl rfl) ?_
            refine tp rfl (lv_move rfl) ?_
            refine t_guard rfl rfl ?_
            refine tp rfl (lv_move rfl) ?_
            refine t_guard rfl rfl ?_
            refine tp rfl (lv_indexArr (k' := x) Tryd.underlying38 Tryd.sizeOf4 rfl rfl (by omega) (by omega) (by omega)) ?_
            refine t_guard rfl rfl ?_
            refine tp rfl (lv_load Tryd.isAgg4 rfl (gives_as (by rw [mkS_atN (by omega)]) (gives_blk (.tail _ (.tail _ (.tail _ (.head _)))) (bools_get (by rw [mkS_len]; omega))))) ?_
            refine t_guard rfl rfl ?_
            refine tp rfl (lv_move rfl) ?_
            rcases hb25 : reachB (clampN n) (madeE (clampN n) (es.take 200)) a ((x : Nat) : Int) with _ | _
            · -- false
              refine t_skip rfl rfl rfl ?_
              refine t_skip rfl rfl rfl ?_
              refine t_skip rfl rfl rfl ?_
              refine t_skip rfl rfl rfl ?_
              refine t_skip rfl rfl rfl ?_
              refine t_skip rfl rfl rfl ?_
              refine t_skip rfl rfl rfl ?_
              refine t_guard rfl rfl ?_
              refine tp rfl (lv_pick_f rfl rfl) ?_
              refine tp rfl (lv_pick_f rfl rfl) ?_
              refine t_done ?_
              refine q_then_n (hK28 _ _ ?_)
              refine c_false rfl ?_
              refine c_skip ?_
              refine q_in_n ?_
              refine q_then_n (hK27 _ _ ?_)
              refine c_region ?_
              refine tp rfl (lv_move rfl) ?_
              refine tp rfl (lv_add (c := ((i + 1 : Nat) : Int)) rfl rfl (wr_i64_succ (by omega))) ?_
              refine tp rfl (lv_assign rfl) ?_
              refine t_done ?_
              refine q_then_n ?_
              exact t_weak (by exact ⟨rfl, rfl, rfl, rfl, rfl, rfl, rfl, rfl, rfl, rfl, rfl, rfl, rfl, rfl, rfl, trivial⟩) ((hK24 (i + 1) (by omega) (by omega)))
            · -- true
              refine t_guard rfl rfl ?_
              refine tp rfl (lv_move rfl) ?_
              refine t_guard rfl rfl ?_
              refine tp rfl (lv_move rfl) ?_
              refine t_guard rfl rfl ?_
              refine tp rfl (lv_indexAddr (k' := i) Tryd.underlying33 Tryd.sizeOf3 rfl rfl hok22 (by omega) (by omega) (by omega)) ?_
              refine t_guard rfl rfl ?_
              refine tp rfl (lv_load Tryd.isAgg3 rfl (gives_sl (.head _) (ints_get (by first | omega | (simp; omega))))) ?_
              refine t_guard rfl rfl ?_
              refine tp rfl (lv_indexArr (k' := ((outs (madeE (clampN n) (es.take 200)) ((x : Nat) : Int)).getD i 0).toNat) Tryd.underlying38 Tryd.sizeOf4 rfl rfl (by omega) (by omega) (by omega)) ?_
              refine t_guard rfl rfl ?_
              refine tp rfl (lv_load Tryd.isAgg4 rfl (gives_as (by rw [mkS_at (by omega) (by omega), onward_at hgk (by omega) hb25]) (gives_blk (.tail _ (.tail _ (.tail _ (.head _)))) (bools_get (by rw [mkS_len]; omega))))) ?_
              refine t_guard rfl rfl ?_
              refine tp rfl (lv_not (c := false) rfl rfl) ?_
              refine t_guard rfl rfl ?_
              refine tp rfl (lv_pick_t rfl rfl) ?_
              refine tp rfl (lv_pick_f rfl rfl) ?_
              refine t_done ?_
              refine q_then_n (hK28 _ _ ?_)
              refine c_false rfl ?_
              refine c_skip ?_
              refine q_in_n ?_
              refine q_then_n (hK27 _ _ ?_)
              refine c_region ?_
              refine tp rfl (lv_move rfl) ?_
              refine tp rfl (lv_add (c := ((i + 1 : Nat) : Int)) rfl rfl (wr_i64_succ (by omega))) ?_
              refine tp rfl (lv_assign rfl) ?_
              refine t_done ?_
              refine q_then_n ?_
              exact t_weak (by exact ⟨rfl, rfl, rfl, rfl, rfl, rfl, rfl, rfl, rfl, rfl, rfl, rfl, rfl, rfl, rfl, trivial⟩) ((hK24 (i + 1) (by omega) (by omega)))
          · -- no
            refine tp rfl (lv_lss rfl rfl (decide_eq_false h24)) ?_
            refine t_done ?_
            refine q_then_n (hK26 _ _ ?_)
            refine c_false rfl ?_
            refine c_exit ?_
            refine q_then_x ?_
            refine q_then_x ?_
            refine q_in_x ?_
            refine q_then_n (hK22 _ _ ?_)
            refine c_seq (fun K27 hK27 => ?_)
            refine c_region ?_
            refine tp rfl (lv_move rfl) ?_
            refine tp rfl (lv_move rfl) ?_
            refine t_f1 ?_
            refine tc rfl (en_fn Tryd.call20 rfl) (in_ok (N := clampN n) (es := madeE (clampN n) (es.take 200)) ((x : Nat) : Int)) ?_
            rintro _ _ ⟨bs26, cp27, hok28, hle29, rfl, rfl⟩
            refine tp rfl (lv_assign rfl) ?_
            refine t_done ?_
            refine q_then_n (hK27 _ _ ?_)
            refine c_seq (fun K28 hK28 => ?_)
            refine c_region ?_
            refine tp rfl (lv_move rfl) ?_
            refine tp rfl (lv_move rfl) ?_
            refine tp rfl (lv_eql rfl rfl rfl) ?_
            refine tp rfl (lv_assign rfl) ?_
            refine t_done ?_
            refine q_then_n (hK28 _ _ ?_)
            refine c_seq (fun K29 hK29 => ?_)
            refine c_seq (fun K30 hK30 => ?_)
            refine c_region ?_
            refine tp rfl (lv_assign rfl) ?_
            refine t_done ?_
            refine q_then_n (hK30 _ _ ?_)
            refine c_block ?_
            refine c_loop (γ := (Nat)) (fun (m : Nat) => m ≤ (inns (madeE (clampN n) (es.take 200)) ((x : Nat) : Int)).length) (fun (m : Nat) => [(0, (.int .i64 n)), (1, (.slice bl es.length cl)), (2, (.int .i64 a)), (7, (.bool true)), (8, (.pointer (some ⟨p1, 0, none⟩))), (9, (.pointer (some ⟨b12, 0, none⟩))), (10, (.slice bs13 ((reachL (clampN n) (madeE (clampN n) (es.take 200)) a).length) cp14)), (11, (.int .i64 ((k : Nat) : Int))), (12, (.int .i64 ((x : Nat) : Int))), (13, (.slice bs20 ((outs (madeE (clampN n) (es.take 200)) ((x : Nat) : Int)).length) cp21)), (14, (.int .i64 ((i : Nat) : Int))), (15, (.slice bs26 ((inns (madeE (clampN n) (es.take 200)) ((x : Nat) : Int)).length) cp27)), (16, (.bool (frB (clampN n) (madeE (clampN n) (es.take 200)) a (inns (madeE (clampN n) (es.take 200)) ((x : Nat) : Int)) ((x : Nat) : Int) m))), (17, (.int .i64 ((m : Nat) : Int))), (23, (.bool false)), (31, (.bool false)), (47, (.bool false)), (99, (.bool true)), (108, (.bool false))]) (fun (m : Nat) => (SlV 3 1 (.slice bs26 ((inns (madeE (clampN n) (es.take 200)) ((x : Nat) : Int)).length) cp27) ((inns (madeE (clampN n) (es.take 200)) ((x : Nat) : Int)).length) (ints .i64 (inns (madeE (clampN n) (es.take 200)) ((x : Nat) : Int)))) :: (GraphO p1 (clampN n) (madeE (clampN n) (es.take 200))) :: (SlV 3 1 (.slice bs20 ((outs (madeE (clampN n) (es.take 200)) ((x : Nat) : Int)).length) cp21) ((outs (madeE (clampN n) (es.take 200)) ((x : Nat) : Int)).length) (ints .i64 (outs (madeE (clampN n) (es.take 200)) ((x : Nat) : Int)))) :: (SlV 3 1 (.slice bs13 ((reachL (clampN n) (madeE (clampN n) (es.take 200)) a).length) cp14) ((reachL (clampN n) (madeE (clampN n) (es.take 200)) a).length) (ints .i64 (reachL (clampN n) (madeE (clampN n) (es.take 200)) a))) :: (Blk b12 (bools (mkS (reachL (clampN n) (madeE (clampN n) (es.take 200)) a))) 38) :: R) (fun (m : Nat) => (inns (madeE (clampN n) (es.take 200)) ((x : Nat) : Int)).length - m) (0) (by omega) ⟨rfl, rfl, rfl, rfl, rfl, rfl, rfl, rfl, rfl, rfl, rfl, rfl, rfl, rfl, rfl, rfl, rfl, rfl, rfl, trivial⟩ (fun _ h => h) ?_
            rintro m K31 hF hK31
            try dsimp only at hF hK31 ⊢
            have hil := inns_le (madeE (clampN n) (es.take 200)) ((x : Nat) : Int)
            refine c_seq (fun K32 hK32 => ?_)
            refine c_seq (fun K33 hK33 => ?_)
            refine c_region ?_
            refine tp rfl (lv_move rfl) ?_
            refine tp rfl (lv_move rfl) ?_
            refine tp rfl (lv_len Tryd.underlying33 rfl rfl) ?_
            by_cases h30 : ((m : Nat) : Int) < (((inns (madeE (clampN n) (es.take 200)) ((x : Nat) : Int)).length : Nat) : Int)
            · -- yes
              refine tp rfl (lv_lss rfl rfl (decide_eq_true h30)) ?_
              refine t_done ?_
              refine q_then_n (hK33 _ _ ?_)
              refine c_true rfl ?_
              refine c_skip ?_
              refine q_then_n (hK32 _ _ ?_)
              refine c_seq (fun K34 hK34 => ?_)
              refine c_block ?_
              refine c_seq (fun K35 hK35 => ?_)
              refine c_seq (fun K36 hK36 => ?_)
              refine c_region ?_
              have hib := inns_bd hgk (show m < (inns (madeE (clampN n) (es.take 200)) ((x : Nat) : Int)).length by omega)
              refine tp rfl (lv_move rfl) ?_
              refine tp rfl (lv_move rfl) ?_
              refine tp rfl (lv_indexAddr (k' := m) Tryd.underlying33 Tryd.sizeOf3 rfl rfl hok28 (by omega) (by omega) (by omega)) ?_
              refine tp rfl (lv_load Tryd.isAgg3 rfl (gives_sl (.head _) (ints_get (by first | omega | (simp; omega))))) ?_
              refine tp rfl (lv_lss rfl rfl (decide_eq_false (by omega))) ?_
              refine tp rfl (lv_move rfl) ?_
              refine t_guard rfl rfl ?_
              refine tp rfl (lv_move rfl) ?_
              refine t_guard rfl rfl ?_
              refine tp rfl (lv_move rfl) ?_
              refine t_guard rfl rfl ?_
              refine tp rfl (lv_indexAddr (k' := m) Tryd.underlying33 Tryd.sizeOf3 rfl rfl hok28 (by omega) (by omega) (by omega)) ?_
              refine t_guard rfl rfl ?_
              refine tp rfl (lv_load Tryd.isAgg3 rfl (gives_sl (.head _) (ints_get (by first | omega | (simp; omega))))) ?_
              refine t_guard rfl rfl ?_
              refine tp rfl (lv_geq rfl rfl (decide_eq_false (by omega))) ?_
              refine tp rfl (lv_pick_f rfl rfl) ?_
              refine t_done ?_
              refine q_then_n (hK36 _ _ ?_)
              refine c_false rfl ?_
              refine c_skip ?_
              refine q_then_n (hK35 _ _ ?_)
              refine c_region ?_
              refine tp rfl (lv_move rfl) ?_
              refine tp rfl (lv_move rfl) ?_
              rcases hb31 : frB (clampN n) (madeE (clampN n) (es.take 200)) a (inns (madeE (clampN n) (es.take 200)) ((x : Nat) : Int)) ((x : Nat) : Int) m with _ | _
              · -- false
                refine t_guard rfl rfl ?_
                refine tp rfl (lv_move rfl) ?_
                refine t_guard rfl rfl ?_
                refine tp rfl (lv_move rfl) ?_
                refine t_guard rfl rfl ?_
                refine tp rfl (lv_indexAddr (k' := m) Tryd.underlying33 Tryd.sizeOf3 rfl rfl hok28 (by omega) (by omega) (by omega)) ?_
                refine t_guard rfl rfl ?_
                refine tp rfl (lv_load Tryd.isAgg3 rfl (gives_sl (.head _) (ints_get (by first | omega | (simp; omega))))) ?_
                refine t_guard rfl rfl ?_
                refine tp rfl (lv_indexArr (k' := ((inns (madeE (clampN n) (es.take 200)) ((x : Nat) : Int)).getD m 0).toNat) Tryd.underlying38 Tryd.sizeOf4 rfl rfl (by omega) (by omega) (by omega)) ?_
                refine t_guard rfl rfl ?_
                refine tp rfl (lv_load Tryd.isAgg4 rfl (gives_as (by rw [mkS_at (by omega) (by omega)]) (gives_blk (.tail _ (.tail _ (.tail _ (.tail _ (.head _))))) (bools_get (by rw [mkS_len]; omega))))) ?_
                refine t_guard rfl rfl ?_
                refine tp rfl (lv_move rfl) ?_
                rcases hb32 : reachB (clampN n) (madeE (clampN n) (es.take 200)) a ((inns (madeE (clampN n) (es.take 200)) ((x : Nat) : Int)).getD m 0) with _ | _
                · -- false
                  refine t_skip rfl rfl rfl ?_
                  refine t_skip rfl rfl rfl ?_
                  refine t_skip rfl rfl rfl ?_
                  refine t_skip rfl rfl rfl ?_
                  refine t_skip rfl rfl rfl ?_
                  refine t_skip rfl rfl rfl ?_
                  refine t_guard rfl rfl ?_
                  refine tp rfl (lv_pick_f rfl rfl) ?_
                  refine tp rfl (lv_pick_f rfl rfl) ?_
                  refine tp rfl (lv_assign rfl) ?_
                  refine t_done ?_
                  refine q_in_n ?_
                  refine q_then_n (hK34 _ _ ?_)
                  refine c_region ?_
                  refine tp rfl (lv_move rfl) ?_
                  refine tp rfl (lv_add (c := ((m + 1 : Nat) : Int)) rfl rfl (wr_i64_succ (by omega))) ?_
                  refine tp rfl (lv_assign rfl) ?_
                  refine t_done ?_
                  refine q_then_n ?_
                  exact t_weak (by exact ⟨rfl, rfl, rfl, rfl, rfl, rfl, rfl, rfl, rfl, rfl, rfl, rfl, (by rw [frB_succ (by omega), hb31, hb32]; rfl), rfl, rfl, rfl, rfl, rfl, rfl, trivial⟩) ((hK31 (m + 1) (by omega) (by omega)))
                · -- true
                  refine t_guard rfl rfl ?_
                  refine tp rfl (lv_move rfl) ?_
                  refine t_guard rfl rfl ?_
                  refine tp rfl (lv_move rfl) ?_
                  refine t_guard rfl rfl ?_
                  refine tp rfl (lv_indexAddr (k' := m) Tryd.underlying33 Tryd.sizeOf3 rfl rfl hok28 (by omega) (by omega) (by omega)) ?_
                  refine t_guard rfl rfl ?_
                  refine tp rfl (lv_load Tryd.isAgg3 rfl (gives_sl (.head _) (ints_get (by first | omega | (simp; omega))))) ?_
                  refine t_guard rfl rfl ?_
                  refine tp rfl (lv_move rfl) ?_
                  refine t_guard rfl rfl ?_
                  refine tp rfl (lv_neq rfl rfl rfl) ?_
                  refine t_guard rfl rfl ?_
                  refine tp rfl (lv_pick_t rfl rfl) ?_
                  refine tp rfl (lv_pick_f rfl rfl) ?_
                  refine tp rfl (lv_assign rfl) ?_
                  refine t_done ?_
                  refine q_in_n ?_
                  refine q_then_n (hK34 _ _ ?_)
                  refine c_region ?_
                  refine tp rfl (lv_move rfl) ?_
                  refine tp rfl (lv_add (c := ((m + 1 : Nat) : Int)) rfl rfl (wr_i64_succ (by omega))) ?_
                  refine tp rfl (lv_assign rfl) ?_
                  refine t_done ?_
                  refine q_then_n ?_
                  exact t_weak (by exact ⟨rfl, rfl, rfl, rfl, rfl, rfl, rfl, rfl, rfl, rfl, rfl, rfl, (by rw [frB_succ (by omega), hb31, hb32]; rfl), rfl, rfl, rfl, rfl, rfl, rfl, trivial⟩) ((hK31 (m + 1) (by omega) (by omega)))
              · -- true
                refine t_skip rfl rfl rfl ?_
                refine t_skip rfl rfl rfl ?_
                refine t_skip rfl rfl rfl ?_
                refine t_skip rfl rfl rfl ?_
                refine t_skip rfl rfl rfl ?_
                refine t_skip rfl rfl rfl ?_
                refine t_skip rfl rfl rfl ?_
                refine t_skipu rfl rfl rfl ?_
                refine t_skipu rfl rfl rfl ?_
                refine t_skipu rfl rfl rfl ?_
                refine t_skipu rfl rfl rfl ?_
                refine t_skipu rfl rfl rfl ?_
                refine t_skipu rfl rfl rfl ?_
                refine t_skip rfl rfl rfl ?_
                refine tp rfl (lv_pick_t rfl rfl) ?_
                refine tp rfl (lv_assign rfl) ?_
                refine t_done ?_
                refine q_in_n ?_
                refine q_then_n (hK34 _ _ ?_)
                refine c_region ?_
                refine tp rfl (lv_move rfl) ?_
                refine tp rfl (lv_add (c := ((m + 1 : Nat) : Int)) rfl rfl (wr_i64_succ (by omega))) ?_
                refine tp rfl (lv_assign rfl) ?_
                refine t_done ?_
                refine q_then_n ?_
                exact t_weak (by exact ⟨rfl, rfl, rfl, rfl, rfl, rfl, rfl, rfl, rfl, rfl, rfl, rfl, (by rw [frB_succ (by omega), hb31]; rfl), rfl, rfl, rfl, rfl, rfl, rfl, trivial⟩) ((hK31 (m + 1) (by omega) (by omega)))
            · -- no
              refine tp rfl (lv_lss rfl rfl (decide_eq_false h30)) ?_
              refine t_done ?_
              refine q_then_n (hK33 _ _ ?_)
              refine c_false rfl ?_
              refine c_exit ?_
              refine q_then_x ?_
              refine q_then_x ?_
              refine q_in_x ?_
              refine q_then_n (hK29 _ _ ?_)
              refine c_seq (fun K34 hK34 => ?_)
              rcases Bool.eq_false_or_eq_true (reachB (clampN n) (madeE (clampN n) (es.take 200)) a ((x : Nat) : Int)) with q33 | q33
              ·
                rw [show frB (clampN n) (madeE (clampN n) (es.take 200)) a (inns (madeE (clampN n) (es.take 200)) ((x : Nat) : Int)) ((x : Nat) : Int) m = true from from_ok (by omega) hgk q33]
                refine c_draw (γ := Unit) (n := 17) Tryd.mixed rfl rfl (fun _ S => True) (fun _ => [(0, 178, (.int .i64 ((x : Nat) : Int))), (1, 179, (.pointer (some ⟨b12, x, none⟩))), (2, 180, (.bool true)), (3, 181, (.bool true)), (4, 182, (.bool true)), (5, 183, (.bool false)), (6, 184, (.bool false)), (7, 185, (.bool false)), (8, 186, (.pointer (some ⟨p1, 0, none⟩))), (9, 187, (.int .i64 a)), (10, 188, (.int .i64 ((x : Nat) : Int))), (11, 189, (.bool true)), (12, 190, (.int .i64 ((x : Nat) : Int))), (13, 191, (.pointer (some ⟨b12, x, none⟩))), (14, 192, (.bool true)), (15, 193, (.bool false)), (16, 194, (.bool false))]) (fun _ S => (SlV 3 1 (.slice bs26 ((inns (madeE (clampN n) (es.take 200)) ((x : Nat) : Int)).length) cp27) ((inns (madeE (clampN n) (es.take 200)) ((x : Nat) : Int)).length) (ints .i64 (inns (madeE (clampN n) (es.take 200)) ((x : Nat) : Int)))) :: (GraphO p1 (clampN n) (madeE (clampN n) (es.take 200))) :: (SlV 3 1 (.slice bs20 ((outs (madeE (clampN n) (es.take 200)) ((x : Nat) : Int)).length) cp21) ((outs (madeE (clampN n) (es.take 200)) ((x : Nat) : Int)).length) (ints .i64 (outs (madeE (clampN n) (es.take 200)) ((x : Nat) : Int)))) :: (SlV 3 1 (.slice bs13 ((reachL (clampN n) (madeE (clampN n) (es.take 200)) a).length) cp14) ((reachL (clampN n) (madeE (clampN n) (es.take 200)) a).length) (ints .i64 (reachL (clampN n) (madeE (clampN n) (es.take 200)) a))) :: (Blk b12 (bools (mkS (reachL (clampN n) (madeE (clampN n) (es.take 200)) a))) 38) :: R) (()) trivial (fun _ h => h) (fun _ _ h => h) ?_ ?_
                · refine ⟨?_, ?_, ?_, ?_, ?_, ?_, ?_, ?_, ?_, ?_, ?_, ?_, ?_, ?_, ?_, ?_, ?_, trivial⟩
                  · -- 0
                    rintro _ S hF hS D hp K hK
                    try dsimp only at hF ⊢
                    refine d_need (small := [(12, (.int .i64 ((x : Nat) : Int)))]) ⟨look_b rfl rfl, trivial⟩ ?_
                    refine tp rfl (lv_move rfl) ?_
                    exact d_closes ⟨look_b rfl rfl, trivial⟩ 0 rfl rfl rfl hS (AgreeR.refl _) (t_sat (fun _ h => h) (hK () trivial))
                  · -- 1
                    rintro _ S hF hS D hp K hK
                    try dsimp only at hF ⊢
                    refine d_need (small := [(9, (.pointer (some ⟨b12, 0, none⟩))), (178, (.int .i64 ((x : Nat) : Int)))]) ⟨look_b rfl rfl, look_row rfl 0 rfl (hp 0 rfl), trivial⟩ ?_
                    refine tp rfl (lv_indexArr (k' := x) Tryd.underlying38 Tryd.sizeOf4 rfl rfl (by omega) (by omega) (by omega)) ?_
                    exact d_closes ⟨look_b rfl rfl, look_row rfl 0 rfl (hp 0 rfl), trivial⟩ 1 rfl rfl rfl hS (AgreeR.refl _) (t_sat (fun _ h => h) (hK () trivial))
                  · -- 2
                    rintro _ S hF hS D hp K hK
                    try dsimp only at hF ⊢
                    refine d_need (small := [(179, (.pointer (some ⟨b12, x, none⟩)))]) ⟨look_row rfl 1 rfl (hp 1 rfl), trivial⟩ ?_
                    refine tp rfl (lv_load Tryd.isAgg4 rfl (gives_as (by rw [mkS_atN (by omega), q33]) (gives_blk (.tail _ (.tail _ (.tail _ (.tail _ (.head _))))) (bools_get (by rw [mkS_len]; omega))))) ?_
                    exact d_closes ⟨look_row rfl 1 rfl (hp 1 rfl), trivial⟩ 2 rfl rfl rfl hS (AgreeR.refl _) (t_sat (fun _ h => h) (hK () trivial))
                  · -- 3
                    rintro _ S hF hS D hp K hK
                    try dsimp only at hF ⊢
                    refine d_need (small := [(180, (.bool true))]) ⟨look_row rfl 2 rfl (hp 2 rfl), trivial⟩ ?_
                    refine tp rfl (lv_move rfl) ?_
                    exact d_closes ⟨look_row rfl 2 rfl (hp 2 rfl), trivial⟩ 3 rfl rfl rfl hS (AgreeR.refl _) (t_sat (fun _ h => h) (hK () trivial))
                  · -- 4
                    rintro _ S hF hS D hp K hK
                    try dsimp only at hF ⊢
                    refine d_need (small := [(16, (.bool true)), (181, (.bool true))]) ⟨look_b rfl rfl, look_row rfl 3 rfl (hp 3 rfl), trivial⟩ ?_
                    refine t_guard rfl rfl ?_
                    refine tp rfl (lv_move rfl) ?_
                    exact d_closes ⟨look_b rfl rfl, look_row rfl 3 rfl (hp 3 rfl), trivial⟩ 4 rfl rfl rfl hS (AgreeR.refl _) (t_sat (fun _ h => h) (hK () trivial))
                  · -- 5
                    rintro _ S hF hS D hp K hK
                    try dsimp only at hF ⊢
                    refine d_need (small := [(181, (.bool true)), (182, (.bool true))]) ⟨look_row rfl 3 rfl (hp 3 rfl), look_row rfl 4 rfl (hp 4 rfl), trivial⟩ ?_
                    refine t_guard rfl rfl ?_
                    refine tp rfl (lv_not (c := false) rfl rfl) ?_
                    exact d_closes ⟨look_row rfl 3 rfl (hp 3 rfl), look_row rfl 4 rfl (hp 4 rfl), trivial⟩ 5 rfl rfl rfl hS (AgreeR.refl _) (t_sat (fun _ h => h) (hK () trivial))
                  · -- 6
                    rintro _ S hF hS D hp K hK
                    try dsimp only at hF ⊢
                    refine d_need (small := [(181, (.bool true)), (183, (.bool false))]) ⟨look_row rfl 3 rfl (hp 3 rfl), look_row rfl 5 rfl (hp 5 rfl), trivial⟩ ?_
                    refine tp rfl (lv_pick_t rfl rfl) ?_
                    exact d_closes ⟨look_row rfl 3 rfl (hp 3 rfl), look_row rfl 5 rfl (hp 5 rfl), trivial⟩ 6 rfl rfl rfl hS (AgreeR.refl _) (t_sat (fun _ h => h) (hK () trivial))
                  · -- 7
                    rintro _ S hF hS D hp K hK
                    try dsimp only at hF ⊢
                    refine d_need (small := [(184, (.bool false))]) ⟨look_row rfl 6 rfl (hp 6 rfl), trivial⟩ ?_
                    refine tp rfl (lv_move rfl) ?_
                    exact d_closes ⟨look_row rfl 6 rfl (hp 6 rfl), trivial⟩ 7 rfl rfl rfl hS (AgreeR.refl _) (t_sat (fun _ h => h) (hK () trivial))
                  · -- 8
                    rintro _ S hF hS D hp K hK
                    try dsimp only at hF ⊢
                    refine d_need (small := [(8, (.pointer (some ⟨p1, 0, none⟩))), (185, (.bool false))]) ⟨look_b rfl rfl, look_row rfl 7 rfl (hp 7 rfl), trivial⟩ ?_
                    refine t_guard rfl rfl ?_
                    refine tp rfl (lv_move rfl) ?_
                    exact d_closes ⟨look_b rfl rfl, look_row rfl 7 rfl (hp 7 rfl), trivial⟩ 8 rfl rfl rfl hS (AgreeR.refl _) (t_sat (fun _ h => h) (hK () trivial))
                  · -- 9
                    rintro _ S hF hS D hp K hK
                    try dsimp only at hF ⊢
                    refine d_need (small := [(2, (.int .i64 a)), (185, (.bool false))]) ⟨look_b rfl rfl, look_row rfl 7 rfl (hp 7 rfl), trivial⟩ ?_
                    refine t_guard rfl rfl ?_
                    refine tp rfl (lv_move rfl) ?_
                    exact d_closes ⟨look_b rfl rfl, look_row rfl 7 rfl (hp 7 rfl), trivial⟩ 9 rfl rfl rfl hS (AgreeR.refl _) (t_sat (fun _ h => h) (hK () trivial))
                  · -- 10
                    rintro _ S hF hS D hp K hK
                    try dsimp only at hF ⊢
                    refine d_need (small := [(12, (.int .i64 ((x : Nat) : Int))), (185, (.bool false))]) ⟨look_b rfl rfl, look_row rfl 7 rfl (hp 7 rfl), trivial⟩ ?_
                    refine t_guard rfl rfl ?_
                    refine tp rfl (lv_move rfl) ?_
                    exact d_closes ⟨look_b rfl rfl, look_row rfl 7 rfl (hp 7 rfl), trivial⟩ 10 rfl rfl rfl hS (AgreeR.refl _) (t_sat (fun _ h => h) (hK () trivial))
                  · -- 11
                    rintro _ S hF hS D hp K hK
                    try dsimp only at hF ⊢
                    refine d_need (small := [(185, (.bool false)), (186, (.pointer (some ⟨p1, 0, none⟩))), (187, (.int .i64 a)), (188, (.int .i64 ((x : Nat) : Int)))]) ⟨look_row rfl 7 rfl (hp 7 rfl), look_row rfl 8 rfl (hp 8 rfl), look_row rfl 9 rfl (hp 9 rfl), look_row rfl 10 rfl (hp 10 rfl), trivial⟩ ?_
                    refine t_guard rfl rfl ?_
                    refine t_f1 ?_
                    refine tc rfl (en_fn Tryd.call13 rfl) (reaches_ok (N := clampN n) (es := madeE (clampN n) (es.take 200)) a ((x : Nat) : Int) (Tab.cons (Tab.cons (Tab.cons (Tab.cons hT))))) ?_
                    rintro _ _ ⟨rfl, rfl⟩
                    rw [show reachB (clampN n) (madeE (clampN n) (es.take 200)) a ((x : Nat) : Int) = true from q33]
                    refine t_f1 ?_
                    exact d_closes ⟨look_row rfl 7 rfl (hp 7 rfl), look_row rfl 8 rfl (hp 8 rfl), look_row rfl 9 rfl (hp 9 rfl), look_row rfl 10 rfl (hp 10 rfl), trivial⟩ 11 rfl rfl rfl hS (AgreeR.refl _) (t_sat (fun _ h => h) (hK () trivial))
                  · -- 12
                    rintro _ S hF hS D hp K hK
                    try dsimp only at hF ⊢
                    refine d_need (small := [(12, (.int .i64 ((x : Nat) : Int))), (185, (.bool false))]) ⟨look_b rfl rfl, look_row rfl 7 rfl (hp 7 rfl), trivial⟩ ?_
                    refine t_guard rfl rfl ?_
                    refine tp rfl (lv_move rfl) ?_
                    exact d_closes ⟨look_b rfl rfl, look_row rfl 7 rfl (hp 7 rfl), trivial⟩ 12 rfl rfl rfl hS (AgreeR.refl _) (t_sat (fun _ h => h) (hK () trivial))
                  · -- 13
                    rintro _ S hF hS D hp K hK
                    try dsimp only at hF ⊢
                    refine d_need (small := [(9, (.pointer (some ⟨b12, 0, none⟩))), (185, (.bool false)), (190, (.int .i64 ((x : Nat) : Int)))]) ⟨look_b rfl rfl, look_row rfl 7 rfl (hp 7 rfl), look_row rfl 12 rfl (hp 12 rfl), trivial⟩ ?_
                    refine t_guard rfl rfl ?_
                    refine tp rfl (lv_indexArr (k' := x) Tryd.underlying38 Tryd.sizeOf4 rfl rfl (by omega) (by omega) (by omega)) ?_
                    exact d_closes ⟨look_b rfl rfl, look_row rfl 7 rfl (hp 7 rfl), look_row rfl 12 rfl (hp 12 rfl), trivial⟩ 13 rfl rfl rfl hS (AgreeR.refl _) (t_sat (fun _ h => h) (hK () trivial))
                  · -- 14
                    rintro _ S hF hS D hp K hK
                    try dsimp only at hF ⊢
                    refine d_need (small := [(185, (.bool false)), (191, (.pointer (some ⟨b12, x, none⟩)))]) ⟨look_row rfl 7 rfl (hp 7 rfl), look_row rfl 13 rfl (hp 13 rfl), trivial⟩ ?_
                    refine t_guard rfl rfl ?_
                    refine tp rfl (lv_load Tryd.isAgg4 rfl (gives_as (by rw [mkS_atN (by omega), q33]) (gives_blk (.tail _ (.tail _ (.tail _ (.tail _ (.head _))))) (bools_get (by rw [mkS_len]; omega))))) ?_
                    exact d_closes ⟨look_row rfl 7 rfl (hp 7 rfl), look_row rfl 13 rfl (hp 13 rfl), trivial⟩ 14 rfl rfl rfl hS (AgreeR.refl _) (t_sat (fun _ h => h) (hK () trivial))
                  · -- 15
                    rintro _ S hF hS D hp K hK
                    try dsimp only at hF ⊢
                    refine d_need (small := [(185, (.bool false)), (189, (.bool true)), (192, (.bool true))]) ⟨look_row rfl 7 rfl (hp 7 rfl), look_row rfl 11 rfl (hp 11 rfl), look_row rfl 14 rfl (hp 14 rfl), trivial⟩ ?_
                    refine t_guard rfl rfl ?_
                    refine tp rfl (lv_neb Tryd.underlying4 rfl rfl rfl) ?_
                    exact d_closes ⟨look_row rfl 7 rfl (hp 7 rfl), look_row rfl 11 rfl (hp 11 rfl), look_row rfl 14 rfl (hp 14 rfl), trivial⟩ 15 rfl rfl rfl hS (AgreeR.refl _) (t_sat (fun _ h => h) (hK () trivial))
                  · -- 16
                    rintro _ S hF hS D hp K hK
                    try dsimp only at hF ⊢
                    refine d_need (small := [(185, (.bool false)), (193, (.bool false))]) ⟨look_row rfl 7 rfl (hp 7 rfl), look_row rfl 15 rfl (hp 15 rfl), trivial⟩ ?_
                    refine tp rfl (lv_pick_f rfl rfl) ?_
                    exact d_closes ⟨look_row rfl 7 rfl (hp 7 rfl), look_row rfl 15 rfl (hp 15 rfl), trivial⟩ 16 rfl rfl rfl hS (AgreeR.refl _) (t_sat (fun _ h => h) (hK () trivial))
                · rintro _ hF
                  try dsimp only at hF ⊢
                  refine t_weak (E' := [(0, (.int .i64 n)), (1, (.slice bl es.length cl)), (2, (.int .i64 a)), (7, (.bool true)), (8, (.pointer (some ⟨p1, 0, none⟩))), (9, (.pointer (some ⟨b12, 0, none⟩))), (10, (.slice bs13 ((reachL (clampN n) (madeE (clampN n) (es.take 200)) a).length) cp14)), (11, (.int .i64 ((k : Nat) : Int))), (12, (.int .i64 ((x : Nat) : Int))), (13, (.slice bs20 ((outs (madeE (clampN n) (es.take 200)) ((x : Nat) : Int)).length) cp21)), (14, (.int .i64 ((i : Nat) : Int))), (15, (.slice bs26 ((inns (madeE (clampN n) (es.take 200)) ((x : Nat) : Int)).length) cp27)), (16, (.bool true)), (17, (.int .i64 ((m : Nat) : Int))), (23, (.bool false)), (31, (.bool false)), (47, (.bool false)), (99, (.bool true)), (108, (.bool false)), (146, (.bool false)), (194, (.bool false))]) ⟨rfl, rfl, rfl, rfl, rfl, rfl, rfl, rfl, rfl, rfl, rfl, rfl, rfl, rfl, rfl, rfl, rfl, rfl, rfl, rfl, rfl, trivial⟩ ?_
                  refine q_then_n (hK34 _ _ ?_)
                  refine c_false rfl ?_
                  refine c_skip ?_
                  refine q_in_n ?_
                  refine q_then_n (hK20 _ _ ?_)
                  refine c_region ?_
                  refine tp rfl (lv_move rfl) ?_
                  refine tp rfl (lv_add (c := ((x + 1 : Nat) : Int)) rfl rfl (wr_i64_succ (by omega))) ?_
                  refine tp rfl (lv_assign rfl) ?_
                  refine t_done ?_
                  refine q_then_n ?_
                  refine t_drop ?_
                  refine t_f1 ?_
                  refine t_drop ?_
                  refine t_f1 ?_
                  exact t_weak (by exact ⟨rfl, rfl, rfl, rfl, rfl, rfl, rfl, rfl, rfl, rfl, rfl, rfl, trivial⟩) ((hK17 (x + 1) (by omega) (by omega)))
              ·
                refine c_draw (γ := Unit) (n := 17) Tryd.mixed rfl rfl (fun _ S => True) (fun _ => [(0, 178, (.int .i64 ((x : Nat) : Int))), (1, 179, (.pointer (some ⟨b12, x, none⟩))), (2, 180, (.bool false)), (3, 181, (.bool false)), (4, 182, undef), (5, 183, undef), (6, 184, (.bool false)), (7, 185, (.bool false)), (8, 186, (.pointer (some ⟨p1, 0, none⟩))), (9, 187, (.int .i64 a)), (10, 188, (.int .i64 ((x : Nat) : Int))), (11, 189, (.bool false)), (12, 190, (.int .i64 ((x : Nat) : Int))), (13, 191, (.pointer (some ⟨b12, x, none⟩))), (14, 192, (.bool false)), (15, 193, (.bool false)), (16, 194, (.bool false))]) (fun _ S => (SlV 3 1 (.slice bs26 ((inns (madeE (clampN n) (es.take 200)) ((x : Nat) : Int)).length) cp27) ((inns (madeE (clampN n) (es.take 200)) ((x : Nat) : Int)).length) (ints .i64 (inns (madeE (clampN n) (es.take 200)) ((x : Nat) : Int)))) :: (GraphO p1 (clampN n) (madeE (clampN n) (es.take 200))) :: (SlV 3 1 (.slice bs20 ((outs (madeE (clampN n) (es.take 200)) ((x : Nat) : Int)).length) cp21) ((outs (madeE (clampN n) (es.take 200)) ((x : Nat) : Int)).length) (ints .i64 (outs (madeE (clampN n) (es.take 200)) ((x : Nat) : Int)))) :: (SlV 3 1 (.slice bs13 ((reachL (clampN n) (madeE (clampN n) (es.take 200)) a).length) cp14) ((reachL (clampN n) (madeE (clampN n) (es.take 200)) a).length) (ints .i64 (reachL (clampN n) (madeE (clampN n) (es.take 200)) a))) :: (Blk b12 (bools (mkS (reachL (clampN n) (madeE (clampN n) (es.take 200)) a))) 38) :: R) (()) trivial (fun _ h => h) (fun _ _ h => h) ?_ ?_
                · refine ⟨?_, ?_, ?_, ?_, ?_, ?_, ?_, ?_, ?_, ?_, ?_, ?_, ?_, ?_, ?_, ?_, ?_, trivial⟩
                  · -- 0
                    rintro _ S hF hS D hp K hK
                    try dsimp only at hF ⊢
                    refine d_need (small := [(12, (.int .i64 ((x : Nat) : Int)))]) ⟨look_b rfl rfl, trivial⟩ ?_
                    refine tp rfl (lv_move rfl) ?_
                    exact d_closes ⟨look_b rfl rfl, trivial⟩ 0 rfl rfl rfl hS (AgreeR.refl _) (t_sat (fun _ h => h) (hK () trivial))
                  · -- 1
                    rintro _ S hF hS D hp K hK
                    try dsimp only at hF ⊢
                    refine d_need (small := [(9, (.pointer (some ⟨b12, 0, none⟩))), (178, (.int .i64 ((x : Nat) : Int)))]) ⟨look_b rfl rfl, look_row rfl 0 rfl (hp 0 rfl), trivial⟩ ?_
                    refine tp rfl (lv_indexArr (k' := x) Tryd.underlying38 Tryd.sizeOf4 rfl rfl (by omega) (by omega) (by omega)) ?_
                    exact d_closes ⟨look_b rfl rfl, look_row rfl 0 rfl (hp 0 rfl), trivial⟩ 1 rfl rfl rfl hS (AgreeR.refl _) (t_sat (fun _ h => h) (hK () trivial))
                  · -- 2
                    rintro _ S hF hS D hp K hK
                    try dsimp only at hF ⊢
                    refine d_need (small := [(179, (.pointer (some ⟨b12, x, none⟩)))]) ⟨look_row rfl 1 rfl (hp 1 rfl), trivial⟩ ?_
                    refine tp rfl (lv_load Tryd.isAgg4 rfl (gives_as (by rw [mkS_atN (by omega), q33]) (gives_blk (.tail _ (.tail _ (.tail _ (.tail _ (.head _))))) (bools_get (by rw [mkS_len]; omega))))) ?_
                    exact d_closes ⟨look_row rfl 1 rfl (hp 1 rfl), trivial⟩ 2 rfl rfl rfl hS (AgreeR.refl _) (t_sat (fun _ h => h) (hK () trivial))
                  · -- 3
                    rintro _ S hF hS D hp K hK
                    try dsimp only at hF ⊢
                    refine d_need (small := [(180, (.bool false))]) ⟨look_row rfl 2 rfl (hp 2 rfl), trivial⟩ ?_
                    refine tp rfl (lv_move rfl) ?_
                    exact d_closes ⟨look_row rfl 2 rfl (hp 2 rfl), trivial⟩ 3 rfl rfl rfl hS (AgreeR.refl _) (t_sat (fun _ h => h) (hK () trivial))
                  · -- 4
                    rintro _ S hF hS D hp K hK
                    try dsimp only at hF ⊢
                    refine d_need (small := [(16, (.bool (frB (clampN n) (madeE (clampN n) (es.take 200)) a (inns (madeE (clampN n) (es.take 200)) ((x : Nat) : Int)) ((x : Nat) : Int) m))), (181, (.bool false))]) ⟨look_b rfl rfl, look_row rfl 3 rfl (hp 3 rfl), trivial⟩ ?_
                    refine t_skip rfl rfl rfl ?_
                    exact d_closes ⟨look_b rfl rfl, look_row rfl 3 rfl (hp 3 rfl), trivial⟩ 4 rfl rfl rfl hS (AgreeR.refl _) (t_sat (fun _ h => h) (hK () trivial))
                  · -- 5
                    rintro _ S hF hS D hp K hK
                    try dsimp only at hF ⊢
                    refine d_need (small := [(181, (.bool false)), (182, undef)]) ⟨look_row rfl 3 rfl (hp 3 rfl), look_row rfl 4 rfl (hp 4 rfl), trivial⟩ ?_
                    refine t_skip rfl rfl rfl ?_
                    exact d_closes ⟨look_row rfl 3 rfl (hp 3 rfl), look_row rfl 4 rfl (hp 4 rfl), trivial⟩ 5 rfl rfl rfl hS (AgreeR.refl _) (t_sat (fun _ h => h) (hK () trivial))
                  · -- 6
                    rintro _ S hF hS D hp K hK
                    try dsimp only at hF ⊢
                    refine d_need (small := [(181, (.bool false)), (183, undef)]) ⟨look_row rfl 3 rfl (hp 3 rfl), look_row rfl 5 rfl (hp 5 rfl), trivial⟩ ?_
                    refine tp rfl (lv_pick_f rfl rfl) ?_
                    exact d_closes ⟨look_row rfl 3 rfl (hp 3 rfl), look_row rfl 5 rfl (hp 5 rfl), trivial⟩ 6 rfl rfl rfl hS (AgreeR.refl _) (t_sat (fun _ h => h) (hK () trivial))
                  · -- 7
                    rintro _ S hF hS D hp K hK
                    try dsimp only at hF ⊢
                    refine d_need (small := [(184, (.bool false))]) ⟨look_row rfl 6 rfl (hp 6 rfl), trivial⟩ ?_
                    refine tp rfl (lv_move rfl) ?_
                    exact d_closes ⟨look_row rfl 6 rfl (hp 6 rfl), trivial⟩ 7 rfl rfl rfl hS (AgreeR.refl _) (t_sat (fun _ h => h) (hK () trivial))
                  · -- 8
                    rintro _ S hF hS D hp K hK
                    try dsimp only at hF ⊢
                    refine d_need (small := [(8, (.pointer (some ⟨p1, 0, none⟩))), (185, (.bool false))]) ⟨look_b rfl rfl, look_row rfl 7 rfl (hp 7 rfl), trivial⟩ ?_
                    refine t_guard rfl rfl ?_
                    refine tp rfl (lv_move rfl) ?_
                    exact d_closes ⟨look_b rfl rfl, look_row rfl 7 rfl (hp 7 rfl), trivial⟩ 8 rfl rfl rfl hS (AgreeR.refl _) (t_sat (fun _ h => h) (hK () trivial))
                  · -- 9
                    rintro _ S hF hS D hp K hK
                    try dsimp only at hF ⊢
                    refine d_need (small := [(2, (.int .i64 a)), (185, (.bool false))]) ⟨look_b rfl rfl, look_row rfl 7 rfl (hp 7 rfl), trivial⟩ ?_
                    refine t_guard rfl rfl ?_
                    refine tp rfl (lv_move rfl) ?_
                    exact d_closes ⟨look_b rfl rfl, look_row rfl 7 rfl (hp 7 rfl), trivial⟩ 9 rfl rfl rfl hS (AgreeR.refl _) (t_sat (fun _ h => h) (hK () trivial))
                  · -- 10
                    rintro _ S hF hS D hp K hK
                    try dsimp only at hF ⊢
                    refine d_need (small := [(12, (.int .i64 ((x : Nat) : Int))), (185, (.bool false))]) ⟨look_b rfl rfl, look_row rfl 7 rfl (hp 7 rfl), trivial⟩ ?_
                    refine t_guard rfl rfl ?_
                    refine tp rfl (lv_move rfl) ?_
                    exact d_closes ⟨look_b rfl rfl, look_row rfl 7 rfl (hp 7 rfl), trivial⟩ 10 rfl rfl rfl hS (AgreeR.refl _) (t_sat (fun _ h => h) (hK () trivial))
                  · -- 11
                    rintro _ S hF hS D hp K hK
                    try dsimp only at hF ⊢
                    refine d_need (small := [(185, (.bool false)), (186, (.pointer (some ⟨p1, 0, none⟩))), (187, (.int .i64 a)), (188, (.int .i64 ((x : Nat) : Int)))]) ⟨look_row rfl 7 rfl (hp 7 rfl), look_row rfl 8 rfl (hp 8 rfl), look_row rfl 9 rfl (hp 9 rfl), look_row rfl 10 rfl (hp 10 rfl), trivial⟩ ?_
                    refine t_guard rfl rfl ?_
                    refine t_f1 ?_
                    refine tc rfl (en_fn Tryd.call13 rfl) (reaches_ok (N := clampN n) (es := madeE (clampN n) (es.take 200)) a ((x : Nat) : Int) (Tab.cons (Tab.cons (Tab.cons (Tab.cons hT))))) ?_
                    rintro _ _ ⟨rfl, rfl⟩
                    rw [show reachB (clampN n) (madeE (clampN n) (es.take 200)) a ((x : Nat) : Int) = false from q33]
                    refine t_f1 ?_
                    exact d_closes ⟨look_row rfl 7 rfl (hp 7 rfl), look_row rfl 8 rfl (hp 8 rfl), look_row rfl 9 rfl (hp 9 rfl), look_row rfl 10 rfl (hp 10 rfl), trivial⟩ 11 rfl rfl rfl hS (AgreeR.refl _) (t_sat (fun _ h => h) (hK () trivial))
                  · -- 12
                    rintro _ S hF hS D hp K hK
                    try dsimp only at hF ⊢
                    refine d_need (small := [(12, (.int .i64 ((x : Nat) : Int))), (185, (.bool false))]) ⟨look_b rfl rfl, look_row rfl 7 rfl (hp 7 rfl), trivial⟩ ?_
                    refine t_guard rfl rfl ?_
                    refine tp rfl (lv_move rfl) ?_
                    exact d_closes ⟨look_b rfl rfl, look_row rfl 7 rfl (hp 7 rfl), trivial⟩ 12 rfl rfl rfl hS (AgreeR.refl _) (t_sat (fun _ h => h) (hK () trivial))
                  · -- 13
                    rintro _ S hF hS D hp K hK
                    try dsimp only at hF ⊢
                    refine d_need (small := [(9, (.pointer (some ⟨b12, 0, none⟩))), (185, (.bool false)), (190, (.int .i64 ((x : Nat) : Int)))]) ⟨look_b rfl rfl, look_row rfl 7 rfl (hp 7 rfl), look_row rfl 12 rfl (hp 12 rfl), trivial⟩ ?_
                    refine t_guard rfl rfl ?_
                    refine tp rfl (lv_indexArr (k' := x) Tryd.underlying38 Tryd.sizeOf4 rfl rfl (by omega) (by omega) (by omega)) ?_
                    exact d_closes ⟨look_b rfl rfl, look_row rfl 7 rfl (hp 7 rfl), look_row rfl 12 rfl (hp 12 rfl), trivial⟩ 13 rfl rfl rfl hS (AgreeR.refl _) (t_sat (fun _ h => h) (hK () trivial))
                  · -- 14
                    rintro _ S hF hS D hp K hK
                    try dsimp only at hF ⊢
                    refine d_need (small := [(185, (.bool false)), (191, (.pointer (some ⟨b12, x, none⟩)))]) ⟨look_row rfl 7 rfl (hp 7 rfl), look_row rfl 13 rfl (hp 13 rfl), trivial⟩ ?_
                    refine t_guard rfl rfl ?_
                    refine tp rfl (lv_load Tryd.isAgg4 rfl (gives_as (by rw [mkS_atN (by omega), q33]) (gives_blk (.tail _ (.tail _ (.tail _ (.tail _ (.head _))))) (bools_get (by rw [mkS_len]; omega))))) ?_
                    exact d_closes ⟨look_row rfl 7 rfl (hp 7 rfl), look_row rfl 13 rfl (hp 13 rfl), trivial⟩ 14 rfl rfl rfl hS (AgreeR.refl _) (t_sat (fun _ h => h) (hK () trivial))
                  · -- 15
                    rintro _ S hF hS D hp K hK
                    try dsimp only at hF ⊢
                    refine d_need (small := [(185, (.bool false)), (189, (.bool false)), (192, (.bool false))]) ⟨look_row rfl 7 rfl (hp 7 rfl), look_row rfl 11 rfl (hp 11 rfl), look_row rfl 14 rfl (hp 14 rfl), trivial⟩ ?_
                    refine t_guard rfl rfl ?_
                    refine tp rfl (lv_neb Tryd.underlying4 rfl rfl rfl) ?_
                    exact d_closes ⟨look_row rfl 7 rfl (hp 7 rfl), look_row rfl 11 rfl (hp 11 rfl), look_row rfl 14 rfl (hp 14 rfl), trivial⟩ 15 rfl rfl rfl hS (AgreeR.refl _) (t_sat (fun _ h => h) (hK () trivial))
                  · -- 16
                    rintro _ S hF hS D hp K hK
                    try dsimp only at hF ⊢
                    refine d_need (small := [(185, (.bool false)), (193, (.bool false))]) ⟨look_row rfl 7 rfl (hp 7 rfl), look_row rfl 15 rfl (hp 15 rfl), trivial⟩ ?_
                    refine tp rfl (lv_pick_f rfl rfl) ?_
                    exact d_closes ⟨look_row rfl 7 rfl (hp 7 rfl), look_row rfl 15 rfl (hp 15 rfl), trivial⟩ 16 rfl rfl rfl hS (AgreeR.refl _) (t_sat (fun _ h => h) (hK () trivial))
                · rintro _ hF
                  try dsimp only at hF ⊢
                  refine t_weak (E' := [(0, (.int .i64 n)), (1, (.slice bl es.length cl)), (2, (.int .i64 a)), (7, (.bool true)), (8, (.pointer (some ⟨p1, 0, none⟩))), (9, (.pointer (some ⟨b12, 0, none⟩))), (10, (.slice bs13 ((reachL (clampN n) (madeE (clampN n) (es.take 200)) a).length) cp14)), (11, (.int .i64 ((k : Nat) : Int))), (12, (.int .i64 ((x : Nat) : Int))), (13, (.slice bs20 ((outs (madeE (clampN n) (es.take 200)) ((x : Nat) : Int)).length) cp21)), (14, (.int .i64 ((i : Nat) : Int))), (15, (.slice bs26 ((inns (madeE (clampN n) (es.take 200)) ((x : Nat) : Int)).length) cp27)), (16, (.bool (frB (clampN n) (madeE (clampN n) (es.take 200)) a (inns (madeE (clampN n) (es.take 200)) ((x : Nat) : Int)) ((x : Nat) : Int) m))), (17, (.int .i64 ((m : Nat) : Int))), (23, (.bool false)), (31, (.bool false)), (47, (.bool false)), (99, (.bool true)), (108, (.bool false)), (146, (.bool false)), (194, (.bool false))]) ⟨rfl, rfl, rfl, rfl, rfl, rfl, rfl, rfl, rfl, rfl, rfl, rfl, rfl, rfl, rfl, rfl, rfl, rfl, rfl, rfl, rfl, trivial⟩ ?_
                  refine q_then_n (hK34 _ _ ?_)
                  refine c_false rfl ?_
                  refine c_skip ?_
                  refine q_in_n ?_
                  refine q_then_n (hK20 _ _ ?_)
                  refine c_region ?_
                  refine tp rfl (lv_move rfl) ?_
                  refine tp rfl (lv_add (c := ((x + 1 : Nat) : Int)) rfl rfl (wr_i64_succ (by omega))) ?_
                  refine tp rfl (lv_assign rfl) ?_
                  refine t_done ?_
                  refine q_then_n ?_
                  refine t_drop ?_
                  refine t_f1 ?_
                  refine t_drop ?_
                  refine t_f1 ?_
                  exact t_weak (by exact ⟨rfl, rfl, rfl, rfl, rfl, rfl, rfl, rfl, rfl, rfl, rfl, rfl, trivial⟩) ((hK17 (x + 1) (by omega) (by omega)))
        · -- not both
          refine t_cut0 (E' := [(0, (.int .i64 n)), (1, (.slice bl es.length cl)), (2, (.int .i64 a)), (7, (.bool true)), (8, (.pointer (some ⟨p1, 0, none⟩))), (9, (.pointer (some ⟨b12, 0, none⟩))), (10, (.slice bs13 ((reachL (clampN n) (madeE (clampN n) (es.take 200)) a).length) cp14)), (11, (.int .i64 ((k : Nat) : Int))), (12, (.int .i64 ((x : Nat) : Int))), (23, (.bool false)), (31, (.bool false)), (47, (.bool false)), (99, (.bool false))]) ?_ (fun KK hKK => ?_)
          ·
            refine q_then_n (hK19 _ _ ?_)
            refine c_false rfl ?_
            refine c_exit ?_
            refine q_then_x ?_
            refine q_then_x ?_
            refine q_in_x ?_
            refine q_then_n (hK15 _ _ ?_)
            refine c_seq (fun K20 hK20 => ?_)
            refine c_region ?_
            refine tp rfl (lv_move rfl) ?_
            refine tp rfl (lv_move rfl) ?_
            refine t_guard rfl rfl ?_
            refine tp rfl (lv_move rfl) ?_
            refine t_guard rfl rfl ?_
            refine tp rfl (lv_indexArr (k' := a.toNat) Tryd.underlying38 Tryd.sizeOf4 rfl rfl (by omega) (by omega) (by omega)) ?_
            refine t_guard rfl rfl ?_
            refine tp rfl (lv_load Tryd.isAgg4 rfl (gives_as (by rw [mkS_at (by omega) (by omega), reach_self (by omega)]) (gives_blk (.tail _ (.tail _ (.head _))) (bools_get (by rw [mkS_len]; omega))))) ?_
            refine tp rfl (lv_pick_t rfl rfl) ?_
            refine tp rfl (lv_assign rfl) ?_
            refine t_done ?_
            refine q_then_n (hK20 _ _ ?_)
            refine c_ret ?_
            refine t_drop ?_
            refine t_drop ?_
            refine t_drop ?_
            refine q_ret rfl rfl ?_
            exact ⟨rfl, rfl⟩
          · by_cases hc19A : ((x : Nat) : Int) < ((clampN n : Nat) : Int)
            ·
              have hc19B : ¬ (((x : Nat) : Int) < 64) := fun hh => hc19 ⟨hc19A, hh⟩
              refine tp rfl (lv_move rfl) ?_
              refine tp rfl (lv_move rfl) ?_
              refine t_f1 ?_
              refine tc rfl (en_fn Tryd.call18 rfl) (n_ok) ?_
              rintro _ _ ⟨rfl, rfl⟩
              refine tp rfl (lv_lss rfl rfl (decide_eq_true hc19A)) ?_
              refine tp rfl (lv_move rfl) ?_
              refine t_guard rfl rfl ?_
              refine tp rfl (lv_move rfl) ?_
              refine t_guard rfl rfl ?_
              refine tp rfl (lv_lss rfl rfl (decide_eq_false hc19B)) ?_
              refine tp rfl (lv_pick_t rfl rfl) ?_
              refine t_f1 ?_
              exact t_done (t_weak (by exact ⟨rfl, rfl, rfl, rfl, rfl, rfl, rfl, rfl, rfl, rfl, rfl, rfl, rfl, trivial⟩) hKK)
            ·
              refine tp rfl (lv_move rfl) ?_
              refine tp rfl (lv_move rfl) ?_
              refine t_f1 ?_
              refine tc rfl (en_fn Tryd.call18 rfl) (n_ok) ?_
              rintro _ _ ⟨rfl, rfl⟩
              refine tp rfl (lv_lss rfl rfl (decide_eq_false hc19A)) ?_
              refine tp rfl (lv_move rfl) ?_
              refine t_skip rfl rfl rfl ?_
              refine t_skip rfl rfl rfl ?_
              refine tp rfl (lv_pick_f rfl rfl) ?_
              refine t_f1 ?_
              exact t_done (t_weak (by exact ⟨rfl, rfl, rfl, rfl, rfl, rfl, rfl, rfl, rfl, rfl, rfl, rfl, rfl, trivial⟩) hKK)
end Go.Proofs.YtadhgpkpcmpmgaaDoor
