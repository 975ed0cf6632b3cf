/- GraphTells: the law's walk. -/
import Derived.Test.YtadhgpkpcmpmgaaDoorLh
set_option maxRecDepth 100000
set_option linter.unusedVariables false
set_option linter.unusedSimpArgs false
namespace Go.Proofs.YtadhgpkpcmpmgaaDoor
open Go Go.Proofs Sp
set_option maxHeartbeats 20000000 in
theorem tells_ok {R : List HP} {bl : Option Addr} {cl : Nat} (n : Int) (es : List (Int × Int)) (hl : Rd R bl (pairs es)) (okl : SlOk bl es.length) (ll : es.length ≤ 9223372036854775807) (hT : Tab R) (a b : Int) :
    Ok Tryd.prog 8 [(.int .i64 n), (.slice bl es.length cl), (.int .i64 a), (.int .i64 b)] R
      (fun v M => v = .bool true ∧ M = R) := by
  refine ok_of (N := 153) Tryd.func8 rfl rfl rfl (fun W => ?_)
  refine c_seq (fun K1 hK1 => ?_)
  refine c_region ?_
  refine tp rfl (lv_assign rfl) ?_
  refine t_done ?_
  refine q_then_n (hK1 _ _ ?_)
  refine c_seq (fun K2 hK2 => ?_)
  refine c_region ?_
  refine tc rfl (en_fn Tryd.call10 rfl) (shown_ok hT) ?_
  rintro _ _ ⟨rfl, hMR⟩
  rw [hMR]; clear hMR
  refine tp rfl (lv_assign rfl) ?_
  refine t_done ?_
  refine q_then_n (hK2 _ _ ?_)
  refine c_seq (fun K3 hK3 => ?_)
  refine c_region ?_
  refine tp rfl (lv_move rfl) ?_
  refine tc rfl (en_fn Tryd.call11 rfl) (new_ok n) ?_
  rintro _ _ ⟨p1, rfl, rfl⟩
  refine tp rfl (lv_assign rfl) ?_
  refine t_done ?_
  refine q_then_n (hK3 _ _ ?_)
  refine c_seq (fun K4 hK4 => ?_)
  refine c_region ?_
  refine tp rfl (lv_move rfl) ?_
  refine tc rfl (en_fn Tryd.call22 rfl) (rnew_ok n) ?_
  rintro _ _ ⟨p2, rfl, rfl⟩
  refine tp rfl (lv_assign rfl) ?_
  refine t_done ?_
  refine q_then_n (hK4 _ _ ?_)
  refine c_seq (fun K5 hK5 => ?_)
  refine c_seq (fun K6 hK6 => ?_)
  refine c_region ?_
  refine tp rfl (lv_move rfl) ?_
  refine tp rfl (lv_eqnil Tryd.underlying24 rfl rfl) ?_
  refine t_done ?_
  refine q_then_n (hK6 _ _ ?_)
  refine c_false rfl ?_
  refine c_skip ?_
  refine q_then_n (hK5 _ _ ?_)
  refine c_seq (fun K7 hK7 => ?_)
  refine c_seq (fun K8 hK8 => ?_)
  refine c_region ?_
  refine tp rfl (lv_assign rfl) ?_
  refine t_done ?_
  refine q_then_n (hK8 _ _ ?_)
  refine c_block ?_
  refine c_loop (γ := (Nat)) (fun (k : Nat) => k ≤ es.length ∧ k ≤ 200) (fun (k : Nat) => [(0, (.int .i64 n)), (1, (.slice bl es.length cl)), (2, (.int .i64 a)), (3, (.int .i64 b)), (9, (.bool true)), (10, (.pointer (some ⟨p1, 0, none⟩))), (11, (.pointer (some ⟨p2, 0, none⟩))), (12, (.int .i64 ((k : Nat) : Int))), (23, (.bool false))]) (fun (k : Nat) => (RefO p2 (clampN n) (madeE (clampN n) (es.take k))) :: (GraphO p1 (clampN n) (madeE (clampN n) (es.take k))) :: R) (fun (k : Nat) => es.length - k) (0) ⟨by omega, by omega⟩ ⟨rfl, rfl, rfl, rfl, rfl, rfl, rfl, rfl, rfl, trivial⟩ (fun _ h => h) ?_
  rintro k K9 hF hK9
  try dsimp only at hF hK9 ⊢
  obtain ⟨hk, hk2⟩ := hF
  have hE : (madeE (clampN n) (es.take k)).length ≤ 1000 := by have := madeE_len (clampN n) (es.take k); have h2 : (es.take k).length ≤ k := (by rw [List.length_take]; omega); omega
  have hg : GOk (clampN n) (madeE (clampN n) (es.take k)) := GOk.made (clampN_le n) _
  refine c_seq (fun K10 hK10 => ?_)
  refine c_seq (fun K11 hK11 => ?_)
  refine c_region ?_
  by_cases hc3 : ((k : Nat) : Int) < ((es.length : Nat) : Int) ∧ ((k : Nat) : Int) < 200
  · -- both
    have hc3a := hc3.1
    have hc3b := hc3.2
    refine tp rfl (lv_move rfl) ?_
    refine tp rfl (lv_move rfl) ?_
    refine tp rfl (lv_len Tryd.underlying22 rfl rfl) ?_
    refine tp rfl (lv_lss rfl rfl (decide_eq_true hc3.1)) ?_
    refine tp rfl (lv_move rfl) ?_
    refine t_guard rfl rfl ?_
    refine tp rfl (lv_move rfl) ?_
    refine t_guard rfl rfl ?_
    refine tp rfl (lv_lss rfl rfl (decide_eq_true hc3.2)) ?_
    refine tp rfl (lv_pick_t rfl rfl) ?_
    refine t_done ?_
    refine q_then_n (hK11 _ _ ?_)
    refine c_true rfl ?_
    refine c_skip ?_
    refine q_then_n (hK10 _ _ ?_)
    refine c_seq (fun K12 hK12 => ?_)
    refine c_block ?_
    refine c_seq (fun K13 hK13 => ?_)
    refine c_draw (γ := Unit) (n := 17) Tryd.mixed rfl rfl (fun _ S => True) (fun _ => [(0, 35, (.pointer (some ⟨p1, 0, none⟩))), (1, 36, (.slice bl es.length cl)), (2, 37, (.int .i64 ((k : Nat) : Int))), (3, 38, (.pointer (some (ad bl (k * 2))))), (4, 39, (.pointer (some (ad bl (k * 2))))), (5, 40, (.int .i64 (((es).getD k (0, 0)).1))), (6, 41, (.slice bl es.length cl)), (7, 42, (.int .i64 ((k : Nat) : Int))), (8, 43, (.pointer (some (ad bl (k * 2))))), (9, 44, (.pointer (some (ad bl (k * 2 + 1))))), (10, 45, (.int .i64 (((es).getD k (0, 0)).2))), (11, 46, (.tuple #[(.bool (isNew (clampN n) (madeE (clampN n) (es.take k)) (((es).getD k (0, 0)).1) (((es).getD k (0, 0)).2))), (.int .i64 (addErr (clampN n) (((es).getD k (0, 0)).1) (((es).getD k (0, 0)).2)))])), (12, 34, (.tuple #[(.bool (isNew (clampN n) (madeE (clampN n) (es.take k)) (((es).getD k (0, 0)).1) (((es).getD k (0, 0)).2))), (.int .i64 (addErr (clampN n) (((es).getD k (0, 0)).1) (((es).getD k (0, 0)).2)))])), (13, 47, (.bool (isNew (clampN n) (madeE (clampN n) (es.take k)) (((es).getD k (0, 0)).1) (((es).getD k (0, 0)).2)))), (14, 48, (.int .i64 (addErr (clampN n) (((es).getD k (0, 0)).1) (((es).getD k (0, 0)).2)))), (15, 13, (.bool (isNew (clampN n) (madeE (clampN n) (es.take k)) (((es).getD k (0, 0)).1) (((es).getD k (0, 0)).2)))), (16, 14, (.int .i64 (addErr (clampN n) (((es).getD k (0, 0)).1) (((es).getD k (0, 0)).2))))]) (fun _ S => (RefO p2 (clampN n) (madeE (clampN n) (es.take k))) :: (bif S 11 then (GraphO p1 (clampN n) (addE (clampN n) (madeE (clampN n) (es.take k)) (((es).getD k (0, 0)).1) (((es).getD k (0, 0)).2))) else (GraphO p1 (clampN n) (madeE (clampN n) (es.take k)))) :: R) (()) trivial (fun _ h => h) (fun _ _ h => h) ?_ ?_
    · -- steps
      refine ⟨?_, ?_, ?_, ?_, ?_, ?_, ?_, ?_, ?_, ?_, ?_, ?_, ?_, ?_, ?_, ?_, ?_, trivial⟩
      · -- 0
        rintro _ S hF hS D hp K hK
        try dsimp only at hF ⊢
        refine d_need (small := [(10, (.pointer (some ⟨p1, 0, none⟩)))]) ⟨look_b rfl rfl, trivial⟩ ?_
        refine tp rfl (lv_move rfl) ?_
        exact d_closes ⟨look_b rfl rfl, trivial⟩ 0 rfl rfl rfl hS (AgreeR.refl _) (t_sat (fun _ h => h) (hK () trivial))
      · -- 1
        rintro _ S hF hS D hp K hK
        try dsimp only at hF ⊢
        refine d_need (small := [(1, (.slice bl es.length cl))]) ⟨look_b rfl rfl, trivial⟩ ?_
        refine tp rfl (lv_move rfl) ?_
        exact d_closes ⟨look_b rfl rfl, trivial⟩ 1 rfl rfl rfl hS (AgreeR.refl _) (t_sat (fun _ h => h) (hK () trivial))
      · -- 2
        rintro _ S hF hS D hp K hK
        try dsimp only at hF ⊢
        refine d_need (small := [(12, (.int .i64 ((k : Nat) : Int)))]) ⟨look_b rfl rfl, trivial⟩ ?_
        refine tp rfl (lv_move rfl) ?_
        exact d_closes ⟨look_b rfl rfl, trivial⟩ 2 rfl rfl rfl hS (AgreeR.refl _) (t_sat (fun _ h => h) (hK () trivial))
      · -- 3
        rintro _ S hF hS D hp K hK
        try dsimp only at hF ⊢
        have s1 := hp 1 rfl
        have s2 := hp 2 rfl
        refine d_need (small := [(36, (.slice bl es.length cl)), (37, (.int .i64 ((k : Nat) : Int)))]) ⟨look_row rfl 1 rfl s1, look_row rfl 2 rfl s2, trivial⟩ ?_
        refine tp rfl (lv_indexAddr (k' := k * 2) Tryd.underlying22 Tryd.sizeOf27 rfl rfl okl (by omega) (by omega) (by omega)) ?_
        exact d_closes ⟨look_row rfl 1 rfl s1, look_row rfl 2 rfl s2, trivial⟩ 3 rfl rfl rfl hS (AgreeR.refl _) (t_sat (fun _ h => h) (hK () trivial))
      · -- 4
        rintro _ S hF hS D hp K hK
        try dsimp only at hF ⊢
        have s3 := hp 3 rfl
        refine d_need (small := [(38, (.pointer (some (ad bl (k * 2)))))]) ⟨look_row rfl 3 rfl s3, trivial⟩ ?_
        refine tp rfl (lv_fieldAddr_ad (o' := k * 2) Tryd.underlying27 rfl Tryd.sizeOf3 rfl rfl) ?_
        exact d_closes ⟨look_row rfl 3 rfl s3, trivial⟩ 4 rfl rfl rfl hS (AgreeR.refl _) (t_sat (fun _ h => h) (hK () trivial))
      · -- 5
        rintro _ S hF hS D hp K hK
        try dsimp only at hF ⊢
        have s4 := hp 4 rfl
        refine d_need (small := [(39, (.pointer (some (ad bl (k * 2)))))]) ⟨look_row rfl 4 rfl s4, trivial⟩ ?_
        refine tp rfl (lv_load Tryd.isAgg3 rfl (Rd.gives (Rd.cons (Rd.cons hl)) (pairs_get0 (by omega)))) ?_
        exact d_closes ⟨look_row rfl 4 rfl s4, trivial⟩ 5 rfl rfl rfl hS (AgreeR.refl _) (t_sat (fun _ h => h) (hK () trivial))
      · -- 6
        rintro _ S hF hS D hp K hK
        try dsimp only at hF ⊢
        refine d_need (small := [(1, (.slice bl es.length cl))]) ⟨look_b rfl rfl, trivial⟩ ?_
        refine tp rfl (lv_move rfl) ?_
        exact d_closes ⟨look_b rfl rfl, trivial⟩ 6 rfl rfl rfl hS (AgreeR.refl _) (t_sat (fun _ h => h) (hK () trivial))
      · -- 7
        rintro _ S hF hS D hp K hK
        try dsimp only at hF ⊢
        refine d_need (small := [(12, (.int .i64 ((k : Nat) : Int)))]) ⟨look_b rfl rfl, trivial⟩ ?_
        refine tp rfl (lv_move rfl) ?_
        exact d_closes ⟨look_b rfl rfl, trivial⟩ 7 rfl rfl rfl hS (AgreeR.refl _) (t_sat (fun _ h => h) (hK () trivial))
      · -- 8
        rintro _ S hF hS D hp K hK
        try dsimp only at hF ⊢
        have s6 := hp 6 rfl
        have s7 := hp 7 rfl
        refine d_need (small := [(41, (.slice bl es.length cl)), (42, (.int .i64 ((k : Nat) : Int)))]) ⟨look_row rfl 6 rfl s6, look_row rfl 7 rfl s7, trivial⟩ ?_
        refine tp rfl (lv_indexAddr (k' := k * 2) Tryd.underlying22 Tryd.sizeOf27 rfl rfl okl (by omega) (by omega) (by omega)) ?_
        exact d_closes ⟨look_row rfl 6 rfl s6, look_row rfl 7 rfl s7, trivial⟩ 8 rfl rfl rfl hS (AgreeR.refl _) (t_sat (fun _ h => h) (hK () trivial))
      · -- 9
        rintro _ S hF hS D hp K hK
        try dsimp only at hF ⊢
        have s8 := hp 8 rfl
        refine d_need (small := [(43, (.pointer (some (ad bl (k * 2)))))]) ⟨look_row rfl 8 rfl s8, trivial⟩ ?_
        refine tp rfl (lv_fieldAddr_ad (o' := k * 2 + 1) Tryd.underlying27 rfl Tryd.sizeOf3 rfl rfl) ?_
        exact d_closes ⟨look_row rfl 8 rfl s8, trivial⟩ 9 rfl rfl rfl hS (AgreeR.refl _) (t_sat (fun _ h => h) (hK () trivial))
      · -- 10
        rintro _ S hF hS D hp K hK
        try dsimp only at hF ⊢
        have s9 := hp 9 rfl
        refine d_need (small := [(44, (.pointer (some (ad bl (k * 2 + 1)))))]) ⟨look_row rfl 9 rfl s9, trivial⟩ ?_
        refine tp rfl (lv_load Tryd.isAgg3 rfl (Rd.gives (Rd.cons (Rd.cons hl)) (pairs_get1 (by omega)))) ?_
        exact d_closes ⟨look_row rfl 9 rfl s9, trivial⟩ 10 rfl rfl rfl hS (AgreeR.refl _) (t_sat (fun _ h => h) (hK () trivial))
      · -- 11
        rintro _ S hF hS D hp K hK
        try dsimp only at hF ⊢
        have s0 := hp 0 rfl
        have s5 := hp 5 rfl
        have s10 := hp 10 rfl
        refine d_need (small := [(35, (.pointer (some ⟨p1, 0, none⟩))), (40, (.int .i64 (((es).getD k (0, 0)).1))), (45, (.int .i64 (((es).getD k (0, 0)).2)))]) ⟨look_row rfl 0 rfl s0, look_row rfl 5 rfl s5, look_row rfl 10 rfl s10, trivial⟩ ?_
        refine t_f1 ?_
        refine t_cF hS ?_
        refine tc rfl (en_fn Tryd.call12 rfl) (add_ok (N := clampN n) (es := madeE (clampN n) (es.take k)) (((es).getD k (0, 0)).1) (((es).getD k (0, 0)).2)) ?_
        rintro _ _ ⟨rfl, rfl⟩
        refine t_f1 ?_
        exact d_closes ⟨look_row rfl 0 rfl s0, look_row rfl 5 rfl s5, look_row rfl 10 rfl s10, trivial⟩ 11 rfl rfl rfl hS (AgreeR.refl _) (t_sat (fun _ h => h) (hK () trivial))
      · -- 12
        rintro _ S hF hS D hp K hK
        try dsimp only at hF ⊢
        have s11 := hp 11 rfl
        refine d_need (small := [(46, (.tuple #[(.bool (isNew (clampN n) (madeE (clampN n) (es.take k)) (((es).getD k (0, 0)).1) (((es).getD k (0, 0)).2))), (.int .i64 (addErr (clampN n) (((es).getD k (0, 0)).1) (((es).getD k (0, 0)).2)))]))]) ⟨look_row rfl 11 rfl s11, trivial⟩ ?_
        refine tp rfl (lv_move rfl) ?_
        exact d_closes ⟨look_row rfl 11 rfl s11, trivial⟩ 12 rfl rfl rfl hS (AgreeR.refl _) (t_sat (fun _ h => h) (hK () trivial))
      · -- 13
        rintro _ S hF hS D hp K hK
        try dsimp only at hF ⊢
        have s12 := hp 12 rfl
        refine d_need (small := [(34, (.tuple #[(.bool (isNew (clampN n) (madeE (clampN n) (es.take k)) (((es).getD k (0, 0)).1) (((es).getD k (0, 0)).2))), (.int .i64 (addErr (clampN n) (((es).getD k (0, 0)).1) (((es).getD k (0, 0)).2)))]))]) ⟨look_row rfl 12 rfl s12, trivial⟩ ?_
        refine tp rfl (lv_extract rfl rfl) ?_
        exact d_closes ⟨look_row rfl 12 rfl s12, trivial⟩ 13 rfl rfl rfl hS (AgreeR.refl _) (t_sat (fun _ h => h) (hK () trivial))
      · -- 14
        rintro _ S hF hS D hp K hK
        try dsimp only at hF ⊢
        have s12 := hp 12 rfl
        refine d_need (small := [(34, (.tuple #[(.bool (isNew (clampN n) (madeE (clampN n) (es.take k)) (((es).getD k (0, 0)).1) (((es).getD k (0, 0)).2))), (.int .i64 (addErr (clampN n) (((es).getD k (0, 0)).1) (((es).getD k (0, 0)).2)))]))]) ⟨look_row rfl 12 rfl s12, trivial⟩ ?_
        refine tp rfl (lv_extract rfl rfl) ?_
        exact d_closes ⟨look_row rfl 12 rfl s12, trivial⟩ 14 rfl rfl rfl hS (AgreeR.refl _) (t_sat (fun _ h => h) (hK () trivial))
      · -- 15
        rintro _ S hF hS D hp K hK
        try dsimp only at hF ⊢
        have s13 := hp 13 rfl
        refine d_need (small := [(47, (.bool (isNew (clampN n) (madeE (clampN n) (es.take k)) (((es).getD k (0, 0)).1) (((es).getD k (0, 0)).2))))]) ⟨look_row rfl 13 rfl s13, trivial⟩ ?_
        refine tp rfl (lv_assign rfl) ?_
        exact d_closes ⟨look_row rfl 13 rfl s13, trivial⟩ 15 rfl rfl rfl hS (AgreeR.refl _) (t_sat (fun _ h => h) (hK () trivial))
      · -- 16
        rintro _ S hF hS D hp K hK
        try dsimp only at hF ⊢
        have s14 := hp 14 rfl
        refine d_need (small := [(48, (.int .i64 (addErr (clampN n) (((es).getD k (0, 0)).1) (((es).getD k (0, 0)).2))))]) ⟨look_row rfl 14 rfl s14, trivial⟩ ?_
        refine tp rfl (lv_assign rfl) ?_
        exact d_closes ⟨look_row rfl 14 rfl s14, trivial⟩ 16 rfl rfl rfl hS (AgreeR.refl _) (t_sat (fun _ h => h) (hK () trivial))
    · -- behind
      rintro _ hF
      try dsimp only at hF ⊢
      refine t_weak (E' := [(0, (.int .i64 n)), (1, (.slice bl es.length cl)), (2, (.int .i64 a)), (3, (.int .i64 b)), (9, (.bool true)), (10, (.pointer (some ⟨p1, 0, none⟩))), (11, (.pointer (some ⟨p2, 0, none⟩))), (12, (.int .i64 ((k : Nat) : Int))), (13, (.bool (isNew (clampN n) (madeE (clampN n) (es.take k)) (((es).getD k (0, 0)).1) (((es).getD k (0, 0)).2)))), (14, (.int .i64 (addErr (clampN n) (((es).getD k (0, 0)).1) (((es).getD k (0, 0)).2)))), (23, (.bool false)), (31, (.bool true))]) ⟨rfl, rfl, rfl, rfl, rfl, rfl, rfl, rfl, rfl, rfl, rfl, rfl, trivial⟩ ?_
      refine q_then_n (hK13 _ _ ?_)
      refine c_seq (fun K14 hK14 => ?_)
      refine c_draw (γ := Unit) (n := 17) Tryd.mixed rfl rfl (fun _ S => True) (fun _ => [(0, 50, (.pointer (some ⟨p2, 0, none⟩))), (1, 51, (.slice bl es.length cl)), (2, 52, (.int .i64 ((k : Nat) : Int))), (3, 53, (.pointer (some (ad bl (k * 2))))), (4, 54, (.pointer (some (ad bl (k * 2))))), (5, 55, (.int .i64 (((es).getD k (0, 0)).1))), (6, 56, (.slice bl es.length cl)), (7, 57, (.int .i64 ((k : Nat) : Int))), (8, 58, (.pointer (some (ad bl (k * 2))))), (9, 59, (.pointer (some (ad bl (k * 2 + 1))))), (10, 60, (.int .i64 (((es).getD k (0, 0)).2))), (11, 61, (.tuple #[(.bool (isNew (clampN n) (madeE (clampN n) (es.take k)) (((es).getD k (0, 0)).1) (((es).getD k (0, 0)).2))), (.int .i64 (addErr (clampN n) (((es).getD k (0, 0)).1) (((es).getD k (0, 0)).2)))])), (12, 49, (.tuple #[(.bool (isNew (clampN n) (madeE (clampN n) (es.take k)) (((es).getD k (0, 0)).1) (((es).getD k (0, 0)).2))), (.int .i64 (addErr (clampN n) (((es).getD k (0, 0)).1) (((es).getD k (0, 0)).2)))])), (13, 62, (.bool (isNew (clampN n) (madeE (clampN n) (es.take k)) (((es).getD k (0, 0)).1) (((es).getD k (0, 0)).2)))), (14, 63, (.int .i64 (addErr (clampN n) (((es).getD k (0, 0)).1) (((es).getD k (0, 0)).2)))), (15, 15, (.bool (isNew (clampN n) (madeE (clampN n) (es.take k)) (((es).getD k (0, 0)).1) (((es).getD k (0, 0)).2)))), (16, 16, (.int .i64 (addErr (clampN n) (((es).getD k (0, 0)).1) (((es).getD k (0, 0)).2))))]) (fun _ S => (bif S 11 then (RefO p2 (clampN n) (addE (clampN n) (madeE (clampN n) (es.take k)) (((es).getD k (0, 0)).1) (((es).getD k (0, 0)).2))) else (RefO p2 (clampN n) (madeE (clampN n) (es.take k)))) :: (GraphO p1 (clampN n) (addE (clampN n) (madeE (clampN n) (es.take k)) (((es).getD k (0, 0)).1) (((es).getD k (0, 0)).2))) :: R) (()) trivial (fun _ h => h) (fun _ _ h => h) ?_ ?_
      · -- steps
        refine ⟨?_, ?_, ?_, ?_, ?_, ?_, ?_, ?_, ?_, ?_, ?_, ?_, ?_, ?_, ?_, ?_, ?_, trivial⟩
        · -- 0
         rintro _ S hF hS D hp K hK
         try dsimp only at hF ⊢
         refine d_need (small := [(11, (.pointer (some ⟨p2, 0, none⟩)))]) ⟨look_b rfl rfl, trivial⟩ ?_
         refine tp rfl (lv_move rfl) ?_
         exact d_closes ⟨look_b rfl rfl, trivial⟩ 0 rfl rfl rfl hS (AgreeR.refl _) (t_sat (fun _ h => h) (hK () trivial))
        · -- 1
         rintro _ S hF hS D hp K hK
         try dsimp only at hF ⊢
         refine d_need (small := [(1, (.slice bl es.length cl))]) ⟨look_b rfl rfl, trivial⟩ ?_
         refine tp rfl (lv_move rfl) ?_
         exact d_closes ⟨look_b rfl rfl, trivial⟩ 1 rfl rfl rfl hS (AgreeR.refl _) (t_sat (fun _ h => h) (hK () trivial))
        · -- 2
         rintro _ S hF hS D hp K hK
         try dsimp only at hF ⊢
         refine d_need (small := [(12, (.int .i64 ((k : Nat) : Int)))]) ⟨look_b rfl rfl, trivial⟩ ?_
         refine tp rfl (lv_move rfl) ?_
         exact d_closes ⟨look_b rfl rfl, trivial⟩ 2 rfl rfl rfl hS (AgreeR.refl _) (t_sat (fun _ h => h) (hK () trivial))
        · -- 3
         rintro _ S hF hS D hp K hK
         try dsimp only at hF ⊢
         have s1 := hp 1 rfl
         have s2 := hp 2 rfl
         refine d_need (small := [(51, (.slice bl es.length cl)), (52, (.int .i64 ((k : Nat) : Int)))]) ⟨look_row rfl 1 rfl s1, look_row rfl 2 rfl s2, trivial⟩ ?_
         refine tp rfl (lv_indexAddr (k' := k * 2) Tryd.underlying22 Tryd.sizeOf27 rfl rfl okl (by omega) (by omega) (by omega)) ?_
         exact d_closes ⟨look_row rfl 1 rfl s1, look_row rfl 2 rfl s2, trivial⟩ 3 rfl rfl rfl hS (AgreeR.refl _) (t_sat (fun _ h => h) (hK () trivial))
        · -- 4
         rintro _ S hF hS D hp K hK
         try dsimp only at hF ⊢
         have s3 := hp 3 rfl
         refine d_need (small := [(53, (.pointer (some (ad bl (k * 2)))))]) ⟨look_row rfl 3 rfl s3, trivial⟩ ?_
         refine tp rfl (lv_fieldAddr_ad (o' := k * 2) Tryd.underlying27 rfl Tryd.sizeOf3 rfl rfl) ?_
         exact d_closes ⟨look_row rfl 3 rfl s3, trivial⟩ 4 rfl rfl rfl hS (AgreeR.refl _) (t_sat (fun _ h => h) (hK () trivial))
        · -- 5
         rintro _ S hF hS D hp K hK
         try dsimp only at hF ⊢
         have s4 := hp 4 rfl
         refine d_need (small := [(54, (.pointer (some (ad bl (k * 2)))))]) ⟨look_row rfl 4 rfl s4, trivial⟩ ?_
         refine tp rfl (lv_load Tryd.isAgg3 rfl (Rd.gives (Rd.cons (Rd.cons hl)) (pairs_get0 (by omega)))) ?_
         exact d_closes ⟨look_row rfl 4 rfl s4, trivial⟩ 5 rfl rfl rfl hS (AgreeR.refl _) (t_sat (fun _ h => h) (hK () trivial))
        · -- 6
         rintro _ S hF hS D hp K hK
         try dsimp only at hF ⊢
         refine d_need (small := [(1, (.slice bl es.length cl))]) ⟨look_b rfl rfl, trivial⟩ ?_
         refine tp rfl (lv_move rfl) ?_
         exact d_closes ⟨look_b rfl rfl, trivial⟩ 6 rfl rfl rfl hS (AgreeR.refl _) (t_sat (fun _ h => h) (hK () trivial))
        · -- 7
         rintro _ S hF hS D hp K hK
         try dsimp only at hF ⊢
         refine d_need (small := [(12, (.int .i64 ((k : Nat) : Int)))]) ⟨look_b rfl rfl, trivial⟩ ?_
         refine tp rfl (lv_move rfl) ?_
         exact d_closes ⟨look_b rfl rfl, trivial⟩ 7 rfl rfl rfl hS (AgreeR.refl _) (t_sat (fun _ h => h) (hK () trivial))
        · -- 8
         rintro _ S hF hS D hp K hK
         try dsimp only at hF ⊢
         have s6 := hp 6 rfl
         have s7 := hp 7 rfl
         refine d_need (small := [(56, (.slice bl es.length cl)), (57, (.int .i64 ((k : Nat) : Int)))]) ⟨look_row rfl 6 rfl s6, look_row rfl 7 rfl s7, trivial⟩ ?_
         refine tp rfl (lv_indexAddr (k' := k * 2) Tryd.underlying22 Tryd.sizeOf27 rfl rfl okl (by omega) (by omega) (by omega)) ?_
         exact d_closes ⟨look_row rfl 6 rfl s6, look_row rfl 7 rfl s7, trivial⟩ 8 rfl rfl rfl hS (AgreeR.refl _) (t_sat (fun _ h => h) (hK () trivial))
        · -- 9
         rintro _ S hF hS D hp K hK
         try dsimp only at hF ⊢
         have s8 := hp 8 rfl
         refine d_need (small := [(58, (.pointer (some (ad bl (k * 2)))))]) ⟨look_row rfl 8 rfl s8, trivial⟩ ?_
         refine tp rfl (lv_fieldAddr_ad (o' := k * 2 + 1) Tryd.underlying27 rfl Tryd.sizeOf3 rfl rfl) ?_
         exact d_closes ⟨look_row rfl 8 rfl s8, trivial⟩ 9 rfl rfl rfl hS (AgreeR.refl _) (t_sat (fun _ h => h) (hK () trivial))
        · -- 10
         rintro _ S hF hS D hp K hK
         try dsimp only at hF ⊢
         have s9 := hp 9 rfl
         refine d_need (small := [(59, (.pointer (some (ad bl (k * 2 + 1)))))]) ⟨look_row rfl 9 rfl s9, trivial⟩ ?_
         refine tp rfl (lv_load Tryd.isAgg3 rfl (Rd.gives (Rd.cons (Rd.cons hl)) (pairs_get1 (by omega)))) ?_
         exact d_closes ⟨look_row rfl 9 rfl s9, trivial⟩ 10 rfl rfl rfl hS (AgreeR.refl _) (t_sat (fun _ h => h) (hK () trivial))
        · -- 11
         rintro _ S hF hS D hp K hK
         try dsimp only at hF ⊢
         have s0 := hp 0 rfl
         have s5 := hp 5 rfl
         have s10 := hp 10 rfl
         refine d_need (small := [(50, (.pointer (some ⟨p2, 0, none⟩))), (55, (.int .i64 (((es).getD k (0, 0)).1))), (60, (.int .i64 (((es).getD k (0, 0)).2)))]) ⟨look_row rfl 0 rfl s0, look_row rfl 5 rfl s5, look_row rfl 10 rfl s10, trivial⟩ ?_
         refine t_cF hS ?_
         refine tc rfl (en_fn Tryd.call23 rfl) (radd_ok (N := clampN n) (es := madeE (clampN n) (es.take k)) (((es).getD k (0, 0)).1) (((es).getD k (0, 0)).2) hE) ?_
         rintro _ _ ⟨rfl, rfl⟩
         exact d_closes ⟨look_row rfl 0 rfl s0, look_row rfl 5 rfl s5, look_row rfl 10 rfl s10, trivial⟩ 11 rfl rfl rfl hS (AgreeR.refl _) (t_sat (fun _ h => h) (hK () trivial))
        · -- 12
         rintro _ S hF hS D hp K hK
         try dsimp only at hF ⊢
         have s11 := hp 11 rfl
         refine d_need (small := [(61, (.tuple #[(.bool (isNew (clampN n) (madeE (clampN n) (es.take k)) (((es).getD k (0, 0)).1) (((es).getD k (0, 0)).2))), (.int .i64 (addErr (clampN n) (((es).getD k (0, 0)).1) (((es).getD k (0, 0)).2)))]))]) ⟨look_row rfl 11 rfl s11, trivial⟩ ?_
         refine tp rfl (lv_move rfl) ?_
         exact d_closes ⟨look_row rfl 11 rfl s11, trivial⟩ 12 rfl rfl rfl hS (AgreeR.refl _) (t_sat (fun _ h => h) (hK () trivial))
        · -- 13
         rintro _ S hF hS D hp K hK
         try dsimp only at hF ⊢
         have s12 := hp 12 rfl
         refine d_need (small := [(49, (.tuple #[(.bool (isNew (clampN n) (madeE (clampN n) (es.take k)) (((es).getD k (0, 0)).1) (((es).getD k (0, 0)).2))), (.int .i64 (addErr (clampN n) (((es).getD k (0, 0)).1) (((es).getD k (0, 0)).2)))]))]) ⟨look_row rfl 12 rfl s12, trivial⟩ ?_
         refine tp rfl (lv_extract rfl rfl) ?_
         exact d_closes ⟨look_row rfl 12 rfl s12, trivial⟩ 13 rfl rfl rfl hS (AgreeR.refl _) (t_sat (fun _ h => h) (hK () trivial))
        · -- 14
         rintro _ S hF hS D hp K hK
         try dsimp only at hF ⊢
         have s12 := hp 12 rfl
         refine d_need (small := [(49, (.tuple #[(.bool (isNew (clampN n) (madeE (clampN n) (es.take k)) (((es).getD k (0, 0)).1) (((es).getD k (0, 0)).2))), (.int .i64 (addErr (clampN n) (((es).getD k (0, 0)).1) (((es).getD k (0, 0)).2)))]))]) ⟨look_row rfl 12 rfl s12, trivial⟩ ?_
         refine tp rfl (lv_extract rfl rfl) ?_
         exact d_closes ⟨look_row rfl 12 rfl s12, trivial⟩ 14 rfl rfl rfl hS (AgreeR.refl _) (t_sat (fun _ h => h) (hK () trivial))
        · -- 15
         rintro _ S hF hS D hp K hK
         try dsimp only at hF ⊢
         have s13 := hp 13 rfl
         refine d_need (small := [(62, (.bool (isNew (clampN n) (madeE (clampN n) (es.take k)) (((es).getD k (0, 0)).1) (((es).getD k (0, 0)).2))))]) ⟨look_row rfl 13 rfl s13, trivial⟩ ?_
         refine tp rfl (lv_assign rfl) ?_
         exact d_closes ⟨look_row rfl 13 rfl s13, trivial⟩ 15 rfl rfl rfl hS (AgreeR.refl _) (t_sat (fun _ h => h) (hK () trivial))
        · -- 16
         rintro _ S hF hS D hp K hK
         try dsimp only at hF ⊢
         have s14 := hp 14 rfl
         refine d_need (small := [(63, (.int .i64 (addErr (clampN n) (((es).getD k (0, 0)).1) (((es).getD k (0, 0)).2))))]) ⟨look_row rfl 14 rfl s14, trivial⟩ ?_
         refine tp rfl (lv_assign rfl) ?_
         exact d_closes ⟨look_row rfl 14 rfl s14, trivial⟩ 16 rfl rfl rfl hS (AgreeR.refl _) (t_sat (fun _ h => h) (hK () trivial))
      · -- behind
        rintro _ hF
        try dsimp only at hF ⊢
        refine t_weak (E' := [(0, (.int .i64 n)), (1, (.slice bl es.length cl)), (2, (.int .i64 a)), (3, (.int .i64 b)), (9, (.bool true)), (10, (.pointer (some ⟨p1, 0, none⟩))), (11, (.pointer (some ⟨p2, 0, none⟩))), (12, (.int .i64 ((k : Nat) : Int))), (13, (.bool (isNew (clampN n) (madeE (clampN n) (es.take k)) (((es).getD k (0, 0)).1) (((es).getD k (0, 0)).2)))), (14, (.int .i64 (addErr (clampN n) (((es).getD k (0, 0)).1) (((es).getD k (0, 0)).2)))), (15, (.bool (isNew (clampN n) (madeE (clampN n) (es.take k)) (((es).getD k (0, 0)).1) (((es).getD k (0, 0)).2)))), (16, (.int .i64 (addErr (clampN n) (((es).getD k (0, 0)).1) (((es).getD k (0, 0)).2)))), (23, (.bool false)), (31, (.bool true))]) ⟨rfl, rfl, rfl, rfl, rfl, rfl, rfl, rfl, rfl, rfl, rfl, rfl, rfl, rfl, trivial⟩ ?_
        refine q_then_n (hK14 _ _ ?_)
        refine c_seq (fun K15 hK15 => ?_)
        refine t_openR (fun bs4 cp5 hok6 hle7 => ?_)
        refine c_draw (γ := Unit) (n := 18) Tryd.mixed rfl rfl (fun _ S => True) (fun _ => [(0, 64, (.bool (isNew (clampN n) (madeE (clampN n) (es.take k)) (((es).getD k (0, 0)).1) (((es).getD k (0, 0)).2)))), (1, 65, (.bool (isNew (clampN n) (madeE (clampN n) (es.take k)) (((es).getD k (0, 0)).1) (((es).getD k (0, 0)).2)))), (2, 66, (.bool false)), (3, 67, (.bool false)), (4, 68, (.int .i64 (addErr (clampN n) (((es).getD k (0, 0)).1) (((es).getD k (0, 0)).2)))), (5, 69, (.int .i64 (addErr (clampN n) (((es).getD k (0, 0)).1) (((es).getD k (0, 0)).2)))), (6, 70, (.bool false)), (7, 71, (.bool false)), (8, 72, (.bool false)), (9, 73, (.pointer (some ⟨p1, 0, none⟩))), (10, 74, (.int .i64 (((addE (clampN n) (madeE (clampN n) (es.take k)) (((es).getD k (0, 0)).1) (((es).getD k (0, 0)).2)).length : Nat) : Int))), (11, 75, (.pointer (some ⟨p2, 0, none⟩))), (12, 76, (.pointer (some ⟨p2, 0, none⟩))), (13, 77, (.pointer (some ⟨p2, 1, none⟩))), (14, 78, (.slice bs4 ((addE (clampN n) (madeE (clampN n) (es.take k)) (((es).getD k (0, 0)).1) (((es).getD k (0, 0)).2)).length) cp5)), (15, 79, (.int .i64 (((addE (clampN n) (madeE (clampN n) (es.take k)) (((es).getD k (0, 0)).1) (((es).getD k (0, 0)).2)).length : Nat) : Int))), (16, 80, (.bool false)), (17, 81, (.bool false))]) (fun _ S => (Blk p2 [(.int .i64 ((clampN n : Nat) : Int)), (.slice bs4 ((addE (clampN n) (madeE (clampN n) (es.take k)) (((es).getD k (0, 0)).1) (((es).getD k (0, 0)).2)).length) cp5)] 46) :: (SlV 59 2 (.slice bs4 ((addE (clampN n) (madeE (clampN n) (es.take k)) (((es).getD k (0, 0)).1) (((es).getD k (0, 0)).2)).length) cp5) ((addE (clampN n) (madeE (clampN n) (es.take k)) (((es).getD k (0, 0)).1) (((es).getD k (0, 0)).2)).length) (pairs (addE (clampN n) (madeE (clampN n) (es.take k)) (((es).getD k (0, 0)).1) (((es).getD k (0, 0)).2)))) :: (GraphO p1 (clampN n) (addE (clampN n) (madeE (clampN n) (es.take k)) (((es).getD k (0, 0)).1) (((es).getD k (0, 0)).2))) :: R) (()) trivial (fun _ h => h) (fun _ _ h => h) ?_ ?_
        · -- steps
         refine ⟨?_, ?_, ?_, ?_, ?_, ?_, ?_, ?_, ?_, ?_, ?_, ?_, ?_, ?_, ?_, ?_, ?_, ?_, trivial⟩
         · -- 0
          rintro _ S hF hS D hp K hK
          try dsimp only at hF ⊢
          refine d_need (small := [(13, (.bool (isNew (clampN n) (madeE (clampN n) (es.take k)) (((es).getD k (0, 0)).1) (((es).getD k (0, 0)).2))))]) ⟨look_b rfl rfl, trivial⟩ ?_
          refine tp rfl (lv_move rfl) ?_
          exact d_closes ⟨look_b rfl rfl, trivial⟩ 0 rfl rfl rfl hS (AgreeR.refl _) (t_sat (fun _ h => h) (hK () trivial))
         · -- 1
          rintro _ S hF hS D hp K hK
          try dsimp only at hF ⊢
          refine d_need (small := [(15, (.bool (isNew (clampN n) (madeE (clampN n) (es.take k)) (((es).getD k (0, 0)).1) (((es).getD k (0, 0)).2))))]) ⟨look_b rfl rfl, trivial⟩ ?_
          refine tp rfl (lv_move rfl) ?_
          exact d_closes ⟨look_b rfl rfl, trivial⟩ 1 rfl rfl rfl hS (AgreeR.refl _) (t_sat (fun _ h => h) (hK () trivial))
         · -- 2
          rintro _ S hF hS D hp K hK
          try dsimp only at hF ⊢
          have s0 := hp 0 rfl
          have s1 := hp 1 rfl
          refine d_need (small := [(64, (.bool (isNew (clampN n) (madeE (clampN n) (es.take k)) (((es).getD k (0, 0)).1) (((es).getD k (0, 0)).2)))), (65, (.bool (isNew (clampN n) (madeE (clampN n) (es.take k)) (((es).getD k (0, 0)).1) (((es).getD k (0, 0)).2))))]) ⟨look_row rfl 0 rfl s0, look_row rfl 1 rfl s1, trivial⟩ ?_
          refine tp rfl (lv_neb Tryd.underlying4 rfl rfl (bne_self_eq_false _)) ?_
          exact d_closes ⟨look_row rfl 0 rfl s0, look_row rfl 1 rfl s1, trivial⟩ 2 rfl rfl rfl hS (AgreeR.refl _) (t_sat (fun _ h => h) (hK () trivial))
         · -- 3
          rintro _ S hF hS D hp K hK
          try dsimp only at hF ⊢
          have s2 := hp 2 rfl
          refine d_need (small := [(66, (.bool false))]) ⟨look_row rfl 2 rfl s2, trivial⟩ ?_
          refine tp rfl (lv_move rfl) ?_
          exact d_closes ⟨look_row rfl 2 rfl s2, trivial⟩ 3 rfl rfl rfl hS (AgreeR.refl _) (t_sat (fun _ h => h) (hK () trivial))
         · -- 4
          rintro _ S hF hS D hp K hK
          try dsimp only at hF ⊢
          have s3 := hp 3 rfl
          refine d_need (small := [(14, (.int .i64 (addErr (clampN n) (((es).getD k (0, 0)).1) (((es).getD k (0, 0)).2)))), (67, (.bool false))]) ⟨look_b rfl rfl, look_row rfl 3 rfl s3, trivial⟩ ?_
          refine t_guard rfl rfl ?_
          refine tp rfl (lv_move rfl) ?_
          exact d_closes ⟨look_b rfl rfl, look_row rfl 3 rfl s3, trivial⟩ 4 rfl rfl rfl hS (AgreeR.refl _) (t_sat (fun _ h => h) (hK () trivial))
         · -- 5
          rintro _ S hF hS D hp K hK
          try dsimp only at hF ⊢
          have s3 := hp 3 rfl
          refine d_need (small := [(16, (.int .i64 (addErr (clampN n) (((es).getD k (0, 0)).1) (((es).getD k (0, 0)).2)))), (67, (.bool false))]) ⟨look_b rfl rfl, look_row rfl 3 rfl s3, trivial⟩ ?_
          refine t_guard rfl rfl ?_
          refine tp rfl (lv_move rfl) ?_
          exact d_closes ⟨look_b rfl rfl, look_row rfl 3 rfl s3, trivial⟩ 5 rfl rfl rfl hS (AgreeR.refl _) (t_sat (fun _ h => h) (hK () trivial))
         · -- 6
          rintro _ S hF hS D hp K hK
          try dsimp only at hF ⊢
          have s3 := hp 3 rfl
          have s4 := hp 4 rfl
          have s5 := hp 5 rfl
          refine d_need (small := [(67, (.bool false)), (68, (.int .i64 (addErr (clampN n) (((es).getD k (0, 0)).1) (((es).getD k (0, 0)).2)))), (69, (.int .i64 (addErr (clampN n) (((es).getD k (0, 0)).1) (((es).getD k (0, 0)).2))))]) ⟨look_row rfl 3 rfl s3, look_row rfl 4 rfl s4, look_row rfl 5 rfl s5, trivial⟩ ?_
          refine t_guard rfl rfl ?_
          refine tp rfl (lv_neq rfl rfl (bne_eq_false_iff_eq.2 rfl)) ?_
          exact d_closes ⟨look_row rfl 3 rfl s3, look_row rfl 4 rfl s4, look_row rfl 5 rfl s5, trivial⟩ 6 rfl rfl rfl hS (AgreeR.refl _) (t_sat (fun _ h => h) (hK () trivial))
         · -- 7
          rintro _ S hF hS D hp K hK
          try dsimp only at hF ⊢
          have s3 := hp 3 rfl
          have s6 := hp 6 rfl
          refine d_need (small := [(67, (.bool false)), (70, (.bool false))]) ⟨look_row rfl 3 rfl s3, look_row rfl 6 rfl s6, trivial⟩ ?_
          refine tp rfl (lv_pick_f rfl rfl) ?_
          exact d_closes ⟨look_row rfl 3 rfl s3, look_row rfl 6 rfl s6, trivial⟩ 7 rfl rfl rfl hS (AgreeR.refl _) (t_sat (fun _ h => h) (hK () trivial))
         · -- 8
          rintro _ S hF hS D hp K hK
          try dsimp only at hF ⊢
          have s7 := hp 7 rfl
          refine d_need (small := [(71, (.bool false))]) ⟨look_row rfl 7 rfl s7, trivial⟩ ?_
          refine tp rfl (lv_move rfl) ?_
          exact d_closes ⟨look_row rfl 7 rfl s7, trivial⟩ 8 rfl rfl rfl hS (AgreeR.refl _) (t_sat (fun _ h => h) (hK () trivial))
         · -- 9
          rintro _ S hF hS D hp K hK
          try dsimp only at hF ⊢
          have s8 := hp 8 rfl
          refine d_need (small := [(10, (.pointer (some ⟨p1, 0, none⟩))), (72, (.bool false))]) ⟨look_b rfl rfl, look_row rfl 8 rfl s8, trivial⟩ ?_
          refine t_guard rfl rfl ?_
          refine tp rfl (lv_move rfl) ?_
          exact d_closes ⟨look_b rfl rfl, look_row rfl 8 rfl s8, trivial⟩ 9 rfl rfl rfl hS (AgreeR.refl _) (t_sat (fun _ h => h) (hK () trivial))
         · -- 10
          rintro _ S hF hS D hp K hK
          try dsimp only at hF ⊢
          have s8 := hp 8 rfl
          have s9 := hp 9 rfl
          refine d_need (small := [(72, (.bool false)), (73, (.pointer (some ⟨p1, 0, none⟩)))]) ⟨look_row rfl 8 rfl s8, look_row rfl 9 rfl s9, trivial⟩ ?_
          refine t_guard rfl rfl ?_
          refine t_f2 ?_
          refine tc rfl (en_fn Tryd.call14 rfl) (len_ok) ?_
          rintro _ _ ⟨rfl, rfl⟩
          refine t_f2 ?_
          refine t_f2 ?_
          exact d_closes ⟨look_row rfl 8 rfl s8, look_row rfl 9 rfl s9, trivial⟩ 10 rfl rfl rfl hS (AgreeR.refl _) (t_sat (fun _ h => h) (hK () trivial))
         · -- 11
          rintro _ S hF hS D hp K hK
          try dsimp only at hF ⊢
          have s8 := hp 8 rfl
          refine d_need (small := [(11, (.pointer (some ⟨p2, 0, none⟩))), (72, (.bool false))]) ⟨look_b rfl rfl, look_row rfl 8 rfl s8, trivial⟩ ?_
          refine t_guard rfl rfl ?_
          refine tp rfl (lv_move rfl) ?_
          exact d_closes ⟨look_b rfl rfl, look_row rfl 8 rfl s8, trivial⟩ 11 rfl rfl rfl hS (AgreeR.refl _) (t_sat (fun _ h => h) (hK () trivial))
         · -- 12
          rintro _ S hF hS D hp K hK
          try dsimp only at hF ⊢
          have s8 := hp 8 rfl
          have s11 := hp 11 rfl
          refine d_need (small := [(72, (.bool false)), (75, (.pointer (some ⟨p2, 0, none⟩)))]) ⟨look_row rfl 8 rfl s8, look_row rfl 11 rfl s11, trivial⟩ ?_
          refine t_guard rfl rfl ?_
          refine tp rfl (lv_nilCheck rfl) ?_
          exact d_closes ⟨look_row rfl 8 rfl s8, look_row rfl 11 rfl s11, trivial⟩ 12 rfl rfl rfl hS (AgreeR.refl _) (t_sat (fun _ h => h) (hK () trivial))
         · -- 13
          rintro _ S hF hS D hp K hK
          try dsimp only at hF ⊢
          have s8 := hp 8 rfl
          have s12 := hp 12 rfl
          refine d_need (small := [(72, (.bool false)), (76, (.pointer (some ⟨p2, 0, none⟩)))]) ⟨look_row rfl 8 rfl s8, look_row rfl 12 rfl s12, trivial⟩ ?_
          refine t_guard rfl rfl ?_
          refine tp rfl (lv_fieldAddr (o' := 1) Tryd.underlying46 rfl Tryd.sizeOf44 rfl rfl) ?_
          exact d_closes ⟨look_row rfl 8 rfl s8, look_row rfl 12 rfl s12, trivial⟩ 13 rfl rfl rfl hS (AgreeR.refl _) (t_sat (fun _ h => h) (hK () trivial))
         · -- 14
          rintro _ S hF hS D hp K hK
          try dsimp only at hF ⊢
          have s8 := hp 8 rfl
          have s13 := hp 13 rfl
          refine d_need (small := [(72, (.bool false)), (77, (.pointer (some ⟨p2, 1, none⟩)))]) ⟨look_row rfl 8 rfl s8, look_row rfl 13 rfl s13, trivial⟩ ?_
          refine t_guard rfl rfl ?_
          refine tp rfl (lv_load Tryd.isAgg44 rfl (gives_blk (.head _) rfl)) ?_
          exact d_closes ⟨look_row rfl 8 rfl s8, look_row rfl 13 rfl s13, trivial⟩ 14 rfl rfl rfl hS (AgreeR.refl _) (t_sat (fun _ h => h) (hK () trivial))
         · -- 15
          rintro _ S hF hS D hp K hK
          try dsimp only at hF ⊢
          have s8 := hp 8 rfl
          have s14 := hp 14 rfl
          refine d_need (small := [(72, (.bool false)), (78, (.slice bs4 ((addE (clampN n) (madeE (clampN n) (es.take k)) (((es).getD k (0, 0)).1) (((es).getD k (0, 0)).2)).length) cp5))]) ⟨look_row rfl 8 rfl s8, look_row rfl 14 rfl s14, trivial⟩ ?_
          refine t_guard rfl rfl ?_
          refine tp rfl (lv_len Tryd.underlying44 rfl rfl) ?_
          exact d_closes ⟨look_row rfl 8 rfl s8, look_row rfl 14 rfl s14, trivial⟩ 15 rfl rfl rfl hS (AgreeR.refl _) (t_sat (fun _ h => h) (hK () trivial))
         · -- 16
          rintro _ S hF hS D hp K hK
          try dsimp only at hF ⊢
          have s8 := hp 8 rfl
          have s10 := hp 10 rfl
          have s15 := hp 15 rfl
          refine d_need (small := [(72, (.bool false)), (74, (.int .i64 (((addE (clampN n) (madeE (clampN n) (es.take k)) (((es).getD k (0, 0)).1) (((es).getD k (0, 0)).2)).length : Nat) : Int))), (79, (.int .i64 (((addE (clampN n) (madeE (clampN n) (es.take k)) (((es).getD k (0, 0)).1) (((es).getD k (0, 0)).2)).length : Nat) : Int)))]) ⟨look_row rfl 8 rfl s8, look_row rfl 10 rfl s10, look_row rfl 15 rfl s15, trivial⟩ ?_
          refine t_guard rfl rfl ?_
          refine tp rfl (lv_neq rfl rfl (bne_eq_false_iff_eq.2 rfl)) ?_
          exact d_closes ⟨look_row rfl 8 rfl s8, look_row rfl 10 rfl s10, look_row rfl 15 rfl s15, trivial⟩ 16 rfl rfl rfl hS (AgreeR.refl _) (t_sat (fun _ h => h) (hK () trivial))
         · -- 17
          rintro _ S hF hS D hp K hK
          try dsimp only at hF ⊢
          have s8 := hp 8 rfl
          have s16 := hp 16 rfl
          refine d_need (small := [(72, (.bool false)), (80, (.bool false))]) ⟨look_row rfl 8 rfl s8, look_row rfl 16 rfl s16, trivial⟩ ?_
          refine tp rfl (lv_pick_f rfl rfl) ?_
          exact d_closes ⟨look_row rfl 8 rfl s8, look_row rfl 16 rfl s16, trivial⟩ 17 rfl rfl rfl hS (AgreeR.refl _) (t_sat (fun _ h => h) (hK () trivial))
        · -- behind
         rintro _ hF
         try dsimp only at hF ⊢
         refine t_weak (E' := [(0, (.int .i64 n)), (1, (.slice bl es.length cl)), (2, (.int .i64 a)), (3, (.int .i64 b)), (9, (.bool true)), (10, (.pointer (some ⟨p1, 0, none⟩))), (11, (.pointer (some ⟨p2, 0, none⟩))), (12, (.int .i64 ((k : Nat) : Int))), (13, (.bool (isNew (clampN n) (madeE (clampN n) (es.take k)) (((es).getD k (0, 0)).1) (((es).getD k (0, 0)).2)))), (14, (.int .i64 (addErr (clampN n) (((es).getD k (0, 0)).1) (((es).getD k (0, 0)).2)))), (15, (.bool (isNew (clampN n) (madeE (clampN n) (es.take k)) (((es).getD k (0, 0)).1) (((es).getD k (0, 0)).2)))), (16, (.int .i64 (addErr (clampN n) (((es).getD k (0, 0)).1) (((es).getD k (0, 0)).2)))), (23, (.bool false)), (31, (.bool true)), (81, (.bool false))]) ⟨rfl, rfl, rfl, rfl, rfl, rfl, rfl, rfl, rfl, rfl, rfl, rfl, rfl, rfl, rfl, trivial⟩ ?_
         refine q_then_n (hK15 _ _ ?_)
         refine c_false rfl ?_
         refine c_skip ?_
         refine q_in_n ?_
         refine q_then_n (hK12 _ _ ?_)
         refine c_region ?_
         refine t_f1 ?_
         refine t_f1 ?_
         refine t_shutR hok6 hle7 ?_
         refine tp rfl (lv_move rfl) ?_
         refine tp rfl (lv_add (c := ((k + 1 : Nat) : Int)) rfl rfl (wr_i64_succ (by omega))) ?_
         refine tp rfl (lv_assign rfl) ?_
         refine t_done ?_
         refine q_then_n ?_
         rw [show addE (clampN n) (madeE (clampN n) (es.take k)) (((es).getD k (0, 0)).1) (((es).getD k (0, 0)).2) = madeE (clampN n) (es.take (k + 1)) from (madeE_succ (by omega)).symm]
         exact t_weak (by exact ⟨rfl, rfl, rfl, rfl, rfl, rfl, rfl, rfl, rfl, trivial⟩) ((hK9 (k + 1) ⟨by omega, by omega⟩ (by omega)))
  · -- not both
    refine t_cut0 (E' := [(0, (.int .i64 n)), (1, (.slice bl es.length cl)), (2, (.int .i64 a)), (3, (.int .i64 b)), (9, (.bool true)), (10, (.pointer (some ⟨p1, 0, none⟩))), (11, (.pointer (some ⟨p2, 0, none⟩))), (12, (.int .i64 ((k : Nat) : Int))), (23, (.bool false)), (31, (.bool false))]) ?_ (fun KK hKK => ?_)
    ·
      refine q_then_n (hK11 _ _ ?_)
      refine c_false rfl ?_
      refine c_exit ?_
      refine q_then_x ?_
      refine q_then_x ?_
      refine q_in_x ?_
      refine q_then_n (hK7 _ _ ?_)
      refine c_seq (fun K12 hK12 => ?_)
      have hcn := clampN_le n
      obtain ⟨F, hF⟩ : ∃ x, madeE (clampN n) (es.take k) = x := ⟨_, rfl⟩
      rw [hF] at hE hg ⊢
      obtain ⟨M, hM⟩ : ∃ x, clampN n = x := ⟨_, rfl⟩
      rw [hM] at hg hcn ⊢
      refine t_openR (fun bs8 cp9 hok10 hle11 => ?_)
      have hlo := outs_le F a
      have hli := inns_le F a
      have hlr := reachL_le M F a
      by_cases h12 : b ≥ 0
      · -- yes
        by_cases h13 : b < ((M : Nat) : Int)
        · -- yes
         refine c_draw (γ := Option Addr × Nat × Option Addr × Nat × Option Addr × Nat × Option Addr × Nat × Option Addr × Nat × Option Addr × Nat) (n := 72) Tryd.mixed rfl rfl (fun (bs14, cp15, bs18, cp19, bs22, cp23, bs26, cp27, bs30, cp31, bs34, cp35) S => (S 24 = true → SlOk bs14 ((outs F a).length)) ∧ (S 24 = true → (outs F a).length ≤ cp15) ∧ (S 27 = true → SlOk bs18 ((outs F a).length)) ∧ (S 27 = true → (outs F a).length ≤ cp19) ∧ (S 33 = true → SlOk bs22 ((inns F a).length)) ∧ (S 33 = true → (inns F a).length ≤ cp23) ∧ (S 36 = true → SlOk bs26 ((inns F a).length)) ∧ (S 36 = true → (inns F a).length ≤ cp27) ∧ (S 42 = true → SlOk bs30 ((reachL M F a).length)) ∧ (S 42 = true → (reachL M F a).length ≤ cp31) ∧ (S 45 = true → SlOk bs34 ((reachL M F a).length)) ∧ (S 45 = true → (reachL M F a).length ≤ cp35)) (fun (bs14, cp15, bs18, cp19, bs22, cp23, bs26, cp27, bs30, cp31, bs34, cp35) => [(0, 82, (.bool true)), (1, 83, (.bool true)), (2, 84, (.pointer (some ⟨p1, 0, none⟩))), (3, 85, (.int .i64 ((M : Nat) : Int))), (4, 86, (.pointer (some ⟨p2, 0, none⟩))), (5, 87, (.pointer (some ⟨p2, 0, none⟩))), (6, 88, (.pointer (some ⟨p2, 0, none⟩))), (7, 89, (.int .i64 ((M : Nat) : Int))), (8, 90, (.bool true)), (9, 91, (.bool true)), (10, 92, (.bool true)), (11, 93, (.pointer (some ⟨p1, 0, none⟩))), (12, 94, (.int .i64 a)), (13, 95, (.int .i64 b)), (14, 96, (.bool (hasE F (a, b)))), (15, 97, (.pointer (some ⟨p2, 0, none⟩))), (16, 98, (.int .i64 a)), (17, 99, (.int .i64 b)), (18, 100, (.bool (hasE F (a, b)))), (19, 101, (.bool true)), (20, 102, (.bool true)), (21, 103, (.bool true)), (22, 104, (.pointer (some ⟨p1, 0, none⟩))), (23, 105, (.int .i64 a)), (24, 106, (.slice bs14 ((outs F a).length) cp15)), (25, 107, (.pointer (some ⟨p2, 0, none⟩))), (26, 108, (.int .i64 a)), (27, 109, (.slice bs18 ((outs F a).length) cp19)), (28, 110, (.bool true)), (29, 111, (.bool true)), (30, 112, (.bool true)), (31, 113, (.pointer (some ⟨p1, 0, none⟩))), (32, 114, (.int .i64 a)), (33, 115, (.slice bs22 ((inns F a).length) cp23)), (34, 116, (.pointer (some ⟨p2, 0, none⟩))), (35, 117, (.int .i64 a)), (36, 118, (.slice bs26 ((inns F a).length) cp27)), (37, 119, (.bool true)), (38, 120, (.bool true)), (39, 121, (.bool true)), (40, 122, (.pointer (some ⟨p1, 0, none⟩))), (41, 123, (.int .i64 a)), (42, 124, (.slice bs30 ((reachL M F a).length) cp31)), (43, 125, (.pointer (some ⟨p2, 0, none⟩))), (44, 126, (.int .i64 a)), (45, 127, (.slice bs34 ((reachL M F a).length) cp35)), (46, 128, (.bool true)), (47, 129, (.bool true)), (48, 130, (.bool true)), (49, 131, (.pointer (some ⟨p1, 0, none⟩))), (50, 132, (.int .i64 a)), (51, 133, (.int .i64 b)), (52, 134, (.bool (reachB M F a b))), (53, 135, (.int .i64 b)), (54, 136, (.bool true)), (55, 137, (.bool true)), (56, 138, (.int .i64 b)), (57, 139, (.pointer (some ⟨p2, 0, none⟩))), (58, 140, (.pointer (some ⟨p2, 0, none⟩))), (59, 141, (.pointer (some ⟨p2, 0, none⟩))), (60, 142, (.int .i64 ((M : Nat) : Int))), (61, 143, (.bool true)), (62, 144, (.bool true)), (63, 145, (.bool true)), (64, 146, (.pointer (some ⟨p2, 0, none⟩))), (65, 147, (.int .i64 a)), (66, 148, (.int .i64 b)), (67, 149, (.bool (reachB M F a b))), (68, 150, (.bool (reachB M F a b))), (69, 151, (.bool true)), (70, 152, (.bool true)), (71, 8, (.bool true))]) (fun (bs14, cp15, bs18, cp19, bs22, cp23, bs26, cp27, bs30, cp31, bs34, cp35) S => (Blk p2 [(.int .i64 ((M : Nat) : Int)), (.slice bs8 F.length cp9)] 46) :: (SlV 59 2 (.slice bs8 F.length cp9) F.length (pairs F)) :: (GraphO p1 M F) :: (bif S 24 then (SlV 3 1 (.slice bs14 ((outs F a).length) cp15) ((outs F a).length) (ints .i64 (outs F a))) else Emp) :: (bif S 27 then (SlV 3 1 (.slice bs18 ((outs F a).length) cp19) ((outs F a).length) (ints .i64 (outs F a))) else Emp) :: (bif S 33 then (SlV 3 1 (.slice bs22 ((inns F a).length) cp23) ((inns F a).length) (ints .i64 (inns F a))) else Emp) :: (bif S 36 then (SlV 3 1 (.slice bs26 ((inns F a).length) cp27) ((inns F a).length) (ints .i64 (inns F a))) else Emp) :: (bif S 42 then (SlV 3 1 (.slice bs30 ((reachL M F a).length) cp31) ((reachL M F a).length) (ints .i64 (reachL M F a))) else Emp) :: (bif S 45 then (SlV 3 1 (.slice bs34 ((reachL M F a).length) cp35) ((reachL M F a).length) (ints .i64 (reachL M F a))) else Emp) :: R) (none, 0, none, 0, none, 0, none, 0, none, 0, none, 0) (by simp [Nat.ble]) (fun _ h => sat_emps [_, _, _] 6 h) (fun _ _ h => h) ?_ ?_
         · -- steps
          refine ⟨?_, ?_, ?_, ?_, ?_, ?_, ?_, ?_, ?_, ?_, ?_, ?_, ?_, ?_, ?_, ?_, ?_, ?_, ?_, ?_, ?_, ?_, ?_, ?_, ?_, ?_, ?_, ?_, ?_, ?_, ?_, ?_, ?_, ?_, ?_, ?_, ?_, ?_, ?_, ?_, ?_, ?_, ?_, ?_, ?_, ?_, ?_, ?_, ?_, ?_, ?_, ?_, ?_, ?_, ?_, ?_, ?_, ?_, ?_, ?_, ?_, ?_, ?_, ?_, ?_, ?_, ?_, ?_, ?_, ?_, ?_, ?_, trivial⟩
          · -- 0
           rintro ⟨bs14, cp15, bs18, cp19, bs22, cp23, bs26, cp27, bs30, cp31, bs34, cp35⟩ S hF hS D hp K hK
           try dsimp only at hF ⊢
           obtain ⟨hf0, hf1, hf2, hf3, hf4, hf5, hf6, hf7, hf8, hf9, hf10, hf11⟩ := hF
           refine d_need (small := [(9, (.bool true))]) ⟨look_b rfl rfl, trivial⟩ ?_
           refine tp rfl (lv_move rfl) ?_
           exact d_closes ⟨look_b rfl rfl, trivial⟩ 0 rfl rfl rfl hS (AgreeR.refl _) (t_sat (fun _ h => h) (hK (bs14, cp15, bs18, cp19, bs22, cp23, bs26, cp27, bs30, cp31, bs34, cp35) ⟨hf0, hf1, hf2, hf3, hf4, hf5, hf6, hf7, hf8, hf9, hf10, hf11⟩))
          · -- 1
           rintro ⟨bs14, cp15, bs18, cp19, bs22, cp23, bs26, cp27, bs30, cp31, bs34, cp35⟩ S hF hS D hp K hK
           try dsimp only at hF ⊢
           obtain ⟨hf0, hf1, hf2, hf3, hf4, hf5, hf6, hf7, hf8, hf9, hf10, hf11⟩ := hF
           have s0 := hp 0 rfl
           refine d_need (small := [(82, (.bool true))]) ⟨look_row rfl 0 rfl s0, trivial⟩ ?_
           refine tp rfl (lv_move rfl) ?_
           exact d_closes ⟨look_row rfl 0 rfl s0, trivial⟩ 1 rfl rfl rfl hS (AgreeR.refl _) (t_sat (fun _ h => h) (hK (bs14, cp15, bs18, cp19, bs22, cp23, bs26, cp27, bs30, cp31, bs34, cp35) ⟨hf0, hf1, hf2, hf3, hf4, hf5, hf6, hf7, hf8, hf9, hf10, hf11⟩))
          · -- 2
           rintro ⟨bs14, cp15, bs18, cp19, bs22, cp23, bs26, cp27, bs30, cp31, bs34, cp35⟩ S hF hS D hp K hK
           try dsimp only at hF ⊢
           obtain ⟨hf0, hf1, hf2, hf3, hf4, hf5, hf6, hf7, hf8, hf9, hf10, hf11⟩ := hF
           have s1 := hp 1 rfl
           refine d_need (small := [(10, (.pointer (some ⟨p1, 0, none⟩))), (83, (.bool true))]) ⟨look_b rfl rfl, look_row rfl 1 rfl s1, trivial⟩ ?_
           refine t_guard rfl rfl ?_
           refine tp rfl (lv_move rfl) ?_
           exact d_closes ⟨look_b rfl rfl, look_row rfl 1 rfl s1, trivial⟩ 2 rfl rfl rfl hS (AgreeR.refl _) (t_sat (fun _ h => h) (hK (bs14, cp15, bs18, cp19, bs22, cp23, bs26, cp27, bs30, cp31, bs34, cp35) ⟨hf0, hf1, hf2, hf3, hf4, hf5, hf6, hf7, hf8, hf9, hf10, hf11⟩))
          · -- 3
           rintro ⟨bs14, cp15, bs18, cp19, bs22, cp23, bs26, cp27, bs30, cp31, bs34, cp35⟩ S hF hS D hp K hK
           try dsimp only at hF ⊢
           obtain ⟨hf0, hf1, hf2, hf3, hf4, hf5, hf6, hf7, hf8, hf9, hf10, hf11⟩ := hF
           have s1 := hp 1 rfl
           have s2 := hp 2 rfl
           refine d_need (small := [(83, (.bool true)), (84, (.pointer (some ⟨p1, 0, none⟩)))]) ⟨look_row rfl 1 rfl s1, look_row rfl 2 rfl s2, trivial⟩ ?_
           refine t_guard rfl rfl ?_
           refine t_f2 ?_
           refine tc rfl (en_fn Tryd.call18 rfl) (n_ok) ?_
           rintro _ _ ⟨rfl, rfl⟩
           refine t_f2 ?_
           refine t_f2 ?_
           exact d_closes ⟨look_row rfl 1 rfl s1, look_row rfl 2 rfl s2, trivial⟩ 3 rfl rfl rfl hS (AgreeR.refl _) (t_sat (fun _ h => h) (hK (bs14, cp15, bs18, cp19, bs22, cp23, bs26, cp27, bs30, cp31, bs34, cp35) ⟨hf0, hf1, hf2, hf3, hf4, hf5, hf6, hf7, hf8, hf9, hf10, hf11⟩))
          · -- 4
           rintro ⟨bs14, cp15, bs18, cp19, bs22, cp23, bs26, cp27, bs30, cp31, bs34, cp35⟩ S hF hS D hp K hK
           try dsimp only at hF ⊢
           obtain ⟨hf0, hf1, hf2, hf3, hf4, hf5, hf6, hf7, hf8, hf9, hf10, hf11⟩ := hF
           have s1 := hp 1 rfl
           refine d_need (small := [(11, (.pointer (some ⟨p2, 0, none⟩))), (83, (.bool true))]) ⟨look_b rfl rfl, look_row rfl 1 rfl s1, trivial⟩ ?_
           refine t_guard rfl rfl ?_
           refine tp rfl (lv_move rfl) ?_
           exact d_closes ⟨look_b rfl rfl, look_row rfl 1 rfl s1, trivial⟩ 4 rfl rfl rfl hS (AgreeR.refl _) (t_sat (fun _ h => h) (hK (bs14, cp15, bs18, cp19, bs22, cp23, bs26, cp27, bs30, cp31, bs34, cp35) ⟨hf0, hf1, hf2, hf3, hf4, hf5, hf6, hf7, hf8, hf9, hf10, hf11⟩))
          · -- 5
           rintro ⟨bs14, cp15, bs18, cp19, bs22, cp23, bs26, cp27, bs30, cp31, bs34, cp35⟩ S hF hS D hp K hK
           try dsimp only at hF ⊢
           obtain ⟨hf0, hf1, hf2, hf3, hf4, hf5, hf6, hf7, hf8, hf9, hf10, hf11⟩ := hF
           have s1 := hp 1 rfl
           have s4 := hp 4 rfl
           refine d_need (small := [(83, (.bool true)), (86, (.pointer (some ⟨p2, 0, none⟩)))]) ⟨look_row rfl 1 rfl s1, look_row rfl 4 rfl s4, trivial⟩ ?_
           refine t_guard rfl rfl ?_
           refine tp rfl (lv_nilCheck rfl) ?_
           exact d_closes ⟨look_row rfl 1 rfl s1, look_row rfl 4 rfl s4, trivial⟩ 5 rfl rfl rfl hS (AgreeR.refl _) (t_sat (fun _ h => h) (hK (bs14, cp15, bs18, cp19, bs22, cp23, bs26, cp27, bs30, cp31, bs34, cp35) ⟨hf0, hf1, hf2, hf3, hf4, hf5, hf6, hf7, hf8, hf9, hf10, hf11⟩))
          · -- 6
           rintro ⟨bs14, cp15, bs18, cp19, bs22, cp23, bs26, cp27, bs30, cp31, bs34, cp35⟩ S hF hS D hp K hK
           try dsimp only at hF ⊢
           obtain ⟨hf0, hf1, hf2, hf3, hf4, hf5, hf6, hf7, hf8, hf9, hf10, hf11⟩ := hF
           have s1 := hp 1 rfl
           have s5 := hp 5 rfl
           refine d_need (small := [(83, (.bool true)), (87, (.pointer (some ⟨p2, 0, none⟩)))]) ⟨look_row rfl 1 rfl s1, look_row rfl 5 rfl s5, trivial⟩ ?_
           refine t_guard rfl rfl ?_
           refine tp rfl (lv_fieldAddr (o' := 0) Tryd.underlying46 rfl Tryd.sizeOf3 rfl rfl) ?_
           exact d_closes ⟨look_row rfl 1 rfl s1, look_row rfl 5 rfl s5, trivial⟩ 6 rfl rfl rfl hS (AgreeR.refl _) (t_sat (fun _ h => h) (hK (bs14, cp15, bs18, cp19, bs22, cp23, bs26, cp27, bs30, cp31, bs34, cp35) ⟨hf0, hf1, hf2, hf3, hf4, hf5, hf6, hf7, hf8, hf9, hf10, hf11⟩))
          · -- 7
           rintro ⟨bs14, cp15, bs18, cp19, bs22, cp23, bs26, cp27, bs30, cp31, bs34, cp35⟩ S hF hS D hp K hK
           try dsimp only at hF ⊢
           obtain ⟨hf0, hf1, hf2, hf3, hf4, hf5, hf6, hf7, hf8, hf9, hf10, hf11⟩ := hF
           have s1 := hp 1 rfl
           have s6 := hp 6 rfl
           refine d_need (small := [(83, (.bool true)), (88, (.pointer (some ⟨p2, 0, none⟩)))]) ⟨look_row rfl 1 rfl s1, look_row rfl 6 rfl s6, trivial⟩ ?_
           refine t_guard rfl rfl ?_
           refine tp rfl (lv_load Tryd.isAgg3 rfl (gives_blk (.head _) rfl)) ?_
           exact d_closes ⟨look_row rfl 1 rfl s1, look_row rfl 6 rfl s6, trivial⟩ 7 rfl rfl rfl hS (AgreeR.refl _) (t_sat (fun _ h => h) (hK (bs14, cp15, bs18, cp19, bs22, cp23, bs26, cp27, bs30, cp31, bs34, cp35) ⟨hf0, hf1, hf2, hf3, hf4, hf5, hf6, hf7, hf8, hf9, hf10, hf11⟩))
          · -- 8
           rintro ⟨bs14, cp15, bs18, cp19, bs22, cp23, bs26, cp27, bs30, cp31, bs34, cp35⟩ S hF hS D hp K hK
           try dsimp only at hF ⊢
           obtain ⟨hf0, hf1, hf2, hf3, hf4, hf5, hf6, hf7, hf8, hf9, hf10, hf11⟩ := hF
           have s1 := hp 1 rfl
           have s3 := hp 3 rfl
           have s7 := hp 7 rfl
           refine d_need (small := [(83, (.bool true)), (85, (.int .i64 ((M : Nat) : Int))), (89, (.int .i64 ((M : Nat) : Int)))]) ⟨look_row rfl 1 rfl s1, look_row rfl 3 rfl s3, look_row rfl 7 rfl s7, trivial⟩ ?_
           refine t_guard rfl rfl ?_
           refine tp rfl (lv_eql rfl rfl (beq_iff_eq.2 rfl)) ?_
           exact d_closes ⟨look_row rfl 1 rfl s1, look_row rfl 3 rfl s3, look_row rfl 7 rfl s7, trivial⟩ 8 rfl rfl rfl hS (AgreeR.refl _) (t_sat (fun _ h => h) (hK (bs14, cp15, bs18, cp19, bs22, cp23, bs26, cp27, bs30, cp31, bs34, cp35) ⟨hf0, hf1, hf2, hf3, hf4, hf5, hf6, hf7, hf8, hf9, hf10, hf11⟩))
          · -- 9
           rintro ⟨bs14, cp15, bs18, cp19, bs22, cp23, bs26, cp27, bs30, cp31, bs34, cp35⟩ S hF hS D hp K hK
           try dsimp only at hF ⊢
           obtain ⟨hf0, hf1, hf2, hf3, hf4, hf5, hf6, hf7, hf8, hf9, hf10, hf11⟩ := hF
           have s1 := hp 1 rfl
           have s8 := hp 8 rfl
           refine d_need (small := [(83, (.bool true)), (90, (.bool true))]) ⟨look_row rfl 1 rfl s1, look_row rfl 8 rfl s8, trivial⟩ ?_
           refine tp rfl (lv_pick_t rfl rfl) ?_
           exact d_closes ⟨look_row rfl 1 rfl s1, look_row rfl 8 rfl s8, trivial⟩ 9 rfl rfl rfl hS (AgreeR.refl _) (t_sat (fun _ h => h) (hK (bs14, cp15, bs18, cp19, bs22, cp23, bs26, cp27, bs30, cp31, bs34, cp35) ⟨hf0, hf1, hf2, hf3, hf4, hf5, hf6, hf7, hf8, hf9, hf10, hf11⟩))
          · -- 10
           rintro ⟨bs14, cp15, bs18, cp19, bs22, cp23, bs26, cp27, bs30, cp31, bs34, cp35⟩ S hF hS D hp K hK
           try dsimp only at hF ⊢
           obtain ⟨hf0, hf1, hf2, hf3, hf4, hf5, hf6, hf7, hf8, hf9, hf10, hf11⟩ := hF
           have s9 := hp 9 rfl
           refine d_need (small := [(91, (.bool true))]) ⟨look_row rfl 9 rfl s9, trivial⟩ ?_
           refine tp rfl (lv_move rfl) ?_
           exact d_closes ⟨look_row rfl 9 rfl s9, trivial⟩ 10 rfl rfl rfl hS (AgreeR.refl _) (t_sat (fun _ h => h) (hK (bs14, cp15, bs18, cp19, bs22, cp23, bs26, cp27, bs30, cp31, bs34, cp35) ⟨hf0, hf1, hf2, hf3, hf4, hf5, hf6, hf7, hf8, hf9, hf10, hf11⟩))
          · -- 11
           rintro ⟨bs14, cp15, bs18, cp19, bs22, cp23, bs26, cp27, bs30, cp31, bs34, cp35⟩ S hF hS D hp K hK
           try dsimp only at hF ⊢
           obtain ⟨hf0, hf1, hf2, hf3, hf4, hf5, hf6, hf7, hf8, hf9, hf10, hf11⟩ := hF
           have s10 := hp 10 rfl
           refine d_need (small := [(10, (.pointer (some ⟨p1, 0, none⟩))), (92, (.bool true))]) ⟨look_b rfl rfl, look_row rfl 10 rfl s10, trivial⟩ ?_
           refine t_guard rfl rfl ?_
           refine tp rfl (lv_move rfl) ?_
           exact d_closes ⟨look_b rfl rfl, look_row rfl 10 rfl s10, trivial⟩ 11 rfl rfl rfl hS (AgreeR.refl _) (t_sat (fun _ h => h) (hK (bs14, cp15, bs18, cp19, bs22, cp23, bs26, cp27, bs30, cp31, bs34, cp35) ⟨hf0, hf1, hf2, hf3, hf4, hf5, hf6, hf7, hf8, hf9, hf10, hf11⟩))
          · -- 12
           rintro ⟨bs14, cp15, bs18, cp19, bs22, cp23, bs26, cp27, bs30, cp31, bs34, cp35⟩ S hF hS D hp K hK
           try dsimp only at hF ⊢
           obtain ⟨hf0, hf1, hf2, hf3, hf4, hf5, hf6, hf7, hf8, hf9, hf10, hf11⟩ := hF
           have s10 := hp 10 rfl
           refine d_need (small := [(2, (.int .i64 a)), (92, (.bool true))]) ⟨look_b rfl rfl, look_row rfl 10 rfl s10, trivial⟩ ?_
           refine t_guard rfl rfl ?_
           refine tp rfl (lv_move rfl) ?_
           exact d_closes ⟨look_b rfl rfl, look_row rfl 10 rfl s10, trivial⟩ 12 rfl rfl rfl hS (AgreeR.refl _) (t_sat (fun _ h => h) (hK (bs14, cp15, bs18, cp19, bs22, cp23, bs26, cp27, bs30, cp31, bs34, cp35) ⟨hf0, hf1, hf2, hf3, hf4, hf5, hf6, hf7, hf8, hf9, hf10, hf11⟩))
          · -- 13
           rintro ⟨bs14, cp15, bs18, cp19, bs22, cp23, bs26, cp27, bs30, cp31, bs34, cp35⟩ S hF hS D hp K hK
           try dsimp only at hF ⊢
           obtain ⟨hf0, hf1, hf2, hf3, hf4, hf5, hf6, hf7, hf8, hf9, hf10, hf11⟩ := hF
           have s10 := hp 10 rfl
           refine d_need (small := [(3, (.int .i64 b)), (92, (.bool true))]) ⟨look_b rfl rfl, look_row rfl 10 rfl s10, trivial⟩ ?_
           refine t_guard rfl rfl ?_
           refine tp rfl (lv_move rfl) ?_
           exact d_closes ⟨look_b rfl rfl, look_row rfl 10 rfl s10, trivial⟩ 13 rfl rfl rfl hS (AgreeR.refl _) (t_sat (fun _ h => h) (hK (bs14, cp15, bs18, cp19, bs22, cp23, bs26, cp27, bs30, cp31, bs34, cp35) ⟨hf0, hf1, hf2, hf3, hf4, hf5, hf6, hf7, hf8, hf9, hf10, hf11⟩))
          · -- 14
           rintro ⟨bs14, cp15, bs18, cp19, bs22, cp23, bs26, cp27, bs30, cp31, bs34, cp35⟩ S hF hS D hp K hK
           try dsimp only at hF ⊢
           obtain ⟨hf0, hf1, hf2, hf3, hf4, hf5, hf6, hf7, hf8, hf9, hf10, hf11⟩ := hF
           have s10 := hp 10 rfl
           have s11 := hp 11 rfl
           have s12 := hp 12 rfl
           have s13 := hp 13 rfl
           refine d_need (small := [(92, (.bool true)), (93, (.pointer (some ⟨p1, 0, none⟩))), (94, (.int .i64 a)), (95, (.int .i64 b))]) ⟨look_row rfl 10 rfl s10, look_row rfl 11 rfl s11, look_row rfl 12 rfl s12, look_row rfl 13 rfl s13, trivial⟩ ?_
           refine t_guard rfl rfl ?_
           refine t_f2 ?_
           refine tc rfl (en_fn Tryd.call17 rfl) (hasE_ok (N := M) (es := F) a b) ?_
           rintro _ _ ⟨rfl, rfl⟩
           refine t_f2 ?_
           refine t_f2 ?_
           exact d_closes ⟨look_row rfl 10 rfl s10, look_row rfl 11 rfl s11, look_row rfl 12 rfl s12, look_row rfl 13 rfl s13, trivial⟩ 14 rfl rfl rfl hS (AgreeR.refl _) (t_sat (fun _ h => h) (hK (bs14, cp15, bs18, cp19, bs22, cp23, bs26, cp27, bs30, cp31, bs34, cp35) ⟨hf0, hf1, hf2, hf3, hf4, hf5, hf6, hf7, hf8, hf9, hf10, hf11⟩))
          · -- 15
           rintro ⟨bs14, cp15, bs18, cp19, bs22, cp23, bs26, cp27, bs30, cp31, bs34, cp35⟩ S hF hS D hp K hK
           try dsimp only at hF ⊢
           obtain ⟨hf0, hf1, hf2, hf3, hf4, hf5, hf6, hf7, hf8, hf9, hf10, hf11⟩ := hF
           have s10 := hp 10 rfl
           refine d_need (small := [(11, (.pointer (some ⟨p2, 0, none⟩))), (92, (.bool true))]) ⟨look_b rfl rfl, look_row rfl 10 rfl s10, trivial⟩ ?_
           refine t_guard rfl rfl ?_
           refine tp rfl (lv_move rfl) ?_
           exact d_closes ⟨look_b rfl rfl, look_row rfl 10 rfl s10, trivial⟩ 15 rfl rfl rfl hS (AgreeR.refl _) (t_sat (fun _ h => h) (hK (bs14, cp15, bs18, cp19, bs22, cp23, bs26, cp27, bs30, cp31, bs34, cp35) ⟨hf0, hf1, hf2, hf3, hf4, hf5, hf6, hf7, hf8, hf9, hf10, hf11⟩))
          · -- 16
           rintro ⟨bs14, cp15, bs18, cp19, bs22, cp23, bs26, cp27, bs30, cp31, bs34, cp35⟩ S hF hS D hp K hK
           try dsimp only at hF ⊢
           obtain ⟨hf0, hf1, hf2, hf3, hf4, hf5, hf6, hf7, hf8, hf9, hf10, hf11⟩ := hF
           have s10 := hp 10 rfl
           refine d_need (small := [(2, (.int .i64 a)), (92, (.bool true))]) ⟨look_b rfl rfl, look_row rfl 10 rfl s10, trivial⟩ ?_
           refine t_guard rfl rfl ?_
           refine tp rfl (lv_move rfl) ?_
           exact d_closes ⟨look_b rfl rfl, look_row rfl 10 rfl s10, trivial⟩ 16 rfl rfl rfl hS (AgreeR.refl _) (t_sat (fun _ h => h) (hK (bs14, cp15, bs18, cp19, bs22, cp23, bs26, cp27, bs30, cp31, bs34, cp35) ⟨hf0, hf1, hf2, hf3, hf4, hf5, hf6, hf7, hf8, hf9, hf10, hf11⟩))
          · -- 17
           rintro ⟨bs14, cp15, bs18, cp19, bs22, cp23, bs26, cp27, bs30, cp31, bs34, cp35⟩ S hF hS D hp K hK
           try dsimp only at hF ⊢
           obtain ⟨hf0, hf1, hf2, hf3, hf4, hf5, hf6, hf7, hf8, hf9, hf10, hf11⟩ := hF
           have s10 := hp 10 rfl
           refine d_need (small := [(3, (.int .i64 b)), (92, (.bool true))]) ⟨look_b rfl rfl, look_row rfl 10 rfl s10, trivial⟩ ?_
           refine t_guard rfl rfl ?_
           refine tp rfl (lv_move rfl) ?_
           exact d_closes ⟨look_b rfl rfl, look_row rfl 10 rfl s10, trivial⟩ 17 rfl rfl rfl hS (AgreeR.refl _) (t_sat (fun _ h => h) (hK (bs14, cp15, bs18, cp19, bs22, cp23, bs26, cp27, bs30, cp31, bs34, cp35) ⟨hf0, hf1, hf2, hf3, hf4, hf5, hf6, hf7, hf8, hf9, hf10, hf11⟩))
          · -- 18
           rintro ⟨bs14, cp15, bs18, cp19, bs22, cp23, bs26, cp27, bs30, cp31, bs34, cp35⟩ S hF hS D hp K hK
           try dsimp only at hF ⊢
           obtain ⟨hf0, hf1, hf2, hf3, hf4, hf5, hf6, hf7, hf8, hf9, hf10, hf11⟩ := hF
           have s10 := hp 10 rfl
           have s15 := hp 15 rfl
           have s16 := hp 16 rfl
           have s17 := hp 17 rfl
           refine d_need (small := [(92, (.bool true)), (97, (.pointer (some ⟨p2, 0, none⟩))), (98, (.int .i64 a)), (99, (.int .i64 b))]) ⟨look_row rfl 10 rfl s10, look_row rfl 15 rfl s15, look_row rfl 16 rfl s16, look_row rfl 17 rfl s17, trivial⟩ ?_
           refine t_guard rfl rfl ?_
           refine t_f1 ?_
           refine t_f1 ?_
           refine tc rfl (en_fn Tryd.call24 rfl) (rhas_ok (N := M) (es := F) a b hok10 hE) ?_
           rintro _ _ ⟨rfl, rfl⟩
           exact d_closes ⟨look_row rfl 10 rfl s10, look_row rfl 15 rfl s15, look_row rfl 16 rfl s16, look_row rfl 17 rfl s17, trivial⟩ 18 rfl rfl rfl hS (AgreeR.refl _) (t_sat (fun _ h => h) (hK (bs14, cp15, bs18, cp19, bs22, cp23, bs26, cp27, bs30, cp31, bs34, cp35) ⟨hf0, hf1, hf2, hf3, hf4, hf5, hf6, hf7, hf8, hf9, hf10, hf11⟩))
          · -- 19
           rintro ⟨bs14, cp15, bs18, cp19, bs22, cp23, bs26, cp27, bs30, cp31, bs34, cp35⟩ S hF hS D hp K hK
           try dsimp only at hF ⊢
           obtain ⟨hf0, hf1, hf2, hf3, hf4, hf5, hf6, hf7, hf8, hf9, hf10, hf11⟩ := hF
           have s10 := hp 10 rfl
           have s14 := hp 14 rfl
           have s18 := hp 18 rfl
           refine d_need (small := [(92, (.bool true)), (96, (.bool (hasE F (a, b)))), (100, (.bool (hasE F (a, b))))]) ⟨look_row rfl 10 rfl s10, look_row rfl 14 rfl s14, look_row rfl 18 rfl s18, trivial⟩ ?_
           refine t_guard rfl rfl ?_
           refine tp rfl (lv_eqb Tryd.underlying4 rfl rfl (beq_self_eq_true _)) ?_
           exact d_closes ⟨look_row rfl 10 rfl s10, look_row rfl 14 rfl s14, look_row rfl 18 rfl s18, trivial⟩ 19 rfl rfl rfl hS (AgreeR.refl _) (t_sat (fun _ h => h) (hK (bs14, cp15, bs18, cp19, bs22, cp23, bs26, cp27, bs30, cp31, bs34, cp35) ⟨hf0, hf1, hf2, hf3, hf4, hf5, hf6, hf7, hf8, hf9, hf10, hf11⟩))
          · -- 20
           rintro ⟨bs14, cp15, bs18, cp19, bs22, cp23, bs26, cp27, bs30, cp31, bs34, cp35⟩ S hF hS D hp K hK
           try dsimp only at hF ⊢
           obtain ⟨hf0, hf1, hf2, hf3, hf4, hf5, hf6, hf7, hf8, hf9, hf10, hf11⟩ := hF
           have s10 := hp 10 rfl
           have s19 := hp 19 rfl
           refine d_need (small := [(92, (.bool true)), (101, (.bool true))]) ⟨look_row rfl 10 rfl s10, look_row rfl 19 rfl s19, trivial⟩ ?_
           refine tp rfl (lv_pick_t rfl rfl) ?_
           exact d_closes ⟨look_row rfl 10 rfl s10, look_row rfl 19 rfl s19, trivial⟩ 20 rfl rfl rfl hS (AgreeR.refl _) (t_sat (fun _ h => h) (hK (bs14, cp15, bs18, cp19, bs22, cp23, bs26, cp27, bs30, cp31, bs34, cp35) ⟨hf0, hf1, hf2, hf3, hf4, hf5, hf6, hf7, hf8, hf9, hf10, hf11⟩))
          · -- 21
           rintro ⟨bs14, cp15, bs18, cp19, bs22, cp23, bs26, cp27, bs30, cp31, bs34, cp35⟩ S hF hS D hp K hK
           try dsimp only at hF ⊢
           obtain ⟨hf0, hf1, hf2, hf3, hf4, hf5, hf6, hf7, hf8, hf9, hf10, hf11⟩ := hF
           have s20 := hp 20 rfl
           refine d_need (small := [(102, (.bool true))]) ⟨look_row rfl 20 rfl s20, trivial⟩ ?_
           refine tp rfl (lv_move rfl) ?_
           exact d_closes ⟨look_row rfl 20 rfl s20, trivial⟩ 21 rfl rfl rfl hS (AgreeR.refl _) (t_sat (fun _ h => h) (hK (bs14, cp15, bs18, cp19, bs22, cp23, bs26, cp27, bs30, cp31, bs34, cp35) ⟨hf0, hf1, hf2, hf3, hf4, hf5, hf6, hf7, hf8, hf9, hf10, hf11⟩))
          · -- 22
           rintro ⟨bs14, cp15, bs18, cp19, bs22, cp23, bs26, cp27, bs30, cp31, bs34, cp35⟩ S hF hS D hp K hK
           try dsimp only at hF ⊢
           obtain ⟨hf0, hf1, hf2, hf3, hf4, hf5, hf6, hf7, hf8, hf9, hf10, hf11⟩ := hF
           have s21 := hp 21 rfl
           refine d_need (small := [(10, (.pointer (some ⟨p1, 0, none⟩))), (103, (.bool true))]) ⟨look_b rfl rfl, look_row rfl 21 rfl s21, trivial⟩ ?_
           refine t_guard rfl rfl ?_
           refine tp rfl (lv_move rfl) ?_
           exact d_closes ⟨look_b rfl rfl, look_row rfl 21 rfl s21, trivial⟩ 22 rfl rfl rfl hS (AgreeR.refl _) (t_sat (fun _ h => h) (hK (bs14, cp15, bs18, cp19, bs22, cp23, bs26, cp27, bs30, cp31, bs34, cp35) ⟨hf0, hf1, hf2, hf3, hf4, hf5, hf6, hf7, hf8, hf9, hf10, hf11⟩))
          · -- 23
           rintro ⟨bs14, cp15, bs18, cp19, bs22, cp23, bs26, cp27, bs30, cp31, bs34, cp35⟩ S hF hS D hp K hK
           try dsimp only at hF ⊢
           obtain ⟨hf0, hf1, hf2, hf3, hf4, hf5, hf6, hf7, hf8, hf9, hf10, hf11⟩ := hF
           have s21 := hp 21 rfl
           refine d_need (small := [(2, (.int .i64 a)), (103, (.bool true))]) ⟨look_b rfl rfl, look_row rfl 21 rfl s21, trivial⟩ ?_
           refine t_guard rfl rfl ?_
           refine tp rfl (lv_move rfl) ?_
           exact d_closes ⟨look_b rfl rfl, look_row rfl 21 rfl s21, trivial⟩ 23 rfl rfl rfl hS (AgreeR.refl _) (t_sat (fun _ h => h) (hK (bs14, cp15, bs18, cp19, bs22, cp23, bs26, cp27, bs30, cp31, bs34, cp35) ⟨hf0, hf1, hf2, hf3, hf4, hf5, hf6, hf7, hf8, hf9, hf10, hf11⟩))
          · -- 24
           rintro ⟨bs14, cp15, bs18, cp19, bs22, cp23, bs26, cp27, bs30, cp31, bs34, cp35⟩ S hF hS D hp K hK
           try dsimp only at hF ⊢
           obtain ⟨hf0, hf1, hf2, hf3, hf4, hf5, hf6, hf7, hf8, hf9, hf10, hf11⟩ := hF
           have s21 := hp 21 rfl
           have s22 := hp 22 rfl
           have s23 := hp 23 rfl
           refine d_need (small := [(103, (.bool true)), (104, (.pointer (some ⟨p1, 0, none⟩))), (105, (.int .i64 a))]) ⟨look_row rfl 21 rfl s21, look_row rfl 22 rfl s22, look_row rfl 23 rfl s23, trivial⟩ ?_
           refine t_guard rfl rfl ?_
           refine t_f2 ?_
           refine tc rfl (en_fn Tryd.call19 rfl) (out_ok (N := M) (es := F) a) ?_
           rintro _ _ ⟨bs14, cp15, hok16, hle17, rfl, rfl⟩
           refine t_f1 ?_
           refine t_f3 ?_
           refine t_f3 ?_
           refine t_f3 ?_
           refine t_sat (fun _ h => sat_put [_, _, _] h) ?_
           exact d_closes ⟨look_row rfl 21 rfl s21, look_row rfl 22 rfl s22, look_row rfl 23 rfl s23, trivial⟩ 24 rfl rfl rfl hS (by exact ⟨.inl rfl, .inl rfl, .inl rfl, .inl rfl, .inl rfl, .inl rfl, .inl rfl, .inl rfl, .inl rfl, .inl rfl, .inl rfl, .inl rfl, .inl rfl, .inl rfl, .inl rfl, .inl rfl, .inl rfl, .inl rfl, .inl rfl, .inl rfl, .inl rfl, .inl rfl, .inl rfl, .inl rfl, .inr ⟨rfl, rfl, hS⟩, .inl rfl, .inl rfl, .inl rfl, .inl rfl, .inl rfl, .inl rfl, .inl rfl, .inl rfl, .inl rfl, .inl rfl, .inl rfl, .inl rfl, .inl rfl, .inl rfl, .inl rfl, .inl rfl, .inl rfl, .inl rfl, .inl rfl, .inl rfl, .inl rfl, .inl rfl, .inl rfl, .inl rfl, .inl rfl, .inl rfl, .inl rfl, .inl rfl, .inl rfl, .inl rfl, .inl rfl, .inl rfl, .inl rfl, .inl rfl, .inl rfl, .inl rfl, .inl rfl, .inl rfl, .inl rfl, .inl rfl, .inl rfl, .inl rfl, .inl rfl, .inl rfl, .inl rfl, .inl rfl, .inl rfl, trivial⟩) (t_sat (fun _ h => h) (hK (bs14, cp15, bs18, cp19, bs22, cp23, bs26, cp27, bs30, cp31, bs34, cp35) ⟨(fun _ => hok16), (fun _ => hle17), hf2, hf3, hf4, hf5, hf6, hf7, hf8, hf9, hf10, hf11⟩))
          · -- 25
           rintro ⟨bs14, cp15, bs18, cp19, bs22, cp23, bs26, cp27, bs30, cp31, bs34, cp35⟩ S hF hS D hp K hK
           try dsimp only at hF ⊢
           obtain ⟨hf0, hf1, hf2, hf3, hf4, hf5, hf6, hf7, hf8, hf9, hf10, hf11⟩ := hF
           have s21 := hp 21 rfl
           refine d_need (small := [(11, (.pointer (some ⟨p2, 0, none⟩))), (103, (.bool true))]) ⟨look_b rfl rfl, look_row rfl 21 rfl s21, trivial⟩ ?_
           refine t_guard rfl rfl ?_
           refine tp rfl (lv_move rfl) ?_
           exact d_closes ⟨look_b rfl rfl, look_row rfl 21 rfl s21, trivial⟩ 25 rfl rfl rfl hS (AgreeR.refl _) (t_sat (fun _ h => h) (hK (bs14, cp15, bs18, cp19, bs22, cp23, bs26, cp27, bs30, cp31, bs34, cp35) ⟨hf0, hf1, hf2, hf3, hf4, hf5, hf6, hf7, hf8, hf9, hf10, hf11⟩))
          · -- 26
           rintro ⟨bs14, cp15, bs18, cp19, bs22, cp23, bs26, cp27, bs30, cp31, bs34, cp35⟩ S hF hS D hp K hK
           try dsimp only at hF ⊢
           obtain ⟨hf0, hf1, hf2, hf3, hf4, hf5, hf6, hf7, hf8, hf9, hf10, hf11⟩ := hF
           have s21 := hp 21 rfl
           refine d_need (small := [(2, (.int .i64 a)), (103, (.bool true))]) ⟨look_b rfl rfl, look_row rfl 21 rfl s21, trivial⟩ ?_
           refine t_guard rfl rfl ?_
           refine tp rfl (lv_move rfl) ?_
           exact d_closes ⟨look_b rfl rfl, look_row rfl 21 rfl s21, trivial⟩ 26 rfl rfl rfl hS (AgreeR.refl _) (t_sat (fun _ h => h) (hK (bs14, cp15, bs18, cp19, bs22, cp23, bs26, cp27, bs30, cp31, bs34, cp35) ⟨hf0, hf1, hf2, hf3, hf4, hf5, hf6, hf7, hf8, hf9, hf10, hf11⟩))
          · -- 27
           rintro ⟨bs14, cp15, bs18, cp19, bs22, cp23, bs26, cp27, bs30, cp31, bs34, cp35⟩ S hF hS D hp K hK
           try dsimp only at hF ⊢
           obtain ⟨hf0, hf1, hf2, hf3, hf4, hf5, hf6, hf7, hf8, hf9, hf10, hf11⟩ := hF
           have s24 := hp 24 rfl
           have hok16 := hf0 s24
           have hle17 := hf1 s24
           have s21 := hp 21 rfl
           have s25 := hp 25 rfl
           have s26 := hp 26 rfl
           refine d_need (small := [(103, (.bool true)), (107, (.pointer (some ⟨p2, 0, none⟩))), (108, (.int .i64 a))]) ⟨look_row rfl 21 rfl s21, look_row rfl 25 rfl s25, look_row rfl 26 rfl s26, trivial⟩ ?_
           refine t_guard rfl rfl ?_
           refine t_f1 ?_
           refine t_f1 ?_
           refine tc rfl (en_fn Tryd.call25 rfl) (rout_ok (N := M) (es := F) a hok10 hE) ?_
           rintro _ _ ⟨bs18, cp19, hok20, hle21, rfl, rfl⟩
           refine t_sat (fun _ h => sat_put [_, _, _, _] h) ?_
           exact d_closes ⟨look_row rfl 21 rfl s21, look_row rfl 25 rfl s25, look_row rfl 26 rfl s26, trivial⟩ 27 rfl rfl rfl hS (by exact ⟨.inl rfl, .inl rfl, .inl rfl, .inl rfl, .inl rfl, .inl rfl, .inl rfl, .inl rfl, .inl rfl, .inl rfl, .inl rfl, .inl rfl, .inl rfl, .inl rfl, .inl rfl, .inl rfl, .inl rfl, .inl rfl, .inl rfl, .inl rfl, .inl rfl, .inl rfl, .inl rfl, .inl rfl, .inl rfl, .inl rfl, .inl rfl, .inr ⟨rfl, rfl, hS⟩, .inl rfl, .inl rfl, .inl rfl, .inl rfl, .inl rfl, .inl rfl, .inl rfl, .inl rfl, .inl rfl, .inl rfl, .inl rfl, .inl rfl, .inl rfl, .inl rfl, .inl rfl, .inl rfl, .inl rfl, .inl rfl, .inl rfl, .inl rfl, .inl rfl, .inl rfl, .inl rfl, .inl rfl, .inl rfl, .inl rfl, .inl rfl, .inl rfl, .inl rfl, .inl rfl, .inl rfl, .inl rfl, .inl rfl, .inl rfl, .inl rfl, .inl rfl, .inl rfl, .inl rfl, .inl rfl, .inl rfl, .inl rfl, .inl rfl, .inl rfl, .inl rfl, trivial⟩) (t_sat (fun _ h => h) (hK (bs14, cp15, bs18, cp19, bs22, cp23, bs26, cp27, bs30, cp31, bs34, cp35) ⟨hf0, hf1, (fun _ => hok20), (fun _ => hle21), hf4, hf5, hf6, hf7, hf8, hf9, hf10, hf11⟩))
          · -- 28
           rintro ⟨bs14, cp15, bs18, cp19, bs22, cp23, bs26, cp27, bs30, cp31, bs34, cp35⟩ S hF hS D hp K hK
           try dsimp only at hF ⊢
           obtain ⟨hf0, hf1, hf2, hf3, hf4, hf5, hf6, hf7, hf8, hf9, hf10, hf11⟩ := hF
           have s24 := hp 24 rfl
           have hok16 := hf0 s24
           have hle17 := hf1 s24
           have s27 := hp 27 rfl
           have hok20 := hf2 s27
           have hle21 := hf3 s27
           have s21 := hp 21 rfl
           refine d_need (small := [(103, (.bool true)), (106, (.slice bs14 ((outs F a).length) cp15)), (109, (.slice bs18 ((outs F a).length) cp19))]) ⟨look_row rfl 21 rfl s21, look_row rfl 24 rfl s24, look_row rfl 27 rfl s27, trivial⟩ ?_
           refine t_f3 ?_
           refine t_cT s24 ?_
           refine t_f4 ?_
           refine t_cT s27 ?_
           refine t_guard rfl rfl ?_
           refine tc rfl (en_fn Tryd.call21 rfl) (ints_ok (outs F a) (outs F a) (rd_sl (.tail _ (.head _))) (rd_sl (.head _)) hok16 hok20 (by first | omega | (simp; done) | (simp; omega)) (by first | omega | (simp; done) | (simp; omega))) ?_
           rintro _ _ ⟨rfl, rfl⟩
           rw [show eqI (outs F a) (outs F a) = true from (eqI_refl _)]
           refine t_f1 ?_
           refine t_wT (B := Emp) s24 ?_
           refine t_f1 ?_
           refine t_wT (B := Emp) s27 ?_
           refine t_f1 ?_
           refine t_f4 ?_
           refine t_f4 ?_
           refine t_f4 ?_
           exact d_closes ⟨look_row rfl 21 rfl s21, look_row rfl 24 rfl s24, look_row rfl 27 rfl s27, trivial⟩ 28 rfl rfl rfl hS (AgreeR.refl _) (t_sat (fun _ h => h) (hK (bs14, cp15, bs18, cp19, bs22, cp23, bs26, cp27, bs30, cp31, bs34, cp35) ⟨hf0, hf1, hf2, hf3, hf4, hf5, hf6, hf7, hf8, hf9, hf10, hf11⟩))
          · -- 29
           rintro ⟨bs14, cp15, bs18, cp19, bs22, cp23, bs26, cp27, bs30, cp31, bs34, cp35⟩ S hF hS D hp K hK
           try dsimp only at hF ⊢
           obtain ⟨hf0, hf1, hf2, hf3, hf4, hf5, hf6, hf7, hf8, hf9, hf10, hf11⟩ := hF
           have s21 := hp 21 rfl
           have s28 := hp 28 rfl
           refine d_need (small := [(103, (.bool true)), (110, (.bool true))]) ⟨look_row rfl 21 rfl s21, look_row rfl 28 rfl s28, trivial⟩ ?_
           refine tp rfl (lv_pick_t rfl rfl) ?_
           exact d_closes ⟨look_row rfl 21 rfl s21, look_row rfl 28 rfl s28, trivial⟩ 29 rfl rfl rfl hS (AgreeR.refl _) (t_sat (fun _ h => h) (hK (bs14, cp15, bs18, cp19, bs22, cp23, bs26, cp27, bs30, cp31, bs34, cp35) ⟨hf0, hf1, hf2, hf3, hf4, hf5, hf6, hf7, hf8, hf9, hf10, hf11⟩))
          · -- 30
           rintro ⟨bs14, cp15, bs18, cp19, bs22, cp23, bs26, cp27, bs30, cp31, bs34, cp35⟩ S hF hS D hp K hK
           try dsimp only at hF ⊢
           obtain ⟨hf0, hf1, hf2, hf3, hf4, hf5, hf6, hf7, hf8, hf9, hf10, hf11⟩ := hF
           have s29 := hp 29 rfl
           refine d_need (small := [(111, (.bool true))]) ⟨look_row rfl 29 rfl s29, trivial⟩ ?_
           refine tp rfl (lv_move rfl) ?_
           exact d_closes ⟨look_row rfl 29 rfl s29, trivial⟩ 30 rfl rfl rfl hS (AgreeR.refl _) (t_sat (fun _ h => h) (hK (bs14, cp15, bs18, cp19, bs22, cp23, bs26, cp27, bs30, cp31, bs34, cp35) ⟨hf0, hf1, hf2, hf3, hf4, hf5, hf6, hf7, hf8, hf9, hf10, hf11⟩))
          · -- 31
           rintro ⟨bs14, cp15, bs18, cp19, bs22, cp23, bs26, cp27, bs30, cp31, bs34, cp35⟩ S hF hS D hp K hK
           try dsimp only at hF ⊢
           obtain ⟨hf0, hf1, hf2, hf3, hf4, hf5, hf6, hf7, hf8, hf9, hf10, hf11⟩ := hF
           have s30 := hp 30 rfl
           refine d_need (small := [(10, (.pointer (some ⟨p1, 0, none⟩))), (112, (.bool true))]) ⟨look_b rfl rfl, look_row rfl 30 rfl s30, trivial⟩ ?_
           refine t_guard rfl rfl ?_
           refine tp rfl (lv_move rfl) ?_
           exact d_closes ⟨look_b rfl rfl, look_row rfl 30 rfl s30, trivial⟩ 31 rfl rfl rfl hS (AgreeR.refl _) (t_sat (fun _ h => h) (hK (bs14, cp15, bs18, cp19, bs22, cp23, bs26, cp27, bs30, cp31, bs34, cp35) ⟨hf0, hf1, hf2, hf3, hf4, hf5, hf6, hf7, hf8, hf9, hf10, hf11⟩))
          · -- 32
           rintro ⟨bs14, cp15, bs18, cp19, bs22, cp23, bs26, cp27, bs30, cp31, bs34, cp35⟩ S hF hS D hp K hK
           try dsimp only at hF ⊢
           obtain ⟨hf0, hf1, hf2, hf3, hf4, hf5, hf6, hf7, hf8, hf9, hf10, hf11⟩ := hF
           have s30 := hp 30 rfl
           refine d_need (small := [(2, (.int .i64 a)), (112, (.bool true))]) ⟨look_b rfl rfl, look_row rfl 30 rfl s30, trivial⟩ ?_
           refine t_guard rfl rfl ?_
           refine tp rfl (lv_move rfl) ?_
           exact d_closes ⟨look_b rfl rfl, look_row rfl 30 rfl s30, trivial⟩ 32 rfl rfl rfl hS (AgreeR.refl _) (t_sat (fun _ h => h) (hK (bs14, cp15, bs18, cp19, bs22, cp23, bs26, cp27, bs30, cp31, bs34, cp35) ⟨hf0, hf1, hf2, hf3, hf4, hf5, hf6, hf7, hf8, hf9, hf10, hf11⟩))
          · -- 33
           rintro ⟨bs14, cp15, bs18, cp19, bs22, cp23, bs26, cp27, bs30, cp31, bs34, cp35⟩ S hF hS D hp K hK
           try dsimp only at hF ⊢
           obtain ⟨hf0, hf1, hf2, hf3, hf4, hf5, hf6, hf7, hf8, hf9, hf10, hf11⟩ := hF
           have s32 := hp 32 rfl
           have s30 := D 32 30 rfl s32
           have s29 := D 30 29 rfl s30
           have s28 := D 29 28 rfl s29
           have s24 := D 28 24 rfl s28
           have hok16 := hf0 s24
           have hle17 := hf1 s24
           have s27 := D 28 27 rfl s28
           have hok20 := hf2 s27
           have hle21 := hf3 s27
           have s31 := hp 31 rfl
           refine d_need (small := [(112, (.bool true)), (113, (.pointer (some ⟨p1, 0, none⟩))), (114, (.int .i64 a))]) ⟨look_row rfl 30 rfl s30, look_row rfl 31 rfl s31, look_row rfl 32 rfl s32, trivial⟩ ?_
           refine t_guard rfl rfl ?_
           refine t_f2 ?_
           refine tc rfl (en_fn Tryd.call20 rfl) (in_ok (N := M) (es := F) a) ?_
           rintro _ _ ⟨bs22, cp23, hok24, hle25, rfl, rfl⟩
           refine t_f1 ?_
           refine t_f3 ?_
           refine t_f3 ?_
           refine t_f3 ?_
           refine t_sat (fun _ h => sat_put [_, _, _, _, _] h) ?_
           exact d_closes ⟨look_row rfl 30 rfl s30, look_row rfl 31 rfl s31, look_row rfl 32 rfl s32, trivial⟩ 33 rfl rfl rfl hS (by exact ⟨.inl rfl, .inl rfl, .inl rfl, .inl rfl, .inl rfl, .inl rfl, .inl rfl, .inl rfl, .inl rfl, .inl rfl, .inl rfl, .inl rfl, .inl rfl, .inl rfl, .inl rfl, .inl rfl, .inl rfl, .inl rfl, .inl rfl, .inl rfl, .inl rfl, .inl rfl, .inl rfl, .inl rfl, .inl rfl, .inl rfl, .inl rfl, .inl rfl, .inl rfl, .inl rfl, .inl rfl, .inl rfl, .inl rfl, .inr ⟨rfl, rfl, hS⟩, .inl rfl, .inl rfl, .inl rfl, .inl rfl, .inl rfl, .inl rfl, .inl rfl, .inl rfl, .inl rfl, .inl rfl, .inl rfl, .inl rfl, .inl rfl, .inl rfl, .inl rfl, .inl rfl, .inl rfl, .inl rfl, .inl rfl, .inl rfl, .inl rfl, .inl rfl, .inl rfl, .inl rfl, .inl rfl, .inl rfl, .inl rfl, .inl rfl, .inl rfl, .inl rfl, .inl rfl, .inl rfl, .inl rfl, .inl rfl, .inl rfl, .inl rfl, .inl rfl, .inl rfl, trivial⟩) (t_sat (fun _ h => h) (hK (bs14, cp15, bs18, cp19, bs22, cp23, bs26, cp27, bs30, cp31, bs34, cp35) ⟨hf0, hf1, hf2, hf3, (fun _ => hok24), (fun _ => hle25), hf6, hf7, hf8, hf9, hf10, hf11⟩))
          · -- 34
           rintro ⟨bs14, cp15, bs18, cp19, bs22, cp23, bs26, cp27, bs30, cp31, bs34, cp35⟩ S hF hS D hp K hK
           try dsimp only at hF ⊢
           obtain ⟨hf0, hf1, hf2, hf3, hf4, hf5, hf6, hf7, hf8, hf9, hf10, hf11⟩ := hF
           have s30 := hp 30 rfl
           refine d_need (small := [(11, (.pointer (some ⟨p2, 0, none⟩))), (112, (.bool true))]) ⟨look_b rfl rfl, look_row rfl 30 rfl s30, trivial⟩ ?_
           refine t_guard rfl rfl ?_
           refine tp rfl (lv_move rfl) ?_
           exact d_closes ⟨look_b rfl rfl, look_row rfl 30 rfl s30, trivial⟩ 34 rfl rfl rfl hS (AgreeR.refl _) (t_sat (fun _ h => h) (hK (bs14, cp15, bs18, cp19, bs22, cp23, bs26, cp27, bs30, cp31, bs34, cp35) ⟨hf0, hf1, hf2, hf3, hf4, hf5, hf6, hf7, hf8, hf9, hf10, hf11⟩))
          · -- 35
           rintro ⟨bs14, cp15, bs18, cp19, bs22, cp23, bs26, cp27, bs30, cp31, bs34, cp35⟩ S hF hS D hp K hK
           try dsimp only at hF ⊢
           obtain ⟨hf0, hf1, hf2, hf3, hf4, hf5, hf6, hf7, hf8, hf9, hf10, hf11⟩ := hF
           have s30 := hp 30 rfl
           refine d_need (small := [(2, (.int .i64 a)), (112, (.bool true))]) ⟨look_b rfl rfl, look_row rfl 30 rfl s30, trivial⟩ ?_
           refine t_guard rfl rfl ?_
           refine tp rfl (lv_move rfl) ?_
           exact d_closes ⟨look_b rfl rfl, look_row rfl 30 rfl s30, trivial⟩ 35 rfl rfl rfl hS (AgreeR.refl _) (t_sat (fun _ h => h) (hK (bs14, cp15, bs18, cp19, bs22, cp23, bs26, cp27, bs30, cp31, bs34, cp35) ⟨hf0, hf1, hf2, hf3, hf4, hf5, hf6, hf7, hf8, hf9, hf10, hf11⟩))
          · -- 36
           rintro ⟨bs14, cp15, bs18, cp19, bs22, cp23, bs26, cp27, bs30, cp31, bs34, cp35⟩ S hF hS D hp K hK
           try dsimp only at hF ⊢
           obtain ⟨hf0, hf1, hf2, hf3, hf4, hf5, hf6, hf7, hf8, hf9, hf10, hf11⟩ := hF
           have s35 := hp 35 rfl
           have s30 := D 35 30 rfl s35
           have s29 := D 30 29 rfl s30
           have s28 := D 29 28 rfl s29
           have s24 := D 28 24 rfl s28
           have hok16 := hf0 s24
           have hle17 := hf1 s24
           have s27 := D 28 27 rfl s28
           have hok20 := hf2 s27
           have hle21 := hf3 s27
           have s33 := hp 33 rfl
           have hok24 := hf4 s33
           have hle25 := hf5 s33
           have s34 := hp 34 rfl
           refine d_need (small := [(112, (.bool true)), (116, (.pointer (some ⟨p2, 0, none⟩))), (117, (.int .i64 a))]) ⟨look_row rfl 30 rfl s30, look_row rfl 34 rfl s34, look_row rfl 35 rfl s35, trivial⟩ ?_
           refine t_guard rfl rfl ?_
           refine t_f1 ?_
           refine t_f1 ?_
           refine tc rfl (en_fn Tryd.call26 rfl) (rin_ok (N := M) (es := F) a hok10 hE) ?_
           rintro _ _ ⟨bs26, cp27, hok28, hle29, rfl, rfl⟩
           refine t_sat (fun _ h => sat_put [_, _, _, _, _, _] h) ?_
           exact d_closes ⟨look_row rfl 30 rfl s30, look_row rfl 34 rfl s34, look_row rfl 35 rfl s35, trivial⟩ 36 rfl rfl rfl hS (by exact ⟨.inl rfl, .inl rfl, .inl rfl, .inl rfl, .inl rfl, .inl rfl, .inl rfl, .inl rfl, .inl rfl, .inl rfl, .inl rfl, .inl rfl, .inl rfl, .inl rfl, .inl rfl, .inl rfl, .inl rfl, .inl rfl, .inl rfl, .inl rfl, .inl rfl, .inl rfl, .inl rfl, .inl rfl, .inl rfl, .inl rfl, .inl rfl, .inl rfl, .inl rfl, .inl rfl, .inl rfl, .inl rfl, .inl rfl, .inl rfl, .inl rfl, .inl rfl, .inr ⟨rfl, rfl, hS⟩, .inl rfl, .inl rfl, .inl rfl, .inl rfl, .inl rfl, .inl rfl, .inl rfl, .inl rfl, .inl rfl, .inl rfl, .inl rfl, .inl rfl, .inl rfl, .inl rfl, .inl rfl, .inl rfl, .inl rfl, .inl rfl, .inl rfl, .inl rfl, .inl rfl, .inl rfl, .inl rfl, .inl rfl, .inl rfl, .inl rfl, .inl rfl, .inl rfl, .inl rfl, .inl rfl, .inl rfl, .inl rfl, .inl rfl, .inl rfl, .inl rfl, trivial⟩) (t_sat (fun _ h => h) (hK (bs14, cp15, bs18, cp19, bs22, cp23, bs26, cp27, bs30, cp31, bs34, cp35) ⟨hf0, hf1, hf2, hf3, hf4, hf5, (fun _ => hok28), (fun _ => hle29), hf8, hf9, hf10, hf11⟩))
          · -- 37
           rintro ⟨bs14, cp15, bs18, cp19, bs22, cp23, bs26, cp27, bs30, cp31, bs34, cp35⟩ S hF hS D hp K hK
           try dsimp only at hF ⊢
           obtain ⟨hf0, hf1, hf2, hf3, hf4, hf5, hf6, hf7, hf8, hf9, hf10, hf11⟩ := hF
           have s33 := hp 33 rfl
           have hok24 := hf4 s33
           have hle25 := hf5 s33
           have s36 := hp 36 rfl
           have hok28 := hf6 s36
           have hle29 := hf7 s36
           have s30 := hp 30 rfl
           refine d_need (small := [(112, (.bool true)), (115, (.slice bs22 ((inns F a).length) cp23)), (118, (.slice bs26 ((inns F a).length) cp27))]) ⟨look_row rfl 30 rfl s30, look_row rfl 33 rfl s33, look_row rfl 36 rfl s36, trivial⟩ ?_
           refine t_f5 ?_
           refine t_cT s33 ?_
           refine t_f6 ?_
           refine t_cT s36 ?_
           refine t_guard rfl rfl ?_
           refine tc rfl (en_fn Tryd.call21 rfl) (ints_ok (inns F a) (inns F a) (rd_sl (.tail _ (.head _))) (rd_sl (.head _)) hok24 hok28 (by first | omega | (simp; done) | (simp; omega)) (by first | omega | (simp; done) | (simp; omega))) ?_
           rintro _ _ ⟨rfl, rfl⟩
           rw [show eqI (inns F a) (inns F a) = true from (eqI_refl _)]
           refine t_f1 ?_
           refine t_wT (B := Emp) s33 ?_
           refine t_f1 ?_
           refine t_wT (B := Emp) s36 ?_
           refine t_f1 ?_
           refine t_f6 ?_
           refine t_f6 ?_
           refine t_f6 ?_
           refine t_f6 ?_
           refine t_f6 ?_
           exact d_closes ⟨look_row rfl 30 rfl s30, look_row rfl 33 rfl s33, look_row rfl 36 rfl s36, trivial⟩ 37 rfl rfl rfl hS (AgreeR.refl _) (t_sat (fun _ h => h) (hK (bs14, cp15, bs18, cp19, bs22, cp23, bs26, cp27, bs30, cp31, bs34, cp35) ⟨hf0, hf1, hf2, hf3, hf4, hf5, hf6, hf7, hf8, hf9, hf10, hf11⟩))
          · -- 38
           rintro ⟨bs14, cp15, bs18, cp19, bs22, cp23, bs26, cp27, bs30, cp31, bs34, cp35⟩ S hF hS D hp K hK
           try dsimp only at hF ⊢
           obtain ⟨hf0, hf1, hf2, hf3, hf4, hf5, hf6, hf7, hf8, hf9, hf10, hf11⟩ := hF
           have s30 := hp 30 rfl
           have s37 := hp 37 rfl
           refine d_need (small := [(112, (.bool true)), (119, (.bool true))]) ⟨look_row rfl 30 rfl s30, look_row rfl 37 rfl s37, trivial⟩ ?_
           refine tp rfl (lv_pick_t rfl rfl) ?_
           exact d_closes ⟨look_row rfl 30 rfl s30, look_row rfl 37 rfl s37, trivial⟩ 38 rfl rfl rfl hS (AgreeR.refl _) (t_sat (fun _ h => h) (hK (bs14, cp15, bs18, cp19, bs22, cp23, bs26, cp27, bs30, cp31, bs34, cp35) ⟨hf0, hf1, hf2, hf3, hf4, hf5, hf6, hf7, hf8, hf9, hf10, hf11⟩))
          · -- 39
           rintro ⟨bs14, cp15, bs18, cp19, bs22, cp23, bs26, cp27, bs30, cp31, bs34, cp35⟩ S hF hS D hp K hK
           try dsimp only at hF ⊢
           obtain ⟨hf0, hf1, hf2, hf3, hf4, hf5, hf6, hf7, hf8, hf9, hf10, hf11⟩ := hF
           have s38 := hp 38 rfl
           refine d_need (small := [(120, (.bool true))]) ⟨look_row rfl 38 rfl s38, trivial⟩ ?_
           refine tp rfl (lv_move rfl) ?_
           exact d_closes ⟨look_row rfl 38 rfl s38, trivial⟩ 39 rfl rfl rfl hS (AgreeR.refl _) (t_sat (fun _ h => h) (hK (bs14, cp15, bs18, cp19, bs22, cp23, bs26, cp27, bs30, cp31, bs34, cp35) ⟨hf0, hf1, hf2, hf3, hf4, hf5, hf6, hf7, hf8, hf9, hf10, hf11⟩))
          · -- 40
           rintro ⟨bs14, cp15, bs18, cp19, bs22, cp23, bs26, cp27, bs30, cp31, bs34, cp35⟩ S hF hS D hp K hK
           try dsimp only at hF ⊢
           obtain ⟨hf0, hf1, hf2, hf3, hf4, hf5, hf6, hf7, hf8, hf9, hf10, hf11⟩ := hF
           have s39 := hp 39 rfl
           refine d_need (small := [(10, (.pointer (some ⟨p1, 0, none⟩))), (121, (.bool true))]) ⟨look_b rfl rfl, look_row rfl 39 rfl s39, trivial⟩ ?_
           refine t_guard rfl rfl ?_
           refine tp rfl (lv_move rfl) ?_
           exact d_closes ⟨look_b rfl rfl, look_row rfl 39 rfl s39, trivial⟩ 40 rfl rfl rfl hS (AgreeR.refl _) (t_sat (fun _ h => h) (hK (bs14, cp15, bs18, cp19, bs22, cp23, bs26, cp27, bs30, cp31, bs34, cp35) ⟨hf0, hf1, hf2, hf3, hf4, hf5, hf6, hf7, hf8, hf9, hf10, hf11⟩))
          · -- 41
           rintro ⟨bs14, cp15, bs18, cp19, bs22, cp23, bs26, cp27, bs30, cp31, bs34, cp35⟩ S hF hS D hp K hK
           try dsimp only at hF ⊢
           obtain ⟨hf0, hf1, hf2, hf3, hf4, hf5, hf6, hf7, hf8, hf9, hf10, hf11⟩ := hF
           have s39 := hp 39 rfl
           refine d_need (small := [(2, (.int .i64 a)), (121, (.bool true))]) ⟨look_b rfl rfl, look_row rfl 39 rfl s39, trivial⟩ ?_
           refine t_guard rfl rfl ?_
           refine tp rfl (lv_move rfl) ?_
           exact d_closes ⟨look_b rfl rfl, look_row rfl 39 rfl s39, trivial⟩ 41 rfl rfl rfl hS (AgreeR.refl _) (t_sat (fun _ h => h) (hK (bs14, cp15, bs18, cp19, bs22, cp23, bs26, cp27, bs30, cp31, bs34, cp35) ⟨hf0, hf1, hf2, hf3, hf4, hf5, hf6, hf7, hf8, hf9, hf10, hf11⟩))
          · -- 42
           rintro ⟨bs14, cp15, bs18, cp19, bs22, cp23, bs26, cp27, bs30, cp31, bs34, cp35⟩ S hF hS D hp K hK
           try dsimp only at hF ⊢
           obtain ⟨hf0, hf1, hf2, hf3, hf4, hf5, hf6, hf7, hf8, hf9, hf10, hf11⟩ := hF
           have s41 := hp 41 rfl
           have s39 := D 41 39 rfl s41
           have s38 := D 39 38 rfl s39
           have s37 := D 38 37 rfl s38
           have s36 := D 37 36 rfl s37
           have s35 := D 36 35 rfl s36
           have s30 := D 35 30 rfl s35
           have s29 := D 30 29 rfl s30
           have s28 := D 29 28 rfl s29
           have s24 := D 28 24 rfl s28
           have hok16 := hf0 s24
           have hle17 := hf1 s24
           have s27 := D 28 27 rfl s28
           have hok20 := hf2 s27
           have hle21 := hf3 s27
           have s33 := D 37 33 rfl s37
           have hok24 := hf4 s33
           have hle25 := hf5 s33
           have hok28 := hf6 s36
           have hle29 := hf7 s36
           have s40 := hp 40 rfl
           refine d_need (small := [(121, (.bool true)), (122, (.pointer (some ⟨p1, 0, none⟩))), (123, (.int .i64 a))]) ⟨look_row rfl 39 rfl s39, look_row rfl 40 rfl s40, look_row rfl 41 rfl s41, trivial⟩ ?_
           refine t_guard rfl rfl ?_
           refine t_f2 ?_
           refine tc rfl (en_fn Tryd.call15 rfl) (reach_ok (N := M) (es := F) a (Tab.cons (Tab.cons (Tab.cons (Tab.cons (Tab.cons (Tab.cons (Tab.cons (Tab.cons hT))))))))) ?_
           rintro _ _ ⟨bs30, cp31, hok32, hle33, rfl, rfl⟩
           refine t_f1 ?_
           refine t_f3 ?_
           refine t_f3 ?_
           refine t_f3 ?_
           refine t_sat (fun _ h => sat_put [_, _, _, _, _, _, _] h) ?_
           exact d_closes ⟨look_row rfl 39 rfl s39, look_row rfl 40 rfl s40, look_row rfl 41 rfl s41, trivial⟩ 42 rfl rfl rfl hS (by exact ⟨.inl rfl, .inl rfl, .inl rfl, .inl rfl, .inl rfl, .inl rfl, .inl rfl, .inl rfl, .inl rfl, .inl rfl, .inl rfl, .inl rfl, .inl rfl, .inl rfl, .inl rfl, .inl rfl, .inl rfl, .inl rfl, .inl rfl, .inl rfl, .inl rfl, .inl rfl, .inl rfl, .inl rfl, .inl rfl, .inl rfl, .inl rfl, .inl rfl, .inl rfl, .inl rfl, .inl rfl, .inl rfl, .inl rfl, .inl rfl, .inl rfl, .inl rfl, .inl rfl, .inl rfl, .inl rfl, .inl rfl, .inl rfl, .inl rfl, .inr ⟨rfl, rfl, hS⟩, .inl rfl, .inl rfl, .inl rfl, .inl rfl, .inl rfl, .inl rfl, .inl rfl, .inl rfl, .inl rfl, .inl rfl, .inl rfl, .inl rfl, .inl rfl, .inl rfl, .inl rfl, .inl rfl, .inl rfl, .inl rfl, .inl rfl, .inl rfl, .inl rfl, .inl rfl, .inl rfl, .inl rfl, .inl rfl, .inl rfl, .inl rfl, .inl rfl, .inl rfl, trivial⟩) (t_sat (fun _ h => h) (hK (bs14, cp15, bs18, cp19, bs22, cp23, bs26, cp27, bs30, cp31, bs34, cp35) ⟨hf0, hf1, hf2, hf3, hf4, hf5, hf6, hf7, (fun _ => hok32), (fun _ => hle33), hf10, hf11⟩))
          · -- 43
           rintro ⟨bs14, cp15, bs18, cp19, bs22, cp23, bs26, cp27, bs30, cp31, bs34, cp35⟩ S hF hS D hp K hK
           try dsimp only at hF ⊢
           obtain ⟨hf0, hf1, hf2, hf3, hf4, hf5, hf6, hf7, hf8, hf9, hf10, hf11⟩ := hF
           have s39 := hp 39 rfl
           refine d_need (small := [(11, (.pointer (some ⟨p2, 0, none⟩))), (121, (.bool true))]) ⟨look_b rfl rfl, look_row rfl 39 rfl s39, trivial⟩ ?_
           refine t_guard rfl rfl ?_
           refine tp rfl (lv_move rfl) ?_
           exact d_closes ⟨look_b rfl rfl, look_row rfl 39 rfl s39, trivial⟩ 43 rfl rfl rfl hS (AgreeR.refl _) (t_sat (fun _ h => h) (hK (bs14, cp15, bs18, cp19, bs22, cp23, bs26, cp27, bs30, cp31, bs34, cp35) ⟨hf0, hf1, hf2, hf3, hf4, hf5, hf6, hf7, hf8, hf9, hf10, hf11⟩))
          · -- 44
           rintro ⟨bs14, cp15, bs18, cp19, bs22, cp23, bs26, cp27, bs30, cp31, bs34, cp35⟩ S hF hS D hp K hK
           try dsimp only at hF ⊢
           obtain ⟨hf0, hf1, hf2, hf3, hf4, hf5, hf6, hf7, hf8, hf9, hf10, hf11⟩ := hF
           have s39 := hp 39 rfl
           refine d_need (small := [(2, (.int .i64 a)), (121, (.bool true))]) ⟨look_b rfl rfl, look_row rfl 39 rfl s39, trivial⟩ ?_
           refine t_guard rfl rfl ?_
           refine tp rfl (lv_move rfl) ?_
           exact d_closes ⟨look_b rfl rfl, look_row rfl 39 rfl s39, trivial⟩ 44 rfl rfl rfl hS (AgreeR.refl _) (t_sat (fun _ h => h) (hK (bs14, cp15, bs18, cp19, bs22, cp23, bs26, cp27, bs30, cp31, bs34, cp35) ⟨hf0, hf1, hf2, hf3, hf4, hf5, hf6, hf7, hf8, hf9, hf10, hf11⟩))
          · -- 45
           rintro ⟨bs14, cp15, bs18, cp19, bs22, cp23, bs26, cp27, bs30, cp31, bs34, cp35⟩ S hF hS D hp K hK
           try dsimp only at hF ⊢
           obtain ⟨hf0, hf1, hf2, hf3, hf4, hf5, hf6, hf7, hf8, hf9, hf10, hf11⟩ := hF
           have s44 := hp 44 rfl
           have s39 := D 44 39 rfl s44
           have s38 := D 39 38 rfl s39
           have s37 := D 38 37 rfl s38
           have s36 := D 37 36 rfl s37
           have s35 := D 36 35 rfl s36
           have s30 := D 35 30 rfl s35
           have s29 := D 30 29 rfl s30
           have s28 := D 29 28 rfl s29
           have s24 := D 28 24 rfl s28
           have hok16 := hf0 s24
           have hle17 := hf1 s24
           have s27 := D 28 27 rfl s28
           have hok20 := hf2 s27
           have hle21 := hf3 s27
           have s33 := D 37 33 rfl s37
           have hok24 := hf4 s33
           have hle25 := hf5 s33
           have hok28 := hf6 s36
           have hle29 := hf7 s36
           have s42 := hp 42 rfl
           have hok32 := hf8 s42
           have hle33 := hf9 s42
           have s43 := hp 43 rfl
           refine d_need (small := [(121, (.bool true)), (125, (.pointer (some ⟨p2, 0, none⟩))), (126, (.int .i64 a))]) ⟨look_row rfl 39 rfl s39, look_row rfl 43 rfl s43, look_row rfl 44 rfl s44, trivial⟩ ?_
           refine t_guard rfl rfl ?_
           refine t_f1 ?_
           refine t_f1 ?_
           refine tc rfl (en_fn Tryd.call27 rfl) (rreach_ok (N := M) (es := F) a hok10 hE hg) ?_
           rintro _ _ ⟨bs34, cp35, hok36, hle37, rfl, rfl⟩
           refine t_sat (fun _ h => sat_put [_, _, _, _, _, _, _, _] h) ?_
           exact d_closes ⟨look_row rfl 39 rfl s39, look_row rfl 43 rfl s43, look_row rfl 44 rfl s44, trivial⟩ 45 rfl rfl rfl hS (by exact ⟨.inl rfl, .inl rfl, .inl rfl, .inl rfl, .inl rfl, .inl rfl, .inl rfl, .inl rfl, .inl rfl, .inl rfl, .inl rfl, .inl rfl, .inl rfl, .inl rfl, .inl rfl, .inl rfl, .inl rfl, .inl rfl, .inl rfl, .inl rfl, .inl rfl, .inl rfl, .inl rfl, .inl rfl, .inl rfl, .inl rfl, .inl rfl, .inl rfl, .inl rfl, .inl rfl, .inl rfl, .inl rfl, .inl rfl, .inl rfl, .inl rfl, .inl rfl, .inl rfl, .inl rfl, .inl rfl, .inl rfl, .inl rfl, .inl rfl, .inl rfl, .inl rfl, .inl rfl, .inr ⟨rfl, rfl, hS⟩, .inl rfl, .inl rfl, .inl rfl, .inl rfl, .inl rfl, .inl rfl, .inl rfl, .inl rfl, .inl rfl, .inl rfl, .inl rfl, .inl rfl, .inl rfl, .inl rfl, .inl rfl, .inl rfl, .inl rfl, .inl rfl, .inl rfl, .inl rfl, .inl rfl, .inl rfl, .inl rfl, .inl rfl, .inl rfl, .inl rfl, trivial⟩) (t_sat (fun _ h => h) (hK (bs14, cp15, bs18, cp19, bs22, cp23, bs26, cp27, bs30, cp31, bs34, cp35) ⟨hf0, hf1, hf2, hf3, hf4, hf5, hf6, hf7, hf8, hf9, (fun _ => hok36), (fun _ => hle37)⟩))
          · -- 46
           rintro ⟨bs14, cp15, bs18, cp19, bs22, cp23, bs26, cp27, bs30, cp31, bs34, cp35⟩ S hF hS D hp K hK
           try dsimp only at hF ⊢
           obtain ⟨hf0, hf1, hf2, hf3, hf4, hf5, hf6, hf7, hf8, hf9, hf10, hf11⟩ := hF
           have s42 := hp 42 rfl
           have hok32 := hf8 s42
           have hle33 := hf9 s42
           have s45 := hp 45 rfl
           have hok36 := hf10 s45
           have hle37 := hf11 s45
           have s39 := hp 39 rfl
           refine d_need (small := [(121, (.bool true)), (124, (.slice bs30 ((reachL M F a).length) cp31)), (127, (.slice bs34 ((reachL M F a).length) cp35))]) ⟨look_row rfl 39 rfl s39, look_row rfl 42 rfl s42, look_row rfl 45 rfl s45, trivial⟩ ?_
           refine t_f7 ?_
           refine t_cT s42 ?_
           refine t_f8 ?_
           refine t_cT s45 ?_
           refine t_guard rfl rfl ?_
           refine tc rfl (en_fn Tryd.call21 rfl) (ints_ok (reachL M F a) (reachL M F a) (rd_sl (.tail _ (.head _))) (rd_sl (.head _)) hok32 hok36 (by first | omega | (simp; done) | (simp; omega)) (by first | omega | (simp; done) | (simp; omega))) ?_
           rintro _ _ ⟨rfl, rfl⟩
           rw [show eqI (reachL M F a) (reachL M F a) = true from (eqI_refl _)]
           refine t_f1 ?_
           refine t_wT (B := Emp) s42 ?_
           refine t_f1 ?_
           refine t_wT (B := Emp) s45 ?_
           refine t_f1 ?_
           refine t_f8 ?_
           refine t_f8 ?_
           refine t_f8 ?_
           refine t_f8 ?_
           refine t_f8 ?_
           refine t_f8 ?_
           refine t_f8 ?_
           exact d_closes ⟨look_row rfl 39 rfl s39, look_row rfl 42 rfl s42, look_row rfl 45 rfl s45, trivial⟩ 46 rfl rfl rfl hS (AgreeR.refl _) (t_sat (fun _ h => h) (hK (bs14, cp15, bs18, cp19, bs22, cp23, bs26, cp27, bs30, cp31, bs34, cp35) ⟨hf0, hf1, hf2, hf3, hf4, hf5, hf6, hf7, hf8, hf9, hf10, hf11⟩))
          · -- 47
           rintro ⟨bs14, cp15, bs18, cp19, bs22, cp23, bs26, cp27, bs30, cp31, bs34, cp35⟩ S hF hS D hp K hK
           try dsimp only at hF ⊢
           obtain ⟨hf0, hf1, hf2, hf3, hf4, hf5, hf6, hf7, hf8, hf9, hf10, hf11⟩ := hF
           have s39 := hp 39 rfl
           have s46 := hp 46 rfl
           refine d_need (small := [(121, (.bool true)), (128, (.bool true))]) ⟨look_row rfl 39 rfl s39, look_row rfl 46 rfl s46, trivial⟩ ?_
           refine tp rfl (lv_pick_t rfl rfl) ?_
           exact d_closes ⟨look_row rfl 39 rfl s39, look_row rfl 46 rfl s46, trivial⟩ 47 rfl rfl rfl hS (AgreeR.refl _) (t_sat (fun _ h => h) (hK (bs14, cp15, bs18, cp19, bs22, cp23, bs26, cp27, bs30, cp31, bs34, cp35) ⟨hf0, hf1, hf2, hf3, hf4, hf5, hf6, hf7, hf8, hf9, hf10, hf11⟩))
          · -- 48
           rintro ⟨bs14, cp15, bs18, cp19, bs22, cp23, bs26, cp27, bs30, cp31, bs34, cp35⟩ S hF hS D hp K hK
           try dsimp only at hF ⊢
           obtain ⟨hf0, hf1, hf2, hf3, hf4, hf5, hf6, hf7, hf8, hf9, hf10, hf11⟩ := hF
           have s47 := hp 47 rfl
           refine d_need (small := [(129, (.bool true))]) ⟨look_row rfl 47 rfl s47, trivial⟩ ?_
           refine tp rfl (lv_move rfl) ?_
           exact d_closes ⟨look_row rfl 47 rfl s47, trivial⟩ 48 rfl rfl rfl hS (AgreeR.refl _) (t_sat (fun _ h => h) (hK (bs14, cp15, bs18, cp19, bs22, cp23, bs26, cp27, bs30, cp31, bs34, cp35) ⟨hf0, hf1, hf2, hf3, hf4, hf5, hf6, hf7, hf8, hf9, hf10, hf11⟩))
          · -- 49
           rintro ⟨bs14, cp15, bs18, cp19, bs22, cp23, bs26, cp27, bs30, cp31, bs34, cp35⟩ S hF hS D hp K hK
           try dsimp only at hF ⊢
           obtain ⟨hf0, hf1, hf2, hf3, hf4, hf5, hf6, hf7, hf8, hf9, hf10, hf11⟩ := hF
           have s48 := hp 48 rfl
           refine d_need (small := [(10, (.pointer (some ⟨p1, 0, none⟩))), (130, (.bool true))]) ⟨look_b rfl rfl, look_row rfl 48 rfl s48, trivial⟩ ?_
           refine t_guard rfl rfl ?_
           refine tp rfl (lv_move rfl) ?_
           exact d_closes ⟨look_b rfl rfl, look_row rfl 48 rfl s48, trivial⟩ 49 rfl rfl rfl hS (AgreeR.refl _) (t_sat (fun _ h => h) (hK (bs14, cp15, bs18, cp19, bs22, cp23, bs26, cp27, bs30, cp31, bs34, cp35) ⟨hf0, hf1, hf2, hf3, hf4, hf5, hf6, hf7, hf8, hf9, hf10, hf11⟩))
          · -- 50
           rintro ⟨bs14, cp15, bs18, cp19, bs22, cp23, bs26, cp27, bs30, cp31, bs34, cp35⟩ S hF hS D hp K hK
           try dsimp only at hF ⊢
           obtain ⟨hf0, hf1, hf2, hf3, hf4, hf5, hf6, hf7, hf8, hf9, hf10, hf11⟩ := hF
           have s48 := hp 48 rfl
           refine d_need (small := [(2, (.int .i64 a)), (130, (.bool true))]) ⟨look_b rfl rfl, look_row rfl 48 rfl s48, trivial⟩ ?_
           refine t_guard rfl rfl ?_
           refine tp rfl (lv_move rfl) ?_
           exact d_closes ⟨look_b rfl rfl, look_row rfl 48 rfl s48, trivial⟩ 50 rfl rfl rfl hS (AgreeR.refl _) (t_sat (fun _ h => h) (hK (bs14, cp15, bs18, cp19, bs22, cp23, bs26, cp27, bs30, cp31, bs34, cp35) ⟨hf0, hf1, hf2, hf3, hf4, hf5, hf6, hf7, hf8, hf9, hf10, hf11⟩))
          · -- 51
           rintro ⟨bs14, cp15, bs18, cp19, bs22, cp23, bs26, cp27, bs30, cp31, bs34, cp35⟩ S hF hS D hp K hK
           try dsimp only at hF ⊢
           obtain ⟨hf0, hf1, hf2, hf3, hf4, hf5, hf6, hf7, hf8, hf9, hf10, hf11⟩ := hF
           have s48 := hp 48 rfl
           refine d_need (small := [(3, (.int .i64 b)), (130, (.bool true))]) ⟨look_b rfl rfl, look_row rfl 48 rfl s48, trivial⟩ ?_
           refine t_guard rfl rfl ?_
           refine tp rfl (lv_move rfl) ?_
           exact d_closes ⟨look_b rfl rfl, look_row rfl 48 rfl s48, trivial⟩ 51 rfl rfl rfl hS (AgreeR.refl _) (t_sat (fun _ h => h) (hK (bs14, cp15, bs18, cp19, bs22, cp23, bs26, cp27, bs30, cp31, bs34, cp35) ⟨hf0, hf1, hf2, hf3, hf4, hf5, hf6, hf7, hf8, hf9, hf10, hf11⟩))
          · -- 52
           rintro ⟨bs14, cp15, bs18, cp19, bs22, cp23, bs26, cp27, bs30, cp31, bs34, cp35⟩ S hF hS D hp K hK
           try dsimp only at hF ⊢
           obtain ⟨hf0, hf1, hf2, hf3, hf4, hf5, hf6, hf7, hf8, hf9, hf10, hf11⟩ := hF
           have s48 := hp 48 rfl
           have s49 := hp 49 rfl
           have s50 := hp 50 rfl
           have s51 := hp 51 rfl
           refine d_need (small := [(130, (.bool true)), (131, (.pointer (some ⟨p1, 0, none⟩))), (132, (.int .i64 a)), (133, (.int .i64 b))]) ⟨look_row rfl 48 rfl s48, look_row rfl 49 rfl s49, look_row rfl 50 rfl s50, look_row rfl 51 rfl s51, trivial⟩ ?_
           refine t_guard rfl rfl ?_
           refine t_f2 ?_
           refine tc rfl (en_fn Tryd.call13 rfl) (reaches_ok (N := M) (es := F) a b (Tab.cons (Tab.cons (Tab.cons (Tab.cons (Tab.cons (Tab.cons (Tab.cons (Tab.cons hT))))))))) ?_
           rintro _ _ ⟨rfl, rfl⟩
           refine t_f2 ?_
           refine t_f2 ?_
           exact d_closes ⟨look_row rfl 48 rfl s48, look_row rfl 49 rfl s49, look_row rfl 50 rfl s50, look_row rfl 51 rfl s51, trivial⟩ 52 rfl rfl rfl hS (AgreeR.refl _) (t_sat (fun _ h => h) (hK (bs14, cp15, bs18, cp19, bs22, cp23, bs26, cp27, bs30, cp31, bs34, cp35) ⟨hf0, hf1, hf2, hf3, hf4, hf5, hf6, hf7, hf8, hf9, hf10, hf11⟩))
          · -- 53
           rintro ⟨bs14, cp15, bs18, cp19, bs22, cp23, bs26, cp27, bs30, cp31, bs34, cp35⟩ S hF hS D hp K hK
           try dsimp only at hF ⊢
           obtain ⟨hf0, hf1, hf2, hf3, hf4, hf5, hf6, hf7, hf8, hf9, hf10, hf11⟩ := hF
           have s48 := hp 48 rfl
           refine d_need (small := [(3, (.int .i64 b)), (130, (.bool true))]) ⟨look_b rfl rfl, look_row rfl 48 rfl s48, trivial⟩ ?_
           refine t_guard rfl rfl ?_
           refine tp rfl (lv_move rfl) ?_
           exact d_closes ⟨look_b rfl rfl, look_row rfl 48 rfl s48, trivial⟩ 53 rfl rfl rfl hS (AgreeR.refl _) (t_sat (fun _ h => h) (hK (bs14, cp15, bs18, cp19, bs22, cp23, bs26, cp27, bs30, cp31, bs34, cp35) ⟨hf0, hf1, hf2, hf3, hf4, hf5, hf6, hf7, hf8, hf9, hf10, hf11⟩))
          · -- 54
           rintro ⟨bs14, cp15, bs18, cp19, bs22, cp23, bs26, cp27, bs30, cp31, bs34, cp35⟩ S hF hS D hp K hK
           try dsimp only at hF ⊢
           obtain ⟨hf0, hf1, hf2, hf3, hf4, hf5, hf6, hf7, hf8, hf9, hf10, hf11⟩ := hF
           have s53 := hp 53 rfl
           have s48 := D 53 48 rfl s53
           have s47 := D 48 47 rfl s48
           have s46 := D 47 46 rfl s47
           have s45 := D 46 45 rfl s46
           have s44 := D 45 44 rfl s45
           have s39 := D 44 39 rfl s44
           have s38 := D 39 38 rfl s39
           have s37 := D 38 37 rfl s38
           have s36 := D 37 36 rfl s37
           have s35 := D 36 35 rfl s36
           have s30 := D 35 30 rfl s35
           have s29 := D 30 29 rfl s30
           have s28 := D 29 28 rfl s29
           have s24 := D 28 24 rfl s28
           have hok16 := hf0 s24
           have hle17 := hf1 s24
           have s27 := D 28 27 rfl s28
           have hok20 := hf2 s27
           have hle21 := hf3 s27
           have s33 := D 37 33 rfl s37
           have hok24 := hf4 s33
           have hle25 := hf5 s33
           have hok28 := hf6 s36
           have hle29 := hf7 s36
           have s42 := D 46 42 rfl s46
           have hok32 := hf8 s42
           have hle33 := hf9 s42
           have hok36 := hf10 s45
           have hle37 := hf11 s45
           refine d_need (small := [(130, (.bool true)), (135, (.int .i64 b))]) ⟨look_row rfl 48 rfl s48, look_row rfl 53 rfl s53, trivial⟩ ?_
           refine t_guard rfl rfl ?_
           refine tp rfl (lv_geq rfl rfl (decide_eq_true h12)) ?_
           exact d_closes ⟨look_row rfl 48 rfl s48, look_row rfl 53 rfl s53, trivial⟩ 54 rfl rfl rfl hS (AgreeR.refl _) (t_sat (fun _ h => h) (hK (bs14, cp15, bs18, cp19, bs22, cp23, bs26, cp27, bs30, cp31, bs34, cp35) ⟨hf0, hf1, hf2, hf3, hf4, hf5, hf6, hf7, hf8, hf9, hf10, hf11⟩))
          · -- 55
           rintro ⟨bs14, cp15, bs18, cp19, bs22, cp23, bs26, cp27, bs30, cp31, bs34, cp35⟩ S hF hS D hp K hK
           try dsimp only at hF ⊢
           obtain ⟨hf0, hf1, hf2, hf3, hf4, hf5, hf6, hf7, hf8, hf9, hf10, hf11⟩ := hF
           have s48 := hp 48 rfl
           have s54 := hp 54 rfl
           refine d_need (small := [(130, (.bool true)), (136, (.bool true))]) ⟨look_row rfl 48 rfl s48, look_row rfl 54 rfl s54, trivial⟩ ?_
           refine t_guard rfl rfl ?_
           refine tp rfl (lv_move rfl) ?_
           exact d_closes ⟨look_row rfl 48 rfl s48, look_row rfl 54 rfl s54, trivial⟩ 55 rfl rfl rfl hS (AgreeR.refl _) (t_sat (fun _ h => h) (hK (bs14, cp15, bs18, cp19, bs22, cp23, bs26, cp27, bs30, cp31, bs34, cp35) ⟨hf0, hf1, hf2, hf3, hf4, hf5, hf6, hf7, hf8, hf9, hf10, hf11⟩))
          · -- 56
           rintro ⟨bs14, cp15, bs18, cp19, bs22, cp23, bs26, cp27, bs30, cp31, bs34, cp35⟩ S hF hS D hp K hK
           try dsimp only at hF ⊢
           obtain ⟨hf0, hf1, hf2, hf3, hf4, hf5, hf6, hf7, hf8, hf9, hf10, hf11⟩ := hF
           have s55 := hp 55 rfl
           refine d_need (small := [(3, (.int .i64 b)), (137, (.bool true))]) ⟨look_b rfl rfl, look_row rfl 55 rfl s55, trivial⟩ ?_
           refine t_guard rfl rfl ?_
           refine tp rfl (lv_move rfl) ?_
           exact d_closes ⟨look_b rfl rfl, look_row rfl 55 rfl s55, trivial⟩ 56 rfl rfl rfl hS (AgreeR.refl _) (t_sat (fun _ h => h) (hK (bs14, cp15, bs18, cp19, bs22, cp23, bs26, cp27, bs30, cp31, bs34, cp35) ⟨hf0, hf1, hf2, hf3, hf4, hf5, hf6, hf7, hf8, hf9, hf10, hf11⟩))
          · -- 57
           rintro ⟨bs14, cp15, bs18, cp19, bs22, cp23, bs26, cp27, bs30, cp31, bs34, cp35⟩ S hF hS D hp K hK
           try dsimp only at hF ⊢
           obtain ⟨hf0, hf1, hf2, hf3, hf4, hf5, hf6, hf7, hf8, hf9, hf10, hf11⟩ := hF
           have s55 := hp 55 rfl
           refine d_need (small := [(11, (.pointer (some ⟨p2, 0, none⟩))), (137, (.bool true))]) ⟨look_b rfl rfl, look_row rfl 55 rfl s55, trivial⟩ ?_
           refine t_guard rfl rfl ?_
           refine tp rfl (lv_move rfl) ?_
           exact d_closes ⟨look_b rfl rfl, look_row rfl 55 rfl s55, trivial⟩ 57 rfl rfl rfl hS (AgreeR.refl _) (t_sat (fun _ h => h) (hK (bs14, cp15, bs18, cp19, bs22, cp23, bs26, cp27, bs30, cp31, bs34, cp35) ⟨hf0, hf1, hf2, hf3, hf4, hf5, hf6, hf7, hf8, hf9, hf10, hf11⟩))
          · -- 58
           rintro ⟨bs14, cp15, bs18, cp19, bs22, cp23, bs26, cp27, bs30, cp31, bs34, cp35⟩ S hF hS D hp K hK
           try dsimp only at hF ⊢
           obtain ⟨hf0, hf1, hf2, hf3, hf4, hf5, hf6, hf7, hf8, hf9, hf10, hf11⟩ := hF
           have s55 := hp 55 rfl
           have s57 := hp 57 rfl
           refine d_need (small := [(137, (.bool true)), (139, (.pointer (some ⟨p2, 0, none⟩)))]) ⟨look_row rfl 55 rfl s55, look_row rfl 57 rfl s57, trivial⟩ ?_
           refine t_guard rfl rfl ?_
           refine tp rfl (lv_nilCheck rfl) ?_
           exact d_closes ⟨look_row rfl 55 rfl s55, look_row rfl 57 rfl s57, trivial⟩ 58 rfl rfl rfl hS (AgreeR.refl _) (t_sat (fun _ h => h) (hK (bs14, cp15, bs18, cp19, bs22, cp23, bs26, cp27, bs30, cp31, bs34, cp35) ⟨hf0, hf1, hf2, hf3, hf4, hf5, hf6, hf7, hf8, hf9, hf10, hf11⟩))
          · -- 59
           rintro ⟨bs14, cp15, bs18, cp19, bs22, cp23, bs26, cp27, bs30, cp31, bs34, cp35⟩ S hF hS D hp K hK
           try dsimp only at hF ⊢
           obtain ⟨hf0, hf1, hf2, hf3, hf4, hf5, hf6, hf7, hf8, hf9, hf10, hf11⟩ := hF
           have s55 := hp 55 rfl
           have s58 := hp 58 rfl
           refine d_need (small := [(137, (.bool true)), (140, (.pointer (some ⟨p2, 0, none⟩)))]) ⟨look_row rfl 55 rfl s55, look_row rfl 58 rfl s58, trivial⟩ ?_
           refine t_guard rfl rfl ?_
           refine tp rfl (lv_fieldAddr (o' := 0) Tryd.underlying46 rfl Tryd.sizeOf3 rfl rfl) ?_
           exact d_closes ⟨look_row rfl 55 rfl s55, look_row rfl 58 rfl s58, trivial⟩ 59 rfl rfl rfl hS (AgreeR.refl _) (t_sat (fun _ h => h) (hK (bs14, cp15, bs18, cp19, bs22, cp23, bs26, cp27, bs30, cp31, bs34, cp35) ⟨hf0, hf1, hf2, hf3, hf4, hf5, hf6, hf7, hf8, hf9, hf10, hf11⟩))
          · -- 60
           rintro ⟨bs14, cp15, bs18, cp19, bs22, cp23, bs26, cp27, bs30, cp31, bs34, cp35⟩ S hF hS D hp K hK
           try dsimp only at hF ⊢
           obtain ⟨hf0, hf1, hf2, hf3, hf4, hf5, hf6, hf7, hf8, hf9, hf10, hf11⟩ := hF
           have s59 := hp 59 rfl
           have s58 := D 59 58 rfl s59
           have s57 := D 58 57 rfl s58
           have s55 := D 57 55 rfl s57
           have s54 := D 55 54 rfl s55
           have s53 := D 54 53 rfl s54
           have s48 := D 53 48 rfl s53
           have s47 := D 48 47 rfl s48
           have s46 := D 47 46 rfl s47
           have s45 := D 46 45 rfl s46
           have s44 := D 45 44 rfl s45
           have s39 := D 44 39 rfl s44
           have s38 := D 39 38 rfl s39
           have s37 := D 38 37 rfl s38
           have s36 := D 37 36 rfl s37
           have s35 := D 36 35 rfl s36
           have s30 := D 35 30 rfl s35
           have s29 := D 30 29 rfl s30
           have s28 := D 29 28 rfl s29
           have s24 := D 28 24 rfl s28
           have hok16 := hf0 s24
           have hle17 := hf1 s24
           have s27 := D 28 27 rfl s28
           have hok20 := hf2 s27
           have hle21 := hf3 s27
           have s33 := D 37 33 rfl s37
           have hok24 := hf4 s33
           have hle25 := hf5 s33
           have hok28 := hf6 s36
           have hle29 := hf7 s36
           have s42 := D 46 42 rfl s46
           have hok32 := hf8 s42
           have hle33 := hf9 s42
           have hok36 := hf10 s45
           have hle37 := hf11 s45
           refine d_need (small := [(137, (.bool true)), (141, (.pointer (some ⟨p2, 0, none⟩)))]) ⟨look_row rfl 55 rfl s55, look_row rfl 59 rfl s59, trivial⟩ ?_
           refine t_guard rfl rfl ?_
           refine tp rfl (lv_load Tryd.isAgg3 rfl (gives_blk (.head _) rfl)) ?_
           exact d_closes ⟨look_row rfl 55 rfl s55, look_row rfl 59 rfl s59, trivial⟩ 60 rfl rfl rfl hS (AgreeR.refl _) (t_sat (fun _ h => h) (hK (bs14, cp15, bs18, cp19, bs22, cp23, bs26, cp27, bs30, cp31, bs34, cp35) ⟨hf0, hf1, hf2, hf3, hf4, hf5, hf6, hf7, hf8, hf9, hf10, hf11⟩))
          · -- 61
           rintro ⟨bs14, cp15, bs18, cp19, bs22, cp23, bs26, cp27, bs30, cp31, bs34, cp35⟩ S hF hS D hp K hK
           try dsimp only at hF ⊢
           obtain ⟨hf0, hf1, hf2, hf3, hf4, hf5, hf6, hf7, hf8, hf9, hf10, hf11⟩ := hF
           have s60 := hp 60 rfl
           have s59 := D 60 59 rfl s60
           have s58 := D 59 58 rfl s59
           have s57 := D 58 57 rfl s58
           have s55 := D 57 55 rfl s57
           have s54 := D 55 54 rfl s55
           have s53 := D 54 53 rfl s54
           have s48 := D 53 48 rfl s53
           have s47 := D 48 47 rfl s48
           have s46 := D 47 46 rfl s47
           have s45 := D 46 45 rfl s46
           have s44 := D 45 44 rfl s45
           have s39 := D 44 39 rfl s44
           have s38 := D 39 38 rfl s39
           have s37 := D 38 37 rfl s38
           have s36 := D 37 36 rfl s37
           have s35 := D 36 35 rfl s36
           have s30 := D 35 30 rfl s35
           have s29 := D 30 29 rfl s30
           have s28 := D 29 28 rfl s29
           have s24 := D 28 24 rfl s28
           have hok16 := hf0 s24
           have hle17 := hf1 s24
           have s27 := D 28 27 rfl s28
           have hok20 := hf2 s27
           have hle21 := hf3 s27
           have s33 := D 37 33 rfl s37
           have hok24 := hf4 s33
           have hle25 := hf5 s33
           have hok28 := hf6 s36
           have hle29 := hf7 s36
           have s42 := D 46 42 rfl s46
           have hok32 := hf8 s42
           have hle33 := hf9 s42
           have hok36 := hf10 s45
           have hle37 := hf11 s45
           have s56 := hp 56 rfl
           refine d_need (small := [(137, (.bool true)), (138, (.int .i64 b)), (142, (.int .i64 ((M : Nat) : Int)))]) ⟨look_row rfl 55 rfl s55, look_row rfl 56 rfl s56, look_row rfl 60 rfl s60, trivial⟩ ?_
           refine t_guard rfl rfl ?_
           refine tp rfl (lv_lss rfl rfl (decide_eq_true h13)) ?_
           exact d_closes ⟨look_row rfl 55 rfl s55, look_row rfl 56 rfl s56, look_row rfl 60 rfl s60, trivial⟩ 61 rfl rfl rfl hS (AgreeR.refl _) (t_sat (fun _ h => h) (hK (bs14, cp15, bs18, cp19, bs22, cp23, bs26, cp27, bs30, cp31, bs34, cp35) ⟨hf0, hf1, hf2, hf3, hf4, hf5, hf6, hf7, hf8, hf9, hf10, hf11⟩))
          · -- 62
           rintro ⟨bs14, cp15, bs18, cp19, bs22, cp23, bs26, cp27, bs30, cp31, bs34, cp35⟩ S hF hS D hp K hK
           try dsimp only at hF ⊢
           obtain ⟨hf0, hf1, hf2, hf3, hf4, hf5, hf6, hf7, hf8, hf9, hf10, hf11⟩ := hF
           have s48 := hp 48 rfl
           have s55 := hp 55 rfl
           have s61 := hp 61 rfl
           refine d_need (small := [(130, (.bool true)), (137, (.bool true)), (143, (.bool true))]) ⟨look_row rfl 48 rfl s48, look_row rfl 55 rfl s55, look_row rfl 61 rfl s61, trivial⟩ ?_
           refine t_guard rfl rfl ?_
           refine tp rfl (lv_pick_t rfl rfl) ?_
           exact d_closes ⟨look_row rfl 48 rfl s48, look_row rfl 55 rfl s55, look_row rfl 61 rfl s61, trivial⟩ 62 rfl rfl rfl hS (AgreeR.refl _) (t_sat (fun _ h => h) (hK (bs14, cp15, bs18, cp19, bs22, cp23, bs26, cp27, bs30, cp31, bs34, cp35) ⟨hf0, hf1, hf2, hf3, hf4, hf5, hf6, hf7, hf8, hf9, hf10, hf11⟩))
          · -- 63
           rintro ⟨bs14, cp15, bs18, cp19, bs22, cp23, bs26, cp27, bs30, cp31, bs34, cp35⟩ S hF hS D hp K hK
           try dsimp only at hF ⊢
           obtain ⟨hf0, hf1, hf2, hf3, hf4, hf5, hf6, hf7, hf8, hf9, hf10, hf11⟩ := hF
           have s48 := hp 48 rfl
           have s62 := hp 62 rfl
           refine d_need (small := [(130, (.bool true)), (144, (.bool true))]) ⟨look_row rfl 48 rfl s48, look_row rfl 62 rfl s62, trivial⟩ ?_
           refine t_guard rfl rfl ?_
           refine tp rfl (lv_move rfl) ?_
           exact d_closes ⟨look_row rfl 48 rfl s48, look_row rfl 62 rfl s62, trivial⟩ 63 rfl rfl rfl hS (AgreeR.refl _) (t_sat (fun _ h => h) (hK (bs14, cp15, bs18, cp19, bs22, cp23, bs26, cp27, bs30, cp31, bs34, cp35) ⟨hf0, hf1, hf2, hf3, hf4, hf5, hf6, hf7, hf8, hf9, hf10, hf11⟩))
          · -- 64
           rintro ⟨bs14, cp15, bs18, cp19, bs22, cp23, bs26, cp27, bs30, cp31, bs34, cp35⟩ S hF hS D hp K hK
           try dsimp only at hF ⊢
           obtain ⟨hf0, hf1, hf2, hf3, hf4, hf5, hf6, hf7, hf8, hf9, hf10, hf11⟩ := hF
           have s63 := hp 63 rfl
           refine d_need (small := [(11, (.pointer (some ⟨p2, 0, none⟩))), (145, (.bool true))]) ⟨look_b rfl rfl, look_row rfl 63 rfl s63, trivial⟩ ?_
           refine t_guard rfl rfl ?_
           refine tp rfl (lv_move rfl) ?_
           exact d_closes ⟨look_b rfl rfl, look_row rfl 63 rfl s63, trivial⟩ 64 rfl rfl rfl hS (AgreeR.refl _) (t_sat (fun _ h => h) (hK (bs14, cp15, bs18, cp19, bs22, cp23, bs26, cp27, bs30, cp31, bs34, cp35) ⟨hf0, hf1, hf2, hf3, hf4, hf5, hf6, hf7, hf8, hf9, hf10, hf11⟩))
          · -- 65
           rintro ⟨bs14, cp15, bs18, cp19, bs22, cp23, bs26, cp27, bs30, cp31, bs34, cp35⟩ S hF hS D hp K hK
           try dsimp only at hF ⊢
           obtain ⟨hf0, hf1, hf2, hf3, hf4, hf5, hf6, hf7, hf8, hf9, hf10, hf11⟩ := hF
           have s63 := hp 63 rfl
           refine d_need (small := [(2, (.int .i64 a)), (145, (.bool true))]) ⟨look_b rfl rfl, look_row rfl 63 rfl s63, trivial⟩ ?_
           refine t_guard rfl rfl ?_
           refine tp rfl (lv_move rfl) ?_
           exact d_closes ⟨look_b rfl rfl, look_row rfl 63 rfl s63, trivial⟩ 65 rfl rfl rfl hS (AgreeR.refl _) (t_sat (fun _ h => h) (hK (bs14, cp15, bs18, cp19, bs22, cp23, bs26, cp27, bs30, cp31, bs34, cp35) ⟨hf0, hf1, hf2, hf3, hf4, hf5, hf6, hf7, hf8, hf9, hf10, hf11⟩))
          · -- 66
           rintro ⟨bs14, cp15, bs18, cp19, bs22, cp23, bs26, cp27, bs30, cp31, bs34, cp35⟩ S hF hS D hp K hK
           try dsimp only at hF ⊢
           obtain ⟨hf0, hf1, hf2, hf3, hf4, hf5, hf6, hf7, hf8, hf9, hf10, hf11⟩ := hF
           have s63 := hp 63 rfl
           refine d_need (small := [(3, (.int .i64 b)), (145, (.bool true))]) ⟨look_b rfl rfl, look_row rfl 63 rfl s63, trivial⟩ ?_
           refine t_guard rfl rfl ?_
           refine tp rfl (lv_move rfl) ?_
           exact d_closes ⟨look_b rfl rfl, look_row rfl 63 rfl s63, trivial⟩ 66 rfl rfl rfl hS (AgreeR.refl _) (t_sat (fun _ h => h) (hK (bs14, cp15, bs18, cp19, bs22, cp23, bs26, cp27, bs30, cp31, bs34, cp35) ⟨hf0, hf1, hf2, hf3, hf4, hf5, hf6, hf7, hf8, hf9, hf10, hf11⟩))
          · -- 67
           rintro ⟨bs14, cp15, bs18, cp19, bs22, cp23, bs26, cp27, bs30, cp31, bs34, cp35⟩ S hF hS D hp K hK
           try dsimp only at hF ⊢
           obtain ⟨hf0, hf1, hf2, hf3, hf4, hf5, hf6, hf7, hf8, hf9, hf10, hf11⟩ := hF
           have s63 := hp 63 rfl
           have s64 := hp 64 rfl
           have s65 := hp 65 rfl
           have s66 := hp 66 rfl
           refine d_need (small := [(145, (.bool true)), (146, (.pointer (some ⟨p2, 0, none⟩))), (147, (.int .i64 a)), (148, (.int .i64 b))]) ⟨look_row rfl 63 rfl s63, look_row rfl 64 rfl s64, look_row rfl 65 rfl s65, look_row rfl 66 rfl s66, trivial⟩ ?_
           refine t_guard rfl rfl ?_
           refine t_f1 ?_
           refine t_f1 ?_
           refine tc rfl (en_fn Tryd.call28 rfl) (rreaches_ok (N := M) (es := F) a b hok10 hE hg) ?_
           rintro _ _ ⟨rfl, rfl⟩
           exact d_closes ⟨look_row rfl 63 rfl s63, look_row rfl 64 rfl s64, look_row rfl 65 rfl s65, look_row rfl 66 rfl s66, trivial⟩ 67 rfl rfl rfl hS (AgreeR.refl _) (t_sat (fun _ h => h) (hK (bs14, cp15, bs18, cp19, bs22, cp23, bs26, cp27, bs30, cp31, bs34, cp35) ⟨hf0, hf1, hf2, hf3, hf4, hf5, hf6, hf7, hf8, hf9, hf10, hf11⟩))
          · -- 68
           rintro ⟨bs14, cp15, bs18, cp19, bs22, cp23, bs26, cp27, bs30, cp31, bs34, cp35⟩ S hF hS D hp K hK
           try dsimp only at hF ⊢
           obtain ⟨hf0, hf1, hf2, hf3, hf4, hf5, hf6, hf7, hf8, hf9, hf10, hf11⟩ := hF
           have s48 := hp 48 rfl
           have s63 := hp 63 rfl
           have s67 := hp 67 rfl
           refine d_need (small := [(130, (.bool true)), (145, (.bool true)), (149, (.bool (reachB M F a b)))]) ⟨look_row rfl 48 rfl s48, look_row rfl 63 rfl s63, look_row rfl 67 rfl s67, trivial⟩ ?_
           refine t_guard rfl rfl ?_
           refine tp rfl (lv_pick_t rfl rfl) ?_
           exact d_closes ⟨look_row rfl 48 rfl s48, look_row rfl 63 rfl s63, look_row rfl 67 rfl s67, trivial⟩ 68 rfl rfl rfl hS (AgreeR.refl _) (t_sat (fun _ h => h) (hK (bs14, cp15, bs18, cp19, bs22, cp23, bs26, cp27, bs30, cp31, bs34, cp35) ⟨hf0, hf1, hf2, hf3, hf4, hf5, hf6, hf7, hf8, hf9, hf10, hf11⟩))
          · -- 69
           rintro ⟨bs14, cp15, bs18, cp19, bs22, cp23, bs26, cp27, bs30, cp31, bs34, cp35⟩ S hF hS D hp K hK
           try dsimp only at hF ⊢
           obtain ⟨hf0, hf1, hf2, hf3, hf4, hf5, hf6, hf7, hf8, hf9, hf10, hf11⟩ := hF
           have s48 := hp 48 rfl
           have s52 := hp 52 rfl
           have s68 := hp 68 rfl
           refine d_need (small := [(130, (.bool true)), (134, (.bool (reachB M F a b))), (150, (.bool (reachB M F a b)))]) ⟨look_row rfl 48 rfl s48, look_row rfl 52 rfl s52, look_row rfl 68 rfl s68, trivial⟩ ?_
           refine t_guard rfl rfl ?_
           refine tp rfl (lv_eqb Tryd.underlying4 rfl rfl (by first | exact beq_self_eq_true _ | rw [reachB_badb (by omega)])) ?_
           exact d_closes ⟨look_row rfl 48 rfl s48, look_row rfl 52 rfl s52, look_row rfl 68 rfl s68, trivial⟩ 69 rfl rfl rfl hS (AgreeR.refl _) (t_sat (fun _ h => h) (hK (bs14, cp15, bs18, cp19, bs22, cp23, bs26, cp27, bs30, cp31, bs34, cp35) ⟨hf0, hf1, hf2, hf3, hf4, hf5, hf6, hf7, hf8, hf9, hf10, hf11⟩))
          · -- 70
           rintro ⟨bs14, cp15, bs18, cp19, bs22, cp23, bs26, cp27, bs30, cp31, bs34, cp35⟩ S hF hS D hp K hK
           try dsimp only at hF ⊢
           obtain ⟨hf0, hf1, hf2, hf3, hf4, hf5, hf6, hf7, hf8, hf9, hf10, hf11⟩ := hF
           have s48 := hp 48 rfl
           have s69 := hp 69 rfl
           refine d_need (small := [(130, (.bool true)), (151, (.bool true))]) ⟨look_row rfl 48 rfl s48, look_row rfl 69 rfl s69, trivial⟩ ?_
           refine tp rfl (lv_pick_t rfl rfl) ?_
           exact d_closes ⟨look_row rfl 48 rfl s48, look_row rfl 69 rfl s69, trivial⟩ 70 rfl rfl rfl hS (AgreeR.refl _) (t_sat (fun _ h => h) (hK (bs14, cp15, bs18, cp19, bs22, cp23, bs26, cp27, bs30, cp31, bs34, cp35) ⟨hf0, hf1, hf2, hf3, hf4, hf5, hf6, hf7, hf8, hf9, hf10, hf11⟩))
          · -- 71
           rintro ⟨bs14, cp15, bs18, cp19, bs22, cp23, bs26, cp27, bs30, cp31, bs34, cp35⟩ S hF hS D hp K hK
           try dsimp only at hF ⊢
           obtain ⟨hf0, hf1, hf2, hf3, hf4, hf5, hf6, hf7, hf8, hf9, hf10, hf11⟩ := hF
           have s70 := hp 70 rfl
           refine d_need (small := [(152, (.bool true))]) ⟨look_row rfl 70 rfl s70, trivial⟩ ?_
           refine tp rfl (lv_assign rfl) ?_
           exact d_closes ⟨look_row rfl 70 rfl s70, trivial⟩ 71 rfl rfl rfl hS (AgreeR.refl _) (t_sat (fun _ h => h) (hK (bs14, cp15, bs18, cp19, bs22, cp23, bs26, cp27, bs30, cp31, bs34, cp35) ⟨hf0, hf1, hf2, hf3, hf4, hf5, hf6, hf7, hf8, hf9, hf10, hf11⟩))
         · -- behind
          rintro ⟨bs14, cp15, bs18, cp19, bs22, cp23, bs26, cp27, bs30, cp31, bs34, cp35⟩ hF
          try dsimp only at hF ⊢
          obtain ⟨hf0, hf1, hf2, hf3, hf4, hf5, hf6, hf7, hf8, hf9, hf10, hf11⟩ := hF
          have hok16 := hf0 rfl
          have hle17 := hf1 rfl
          have hok20 := hf2 rfl
          have hle21 := hf3 rfl
          have hok24 := hf4 rfl
          have hle25 := hf5 rfl
          have hok28 := hf6 rfl
          have hle29 := hf7 rfl
          have hok32 := hf8 rfl
          have hle33 := hf9 rfl
          have hok36 := hf10 rfl
          have hle37 := hf11 rfl
          refine t_weak (E' := [(0, (.int .i64 n)), (1, (.slice bl es.length cl)), (2, (.int .i64 a)), (3, (.int .i64 b)), (8, (.bool true)), (9, (.bool true)), (10, (.pointer (some ⟨p1, 0, none⟩))), (11, (.pointer (some ⟨p2, 0, none⟩))), (12, (.int .i64 ((k : Nat) : Int))), (23, (.bool false)), (31, (.bool false))]) ⟨rfl, rfl, rfl, rfl, rfl, rfl, rfl, rfl, rfl, rfl, rfl, trivial⟩ ?_
          refine q_then_n (hK12 _ _ ?_)
          refine c_ret ?_
          refine t_drop ?_
          refine t_drop ?_
          refine t_drop ?_
          refine t_drop ?_
          refine t_drop ?_
          refine t_drop ?_
          refine t_drop ?_
          refine t_drop ?_
          refine t_drop ?_
          refine q_ret rfl rfl ?_
          exact ⟨rfl, rfl⟩
        · -- no
         refine c_draw (γ := Option Addr × Nat × Option Addr × Nat × Option Addr × Nat × Option Addr × Nat × Option Addr × Nat × Option Addr × Nat) (n := 72) Tryd.mixed rfl rfl (fun (bs14, cp15, bs18, cp19, bs22, cp23, bs26, cp27, bs30, cp31, bs34, cp35) S => (S 24 = true → SlOk bs14 ((outs F a).length)) ∧ (S 24 = true → (outs F a).length ≤ cp15) ∧ (S 27 = true → SlOk bs18 ((outs F a).length)) ∧ (S 27 = true → (outs F a).length ≤ cp19) ∧ (S 33 = true → SlOk bs22 ((inns F a).length)) ∧ (S 33 = true → (inns F a).length ≤ cp23) ∧ (S 36 = true → SlOk bs26 ((inns F a).length)) ∧ (S 36 = true → (inns F a).length ≤ cp27) ∧ (S 42 = true → SlOk bs30 ((reachL M F a).length)) ∧ (S 42 = true → (reachL M F a).length ≤ cp31) ∧ (S 45 = true → SlOk bs34 ((reachL M F a).length)) ∧ (S 45 = true → (reachL M F a).length ≤ cp35)) (fun (bs14, cp15, bs18, cp19, bs22, cp23, bs26, cp27, bs30, cp31, bs34, cp35) => [(0, 82, (.bool true)), (1, 83, (.bool true)), (2, 84, (.pointer (some ⟨p1, 0, none⟩))), (3, 85, (.int .i64 ((M : Nat) : Int))), (4, 86, (.pointer (some ⟨p2, 0, none⟩))), (5, 87, (.pointer (some ⟨p2, 0, none⟩))), (6, 88, (.pointer (some ⟨p2, 0, none⟩))), (7, 89, (.int .i64 ((M : Nat) : Int))), (8, 90, (.bool true)), (9, 91, (.bool true)), (10, 92, (.bool true)), (11, 93, (.pointer (some ⟨p1, 0, none⟩))), (12, 94, (.int .i64 a)), (13, 95, (.int .i64 b)), (14, 96, (.bool (hasE F (a, b)))), (15, 97, (.pointer (some ⟨p2, 0, none⟩))), (16, 98, (.int .i64 a)), (17, 99, (.int .i64 b)), (18, 100, (.bool (hasE F (a, b)))), (19, 101, (.bool true)), (20, 102, (.bool true)), (21, 103, (.bool true)), (22, 104, (.pointer (some ⟨p1, 0, none⟩))), (23, 105, (.int .i64 a)), (24, 106, (.slice bs14 ((outs F a).length) cp15)), (25, 107, (.pointer (some ⟨p2, 0, none⟩))), (26, 108, (.int .i64 a)), (27, 109, (.slice bs18 ((outs F a).length) cp19)), (28, 110, (.bool true)), (29, 111, (.bool true)), (30, 112, (.bool true)), (31, 113, (.pointer (some ⟨p1, 0, none⟩))), (32, 114, (.int .i64 a)), (33, 115, (.slice bs22 ((inns F a).length) cp23)), (34, 116, (.pointer (some ⟨p2, 0, none⟩))), (35, 117, (.int .i64 a)), (36, 118, (.slice bs26 ((inns F a).length) cp27)), (37, 119, (.bool true)), (38, 120, (.bool true)), (39, 121, (.bool true)), (40, 122, (.pointer (some ⟨p1, 0, none⟩))), (41, 123, (.int .i64 a)), (42, 124, (.slice bs30 ((reachL M F a).length) cp31)), (43, 125, (.pointer (some ⟨p2, 0, none⟩))), (44, 126, (.int .i64 a)), (45, 127, (.slice bs34 ((reachL M F a).length) cp35)), (46, 128, (.bool true)), (47, 129, (.bool true)), (48, 130, (.bool true)), (49, 131, (.pointer (some ⟨p1, 0, none⟩))), (50, 132, (.int .i64 a)), (51, 133, (.int .i64 b)), (52, 134, (.bool (reachB M F a b))), (53, 135, (.int .i64 b)), (54, 136, (.bool true)), (55, 137, (.bool true)), (56, 138, (.int .i64 b)), (57, 139, (.pointer (some ⟨p2, 0, none⟩))), (58, 140, (.pointer (some ⟨p2, 0, none⟩))), (59, 141, (.pointer (some ⟨p2, 0, none⟩))), (60, 142, (.int .i64 ((M : Nat) : Int))), (61, 143, (.bool false)), (62, 144, (.bool false)), (63, 145, (.bool false)), (64, 146, undef), (65, 147, undef), (66, 148, undef), (67, 149, undef), (68, 150, (.bool false)), (69, 151, (.bool true)), (70, 152, (.bool true)), (71, 8, (.bool true))]) (fun (bs14, cp15, bs18, cp19, bs22, cp23, bs26, cp27, bs30, cp31, bs34, cp35) S => (Blk p2 [(.int .i64 ((M : Nat) : Int)), (.slice bs8 F.length cp9)] 46) :: (SlV 59 2 (.slice bs8 F.length cp9) F.length (pairs F)) :: (GraphO p1 M F) :: (bif S 24 then (SlV 3 1 (.slice bs14 ((outs F a).length) cp15) ((outs F a).length) (ints .i64 (outs F a))) else Emp) :: (bif S 27 then (SlV 3 1 (.slice bs18 ((outs F a).length) cp19) ((outs F a).length) (ints .i64 (outs F a))) else Emp) :: (bif S 33 then (SlV 3 1 (.slice bs22 ((inns F a).length) cp23) ((inns F a).length) (ints .i64 (inns F a))) else Emp) :: (bif S 36 then (SlV 3 1 (.slice bs26 ((inns F a).length) cp27) ((inns F a).length) (ints .i64 (inns F a))) else Emp) :: (bif S 42 then (SlV 3 1 (.slice bs30 ((reachL M F a).length) cp31) ((reachL M F a).length) (ints .i64 (reachL M F a))) else Emp) :: (bif S 45 then (SlV 3 1 (.slice bs34 ((reachL M F a).length) cp35) ((reachL M F a).length) (ints .i64 (reachL M F a))) else Emp) :: R) (none, 0, none, 0, none, 0, none, 0, none, 0, none, 0) (by simp [Nat.ble]) (fun _ h => sat_emps [_, _, _] 6 h) (fun _ _ h => h) ?_ ?_
         · -- steps
          refine ⟨?_, ?_, ?_, ?_, ?_, ?_, ?_, ?_, ?_, ?_, ?_, ?_, ?_, ?_, ?_, ?_, ?_, ?_, ?_, ?_, ?_, ?_, ?_, ?_, ?_, ?_, ?_, ?_, ?_, ?_, ?_, ?_, ?_, ?_, ?_, ?_, ?_, ?_, ?_, ?_, ?_, ?_, ?_, ?_, ?_, ?_, ?_, ?_, ?_, ?_, ?_, ?_, ?_, ?_, ?_, ?_, ?_, ?_, ?_, ?_, ?_, ?_, ?_, ?_, ?_, ?_, ?_, ?_, ?_, ?_, ?_, ?_, trivial⟩
          · -- 0
           rintro ⟨bs14, cp15, bs18, cp19, bs22, cp23, bs26, cp27, bs30, cp31, bs34, cp35⟩ S hF hS D hp K hK
           try dsimp only at hF ⊢
           obtain ⟨hf0, hf1, hf2, hf3, hf4, hf5, hf6, hf7, hf8, hf9, hf10, hf11⟩ := hF
           refine d_need (small := [(9, (.bool true))]) ⟨look_b rfl rfl, trivial⟩ ?_
           refine tp rfl (lv_move rfl) ?_
           exact d_closes ⟨look_b rfl rfl, trivial⟩ 0 rfl rfl rfl hS (AgreeR.refl _) (t_sat (fun _ h => h) (hK (bs14, cp15, bs18, cp19, bs22, cp23, bs26, cp27, bs30, cp31, bs34, cp35) ⟨hf0, hf1, hf2, hf3, hf4, hf5, hf6, hf7, hf8, hf9, hf10, hf11⟩))
          · -- 1
           rintro ⟨bs14, cp15, bs18, cp19, bs22, cp23, bs26, cp27, bs30, cp31, bs34, cp35⟩ S hF hS D hp K hK
           try dsimp only at hF ⊢
           obtain ⟨hf0, hf1, hf2, hf3, hf4, hf5, hf6, hf7, hf8, hf9, hf10, hf11⟩ := hF
           have s0 := hp 0 rfl
           refine d_need (small := [(82, (.bool true))]) ⟨look_row rfl 0 rfl s0, trivial⟩ ?_
           refine tp rfl (lv_move rfl) ?_
           exact d_closes ⟨look_row rfl 0 rfl s0, trivial⟩ 1 rfl rfl rfl hS (AgreeR.refl _) (t_sat (fun _ h => h) (hK (bs14, cp15, bs18, cp19, bs22, cp23, bs26, cp27, bs30, cp31, bs34, cp35) ⟨hf0, hf1, hf2, hf3, hf4, hf5, hf6, hf7, hf8, hf9, hf10, hf11⟩))
          · -- 2
           rintro ⟨bs14, cp15, bs18, cp19, bs22, cp23, bs26, cp27, bs30, cp31, bs34, cp35⟩ S hF hS D hp K hK
           try dsimp only at hF ⊢
           obtain ⟨hf0, hf1, hf2, hf3, hf4, hf5, hf6, hf7, hf8, hf9, hf10, hf11⟩ := hF
           have s1 := hp 1 rfl
           refine d_need (small := [(10, (.pointer (some ⟨p1, 0, none⟩))), (83, (.bool true))]) ⟨look_b rfl rfl, look_row rfl 1 rfl s1, trivial⟩ ?_
           refine t_guard rfl rfl ?_
           refine tp rfl (lv_move rfl) ?_
           exact d_closes ⟨look_b rfl rfl, look_row rfl 1 rfl s1, trivial⟩ 2 rfl rfl rfl hS (AgreeR.refl _) (t_sat (fun _ h => h) (hK (bs14, cp15, bs18, cp19, bs22, cp23, bs26, cp27, bs30, cp31, bs34, cp35) ⟨hf0, hf1, hf2, hf3, hf4, hf5, hf6, hf7, hf8, hf9, hf10, hf11⟩))
          · -- 3
           rintro ⟨bs14, cp15, bs18, cp19, bs22, cp23, bs26, cp27, bs30, cp31, bs34, cp35⟩ S hF hS D hp K hK
           try dsimp only at hF ⊢
           obtain ⟨hf0, hf1, hf2, hf3, hf4, hf5, hf6, hf7, hf8, hf9, hf10, hf11⟩ := hF
           have s1 := hp 1 rfl
           have s2 := hp 2 rfl
           refine d_need (small := [(83, (.bool true)), (84, (.pointer (some ⟨p1, 0, none⟩)))]) ⟨look_row rfl 1 rfl s1, look_row rfl 2 rfl s2, trivial⟩ ?_
           refine t_guard rfl rfl ?_
           refine t_f2 ?_
           refine tc rfl (en_fn Tryd.call18 rfl) (n_ok) ?_
           rintro _ _ ⟨rfl, rfl⟩
           refine t_f2 ?_
           refine t_f2 ?_
           exact d_closes ⟨look_row rfl 1 rfl s1, look_row rfl 2 rfl s2, trivial⟩ 3 rfl rfl rfl hS (AgreeR.refl _) (t_sat (fun _ h => h) (hK (bs14, cp15, bs18, cp19, bs22, cp23, bs26, cp27, bs30, cp31, bs34, cp35) ⟨hf0, hf1, hf2, hf3, hf4, hf5, hf6, hf7, hf8, hf9, hf10, hf11⟩))
          · -- 4
           rintro ⟨bs14, cp15, bs18, cp19, bs22, cp23, bs26, cp27, bs30, cp31, bs34, cp35⟩ S hF hS D hp K hK
           try dsimp only at hF ⊢
           obtain ⟨hf0, hf1, hf2, hf3, hf4, hf5, hf6, hf7, hf8, hf9, hf10, hf11⟩ := hF
           have s1 := hp 1 rfl
           refine d_need (small := [(11, (.pointer (some ⟨p2, 0, none⟩))), (83, (.bool true))]) ⟨look_b rfl rfl, look_row rfl 1 rfl s1, trivial⟩ ?_
           refine t_guard rfl rfl ?_
           refine tp rfl (lv_move rfl) ?_
           exact d_closes ⟨look_b rfl rfl, look_row rfl 1 rfl s1, trivial⟩ 4 rfl rfl rfl hS (AgreeR.refl _) (t_sat (fun _ h => h) (hK (bs14, cp15, bs18, cp19, bs22, cp23, bs26, cp27, bs30, cp31, bs34, cp35) ⟨hf0, hf1, hf2, hf3, hf4, hf5, hf6, hf7, hf8, hf9, hf10, hf11⟩))
          · -- 5
           rintro ⟨bs14, cp15, bs18, cp19, bs22, cp23, bs26, cp27, bs30, cp31, bs34, cp35⟩ S hF hS D hp K hK
           try dsimp only at hF ⊢
           obtain ⟨hf0, hf1, hf2, hf3, hf4, hf5, hf6, hf7, hf8, hf9, hf10, hf11⟩ := hF
           have s1 := hp 1 rfl
           have s4 := hp 4 rfl
           refine d_need (small := [(83, (.bool true)), (86, (.pointer (some ⟨p2, 0, none⟩)))]) ⟨look_row rfl 1 rfl s1, look_row rfl 4 rfl s4, trivial⟩ ?_
           refine t_guard rfl rfl ?_
           refine tp rfl (lv_nilCheck rfl) ?_
           exact d_closes ⟨look_row rfl 1 rfl s1, look_row rfl 4 rfl s4, trivial⟩ 5 rfl rfl rfl hS (AgreeR.refl _) (t_sat (fun _ h => h) (hK (bs14, cp15, bs18, cp19, bs22, cp23, bs26, cp27, bs30, cp31, bs34, cp35) ⟨hf0, hf1, hf2, hf3, hf4, hf5, hf6, hf7, hf8, hf9, hf10, hf11⟩))
          · -- 6
           rintro ⟨bs14, cp15, bs18, cp19, bs22, cp23, bs26, cp27, bs30, cp31, bs34, cp35⟩ S hF hS D hp K hK
           try dsimp only at hF ⊢
           obtain ⟨hf0, hf1, hf2, hf3, hf4, hf5, hf6, hf7, hf8, hf9, hf10, hf11⟩ := hF
           have s1 := hp 1 rfl
           have s5 := hp 5 rfl
           refine d_need (small := [(83, (.bool true)), (87, (.pointer (some ⟨p2, 0, none⟩)))]) ⟨look_row rfl 1 rfl s1, look_row rfl 5 rfl s5, trivial⟩ ?_
           refine t_guard rfl rfl ?_
           refine tp rfl (lv_fieldAddr (o' := 0) Tryd.underlying46 rfl Tryd.sizeOf3 rfl rfl) ?_
           exact d_closes ⟨look_row rfl 1 rfl s1, look_row rfl 5 rfl s5, trivial⟩ 6 rfl rfl rfl hS (AgreeR.refl _) (t_sat (fun _ h => h) (hK (bs14, cp15, bs18, cp19, bs22, cp23, bs26, cp27, bs30, cp31, bs34, cp35) ⟨hf0, hf1, hf2, hf3, hf4, hf5, hf6, hf7, hf8, hf9, hf10, hf11⟩))
          · -- 7
           rintro ⟨bs14, cp15, bs18, cp19, bs22, cp23, bs26, cp27, bs30, cp31, bs34, cp35⟩ S hF hS D hp K hK
           try dsimp only at hF ⊢
           obtain ⟨hf0, hf1, hf2, hf3, hf4, hf5, hf6, hf7, hf8, hf9, hf10, hf11⟩ := hF
           have s1 := hp 1 rfl
           have s6 := hp 6 rfl
           refine d_need (small := [(83, (.bool true)), (88, (.pointer (some ⟨p2, 0, none⟩)))]) ⟨look_row rfl 1 rfl s1, look_row rfl 6 rfl s6, trivial⟩ ?_
           refine t_guard rfl rfl ?_
           refine tp rfl (lv_load Tryd.isAgg3 rfl (gives_blk (.head _) rfl)) ?_
           exact d_closes ⟨look_row rfl 1 rfl s1, look_row rfl 6 rfl s6, trivial⟩ 7 rfl rfl rfl hS (AgreeR.refl _) (t_sat (fun _ h => h) (hK (bs14, cp15, bs18, cp19, bs22, cp23, bs26, cp27, bs30, cp31, bs34, cp35) ⟨hf0, hf1, hf2, hf3, hf4, hf5, hf6, hf7, hf8, hf9, hf10, hf11⟩))
          · -- 8
           rintro ⟨bs14, cp15, bs18, cp19, bs22, cp23, bs26, cp27, bs30, cp31, bs34, cp35⟩ S hF hS D hp K hK
           try dsimp only at hF ⊢
           obtain ⟨hf0, hf1, hf2, hf3, hf4, hf5, hf6, hf7, hf8, hf9, hf10, hf11⟩ := hF
           have s1 := hp 1 rfl
           have s3 := hp 3 rfl
           have s7 := hp 7 rfl
           refine d_need (small := [(83, (.bool true)), (85, (.int .i64 ((M : Nat) : Int))), (89, (.int .i64 ((M : Nat) : Int)))]) ⟨look_row rfl 1 rfl s1, look_row rfl 3 rfl s3, look_row rfl 7 rfl s7, trivial⟩ ?_
           refine t_guard rfl rfl ?_
           refine tp rfl (lv_eql rfl rfl (beq_iff_eq.2 rfl)) ?_
           exact d_closes ⟨look_row rfl 1 rfl s1, look_row rfl 3 rfl s3, look_row rfl 7 rfl s7, trivial⟩ 8 rfl rfl rfl hS (AgreeR.refl _) (t_sat (fun _ h => h) (hK (bs14, cp15, bs18, cp19, bs22, cp23, bs26, cp27, bs30, cp31, bs34, cp35) ⟨hf0, hf1, hf2, hf3, hf4, hf5, hf6, hf7, hf8, hf9, hf10, hf11⟩))
          · -- 9
           rintro ⟨bs14, cp15, bs18, cp19, bs22, cp23, bs26, cp27, bs30, cp31, bs34, cp35⟩ S hF hS D hp K hK
           try dsimp only at hF ⊢
           obtain ⟨hf0, hf1, hf2, hf3, hf4, hf5, hf6, hf7, hf8, hf9, hf10, hf11⟩ := hF
           have s1 := hp 1 rfl
           have s8 := hp 8 rfl
           refine d_need (small := [(83, (.bool true)), (90, (.bool true))]) ⟨look_row rfl 1 rfl s1, look_row rfl 8 rfl s8, trivial⟩ ?_
           refine tp rfl (lv_pick_t rfl rfl) ?_
           exact d_closes ⟨look_row rfl 1 rfl s1, look_row rfl 8 rfl s8, trivial⟩ 9 rfl rfl rfl hS (AgreeR.refl _) (t_sat (fun _ h => h) (hK (bs14, cp15, bs18, cp19, bs22, cp23, bs26, cp27, bs30, cp31, bs34, cp35) ⟨hf0, hf1, hf2, hf3, hf4, hf5, hf6, hf7, hf8, hf9, hf10, hf11⟩))
          · -- 10
           rintro ⟨bs14, cp15, bs18, cp19, bs22, cp23, bs26, cp27, bs30, cp31, bs34, cp35⟩ S hF hS D hp K hK
           try dsimp only at hF ⊢
           obtain ⟨hf0, hf1, hf2, hf3, hf4, hf5, hf6, hf7, hf8, hf9, hf10, hf11⟩ := hF
           have s9 := hp 9 rfl
           refine d_need (small := [(91, (.bool true))]) ⟨look_row rfl 9 rfl s9, trivial⟩ ?_
           refine tp rfl (lv_move rfl) ?_
           exact d_closes ⟨look_row rfl 9 rfl s9, trivial⟩ 10 rfl rfl rfl hS (AgreeR.refl _) (t_sat (fun _ h => h) (hK (bs14, cp15, bs18, cp19, bs22, cp23, bs26, cp27, bs30, cp31, bs34, cp35) ⟨hf0, hf1, hf2, hf3, hf4, hf5, hf6, hf7, hf8, hf9, hf10, hf11⟩))
          · -- 11
           rintro ⟨bs14, cp15, bs18, cp19, bs22, cp23, bs26, cp27, bs30, cp31, bs34, cp35⟩ S hF hS D hp K hK
           try dsimp only at hF ⊢
           obtain ⟨hf0, hf1, hf2, hf3, hf4, hf5, hf6, hf7, hf8, hf9, hf10, hf11⟩ := hF
           have s10 := hp 10 rfl
           refine d_need (small := [(10, (.pointer (some ⟨p1, 0, none⟩))), (92, (.bool true))]) ⟨look_b rfl rfl, look_row rfl 10 rfl s10, trivial⟩ ?_
           refine t_guard rfl rfl ?_
           refine tp rfl (lv_move rfl) ?_
           exact d_closes ⟨look_b rfl rfl, look_row rfl 10 rfl s10, trivial⟩ 11 rfl rfl rfl hS (AgreeR.refl _) (t_sat (fun _ h => h) (hK (bs14, cp15, bs18, cp19, bs22, cp23, bs26, cp27, bs30, cp31, bs34, cp35) ⟨hf0, hf1, hf2, hf3, hf4, hf5, hf6, hf7, hf8, hf9, hf10, hf11⟩))
          · -- 12
           rintro ⟨bs14, cp15, bs18, cp19, bs22, cp23, bs26, cp27, bs30, cp31, bs34, cp35⟩ S hF hS D hp K hK
           try dsimp only at hF ⊢
           obtain ⟨hf0, hf1, hf2, hf3, hf4, hf5, hf6, hf7, hf8, hf9, hf10, hf11⟩ := hF
           have s10 := hp 10 rfl
           refine d_need (small := [(2, (.int .i64 a)), (92, (.bool true))]) ⟨look_b rfl rfl, look_row rfl 10 rfl s10, trivial⟩ ?_
           refine t_guard rfl rfl ?_
           refine tp rfl (lv_move rfl) ?_
           exact d_closes ⟨look_b rfl rfl, look_row rfl 10 rfl s10, trivial⟩ 12 rfl rfl rfl hS (AgreeR.refl _) (t_sat (fun _ h => h) (hK (bs14, cp15, bs18, cp19, bs22, cp23, bs26, cp27, bs30, cp31, bs34, cp35) ⟨hf0, hf1, hf2, hf3, hf4, hf5, hf6, hf7, hf8, hf9, hf10, hf11⟩))
          · -- 13
           rintro ⟨bs14, cp15, bs18, cp19, bs22, cp23, bs26, cp27, bs30, cp31, bs34, cp35⟩ S hF hS D hp K hK
           try dsimp only at hF ⊢
           obtain ⟨hf0, hf1, hf2, hf3, hf4, hf5, hf6, hf7, hf8, hf9, hf10, hf11⟩ := hF
           have s10 := hp 10 rfl
           refine d_need (small := [(3, (.int .i64 b)), (92, (.bool true))]) ⟨look_b rfl rfl, look_row rfl 10 rfl s10, trivial⟩ ?_
           refine t_guard rfl rfl ?_
           refine tp rfl (lv_move rfl) ?_
           exact d_closes ⟨look_b rfl rfl, look_row rfl 10 rfl s10, trivial⟩ 13 rfl rfl rfl hS (AgreeR.refl _) (t_sat (fun _ h => h) (hK (bs14, cp15, bs18, cp19, bs22, cp23, bs26, cp27, bs30, cp31, bs34, cp35) ⟨hf0, hf1, hf2, hf3, hf4, hf5, hf6, hf7, hf8, hf9, hf10, hf11⟩))
          · -- 14
           rintro ⟨bs14, cp15, bs18, cp19, bs22, cp23, bs26, cp27, bs30, cp31, bs34, cp35⟩ S hF hS D hp K hK
           try dsimp only at hF ⊢
           obtain ⟨hf0, hf1, hf2, hf3, hf4, hf5, hf6, hf7, hf8, hf9, hf10, hf11⟩ := hF
           have s10 := hp 10 rfl
           have s11 := hp 11 rfl
           have s12 := hp 12 rfl
           have s13 := hp 13 rfl
           refine d_need (small := [(92, (.bool true)), (93, (.pointer (some ⟨p1, 0, none⟩))), (94, (.int .i64 a)), (95, (.int .i64 b))]) ⟨look_row rfl 10 rfl s10, look_row rfl 11 rfl s11, look_row rfl 12 rfl s12, look_row rfl 13 rfl s13, trivial⟩ ?_
           refine t_guard rfl rfl ?_
           refine t_f2 ?_
           refine tc rfl (en_fn Tryd.call17 rfl) (hasE_ok (N := M) (es := F) a b) ?_
           rintro _ _ ⟨rfl, rfl⟩
           refine t_f2 ?_
           refine t_f2 ?_
           exact d_closes ⟨look_row rfl 10 rfl s10, look_row rfl 11 rfl s11, look_row rfl 12 rfl s12, look_row rfl 13 rfl s13, trivial⟩ 14 rfl rfl rfl hS (AgreeR.refl _) (t_sat (fun _ h => h) (hK (bs14, cp15, bs18, cp19, bs22, cp23, bs26, cp27, bs30, cp31, bs34, cp35) ⟨hf0, hf1, hf2, hf3, hf4, hf5, hf6, hf7, hf8, hf9, hf10, hf11⟩))
          · -- 15
           rintro ⟨bs14, cp15, bs18, cp19, bs22, cp23, bs26, cp27, bs30, cp31, bs34, cp35⟩ S hF hS D hp K hK
           try dsimp only at hF ⊢
           obtain ⟨hf0, hf1, hf2, hf3, hf4, hf5, hf6, hf7, hf8, hf9, hf10, hf11⟩ := hF
           have s10 := hp 10 rfl
           refine d_need (small := [(11, (.pointer (some ⟨p2, 0, none⟩))), (92, (.bool true))]) ⟨look_b rfl rfl, look_row rfl 10 rfl s10, trivial⟩ ?_
           refine t_guard rfl rfl ?_
           refine tp rfl (lv_move rfl) ?_
           exact d_closes ⟨look_b rfl rfl, look_row rfl 10 rfl s10, trivial⟩ 15 rfl rfl rfl hS (AgreeR.refl _) (t_sat (fun _ h => h) (hK (bs14, cp15, bs18, cp19, bs22, cp23, bs26, cp27, bs30, cp31, bs34, cp35) ⟨hf0, hf1, hf2, hf3, hf4, hf5, hf6, hf7, hf8, hf9, hf10, hf11⟩))
          · -- 16
           rintro ⟨bs14, cp15, bs18, cp19, bs22, cp23, bs26, cp27, bs30, cp31, bs34, cp35⟩ S hF hS D hp K hK
           try dsimp only at hF ⊢
           obtain ⟨hf0, hf1, hf2, hf3, hf4, hf5, hf6, hf7, hf8, hf9, hf10, hf11⟩ := hF
           have s10 := hp 10 rfl
           refine d_need (small := [(2, (.int .i64 a)), (92, (.bool true))]) ⟨look_b rfl rfl, look_row rfl 10 rfl s10, trivial⟩ ?_
           refine t_guard rfl rfl ?_
           refine tp rfl (lv_move rfl) ?_
           exact d_closes ⟨look_b rfl rfl, look_row rfl 10 rfl s10, trivial⟩ 16 rfl rfl rfl hS (AgreeR.refl _) (t_sat (fun _ h => h) (hK (bs14, cp15, bs18, cp19, bs22, cp23, bs26, cp27, bs30, cp31, bs34, cp35) ⟨hf0, hf1, hf2, hf3, hf4, hf5, hf6, hf7, hf8, hf9, hf10, hf11⟩))
          · -- 17
           rintro ⟨bs14, cp15, bs18, cp19, bs22, cp23, bs26, cp27, bs30, cp31, bs34, cp35⟩ S hF hS D hp K hK
           try dsimp only at hF ⊢
           obtain ⟨hf0, hf1, hf2, hf3, hf4, hf5, hf6, hf7, hf8, hf9, hf10, hf11⟩ := hF
           have s10 := hp 10 rfl
           refine d_need (small := [(3, (.int .i64 b)), (92, (.bool true))]) ⟨look_b rfl rfl, look_row rfl 10 rfl s10, trivial⟩ ?_
           refine t_guard rfl rfl ?_
           refine tp rfl (lv_move rfl) ?_
           exact d_closes ⟨look_b rfl rfl, look_row rfl 10 rfl s10, trivial⟩ 17 rfl rfl rfl hS (AgreeR.refl _) (t_sat (fun _ h => h) (hK (bs14, cp15, bs18, cp19, bs22, cp23, bs26, cp27, bs30, cp31, bs34, cp35) ⟨hf0, hf1, hf2, hf3, hf4, hf5, hf6, hf7, hf8, hf9, hf10, hf11⟩))
          · -- 18
           rintro ⟨bs14, cp15, bs18, cp19, bs22, cp23, bs26, cp27, bs30, cp31, bs34, cp35⟩ S hF hS D hp K hK
           try dsimp only at hF ⊢
           obtain ⟨hf0, hf1, hf2, hf3, hf4, hf5, hf6, hf7, hf8, hf9, hf10, hf11⟩ := hF
           have s10 := hp 10 rfl
           have s15 := hp 15 rfl
           have s16 := hp 16 rfl
           have s17 := hp 17 rfl
           refine d_need (small := [(92, (.bool true)), (97, (.pointer (some ⟨p2, 0, none⟩))), (98, (.int .i64 a)), (99, (.int .i64 b))]) ⟨look_row rfl 10 rfl s10, look_row rfl 15 rfl s15, look_row rfl 16 rfl s16, look_row rfl 17 rfl s17, trivial⟩ ?_
           refine t_guard rfl rfl ?_
           refine t_f1 ?_
           refine t_f1 ?_
           refine tc rfl (en_fn Tryd.call24 rfl) (rhas_ok (N := M) (es := F) a b hok10 hE) ?_
           rintro _ _ ⟨rfl, rfl⟩
           exact d_closes ⟨look_row rfl 10 rfl s10, look_row rfl 15 rfl s15, look_row rfl 16 rfl s16, look_row rfl 17 rfl s17, trivial⟩ 18 rfl rfl rfl hS (AgreeR.refl _) (t_sat (fun _ h => h) (hK (bs14, cp15, bs18, cp19, bs22, cp23, bs26, cp27, bs30, cp31, bs34, cp35) ⟨hf0, hf1, hf2, hf3, hf4, hf5, hf6, hf7, hf8, hf9, hf10, hf11⟩))
          · -- 19
           rintro ⟨bs14, cp15, bs18, cp19, bs22, cp23, bs26, cp27, bs30, cp31, bs34, cp35⟩ S hF hS D hp K hK
           try dsimp only at hF ⊢
           obtain ⟨hf0, hf1, hf2, hf3, hf4, hf5, hf6, hf7, hf8, hf9, hf10, hf11⟩ := hF
           have s10 := hp 10 rfl
           have s14 := hp 14 rfl
           have s18 := hp 18 rfl
           refine d_need (small := [(92, (.bool true)), (96, (.bool (hasE F (a, b)))), (100, (.bool (hasE F (a, b))))]) ⟨look_row rfl 10 rfl s10, look_row rfl 14 rfl s14, look_row rfl 18 rfl s18, trivial⟩ ?_
           refine t_guard rfl rfl ?_
           refine tp rfl (lv_eqb Tryd.underlying4 rfl rfl (beq_self_eq_true _)) ?_
           exact d_closes ⟨look_row rfl 10 rfl s10, look_row rfl 14 rfl s14, look_row rfl 18 rfl s18, trivial⟩ 19 rfl rfl rfl hS (AgreeR.refl _) (t_sat (fun _ h => h) (hK (bs14, cp15, bs18, cp19, bs22, cp23, bs26, cp27, bs30, cp31, bs34, cp35) ⟨hf0, hf1, hf2, hf3, hf4, hf5, hf6, hf7, hf8, hf9, hf10, hf11⟩))
          · -- 20
           rintro ⟨bs14, cp15, bs18, cp19, bs22, cp23, bs26, cp27, bs30, cp31, bs34, cp35⟩ S hF hS D hp K hK
           try dsimp only at hF ⊢
           obtain ⟨hf0, hf1, hf2, hf3, hf4, hf5, hf6, hf7, hf8, hf9, hf10, hf11⟩ := hF
           have s10 := hp 10 rfl
           have s19 := hp 19 rfl
           refine d_need (small := [(92, (.bool true)), (101, (.bool true))]) ⟨look_row rfl 10 rfl s10, look_row rfl 19 rfl s19, trivial⟩ ?_
           refine tp rfl (lv_pick_t rfl rfl) ?_
           exact d_closes ⟨look_row rfl 10 rfl s10, look_row rfl 19 rfl s19, trivial⟩ 20 rfl rfl rfl hS (AgreeR.refl _) (t_sat (fun _ h => h) (hK (bs14, cp15, bs18, cp19, bs22, cp23, bs26, cp27, bs30, cp31, bs34, cp35) ⟨hf0, hf1, hf2, hf3, hf4, hf5, hf6, hf7, hf8, hf9, hf10, hf11⟩))
          · -- 21
           rintro ⟨bs14, cp15, bs18, cp19, bs22, cp23, bs26, cp27, bs30, cp31, bs34, cp35⟩ S hF hS D hp K hK
           try dsimp only at hF ⊢
           obtain ⟨hf0, hf1, hf2, hf3, hf4, hf5, hf6, hf7, hf8, hf9, hf10, hf11⟩ := hF
           have s20 := hp 20 rfl
           refine d_need (small := [(102, (.bool true))]) ⟨look_row rfl 20 rfl s20, trivial⟩ ?_
           refine tp rfl (lv_move rfl) ?_
           exact d_closes ⟨look_row rfl 20 rfl s20, trivial⟩ 21 rfl rfl rfl hS (AgreeR.refl _) (t_sat (fun _ h => h) (hK (bs14, cp15, bs18, cp19, bs22, cp23, bs26, cp27, bs30, cp31, bs34, cp35) ⟨hf0, hf1, hf2, hf3, hf4, hf5, hf6, hf7, hf8, hf9, hf10, hf11⟩))
          · -- 22
           rintro ⟨bs14, cp15, bs18, cp19, bs22, cp23, bs26, cp27, bs30, cp31, bs34, cp35⟩ S hF hS D hp K hK
           try dsimp only at hF ⊢
           obtain ⟨hf0, hf1, hf2, hf3, hf4, hf5, hf6, hf7, hf8, hf9, hf10, hf11⟩ := hF
           have s21 := hp 21 rfl
           refine d_need (small := [(10, (.pointer (some ⟨p1, 0, none⟩))), (103, (.bool true))]) ⟨look_b rfl rfl, look_row rfl 21 rfl s21, trivial⟩ ?_
           refine t_guard rfl rfl ?_
           refine tp rfl (lv_move rfl) ?_
           exact d_closes ⟨look_b rfl rfl, look_row rfl 21 rfl s21, trivial⟩ 22 rfl rfl rfl hS (AgreeR.refl _) (t_sat (fun _ h => h) (hK (bs14, cp15, bs18, cp19, bs22, cp23, bs26, cp27, bs30, cp31, bs34, cp35) ⟨hf0, hf1, hf2, hf3, hf4, hf5, hf6, hf7, hf8, hf9, hf10, hf11⟩))
          · -- 23
           rintro ⟨bs14, cp15, bs18, cp19, bs22, cp23, bs26, cp27, bs30, cp31, bs34, cp35⟩ S hF hS D hp K hK
           try dsimp only at hF ⊢
           obtain ⟨hf0, hf1, hf2, hf3, hf4, hf5, hf6, hf7, hf8, hf9, hf10, hf11⟩ := hF
           have s21 := hp 21 rfl
           refine d_need (small := [(2, (.int .i64 a)), (103, (.bool true))]) ⟨look_b rfl rfl, look_row rfl 21 rfl s21, trivial⟩ ?_
           refine t_guard rfl rfl ?_
           refine tp rfl (lv_move rfl) ?_
           exact d_closes ⟨look_b rfl rfl, look_row rfl 21 rfl s21, trivial⟩ 23 rfl rfl rfl hS (AgreeR.refl _) (t_sat (fun _ h => h) (hK (bs14, cp15, bs18, cp19, bs22, cp23, bs26, cp27, bs30, cp31, bs34, cp35) ⟨hf0, hf1, hf2, hf3, hf4, hf5, hf6, hf7, hf8, hf9, hf10, hf11⟩))
          · -- 24
           rintro ⟨bs14, cp15, bs18, cp19, bs22, cp23, bs26, cp27, bs30, cp31, bs34, cp35⟩ S hF hS D hp K hK
           try dsimp only at hF ⊢
           obtain ⟨hf0, hf1, hf2, hf3, hf4, hf5, hf6, hf7, hf8, hf9, hf10, hf11⟩ := hF
           have s21 := hp 21 rfl
           have s22 := hp 22 rfl
           have s23 := hp 23 rfl
           refine d_need (small := [(103, (.bool true)), (104, (.pointer (some ⟨p1, 0, none⟩))), (105, (.int .i64 a))]) ⟨look_row rfl 21 rfl s21, look_row rfl 22 rfl s22, look_row rfl 23 rfl s23, trivial⟩ ?_
           refine t_guard rfl rfl ?_
           refine t_f2 ?_
           refine tc rfl (en_fn Tryd.call19 rfl) (out_ok (N := M) (es := F) a) ?_
           rintro _ _ ⟨bs14, cp15, hok16, hle17, rfl, rfl⟩
           refine t_f1 ?_
           refine t_f3 ?_
           refine t_f3 ?_
           refine t_f3 ?_
           refine t_sat (fun _ h => sat_put [_, _, _] h) ?_
           exact d_closes ⟨look_row rfl 21 rfl s21, look_row rfl 22 rfl s22, look_row rfl 23 rfl s23, trivial⟩ 24 rfl rfl rfl hS (by exact ⟨.inl rfl, .inl rfl, .inl rfl, .inl rfl, .inl rfl, .inl rfl, .inl rfl, .inl rfl, .inl rfl, .inl rfl, .inl rfl, .inl rfl, .inl rfl, .inl rfl, .inl rfl, .inl rfl, .inl rfl, .inl rfl, .inl rfl, .inl rfl, .inl rfl, .inl rfl, .inl rfl, .inl rfl, .inr ⟨rfl, rfl, hS⟩, .inl rfl, .inl rfl, .inl rfl, .inl rfl, .inl rfl, .inl rfl, .inl rfl, .inl rfl, .inl rfl, .inl rfl, .inl rfl, .inl rfl, .inl rfl, .inl rfl, .inl rfl, .inl rfl, .inl rfl, .inl rfl, .inl rfl, .inl rfl, .inl rfl, .inl rfl, .inl rfl, .inl rfl, .inl rfl, .inl rfl, .inl rfl, .inl rfl, .inl rfl, .inl rfl, .inl rfl, .inl rfl, .inl rfl, .inl rfl, .inl rfl, .inl rfl, .inl rfl, .inl rfl, .inl rfl, .inl rfl, .inl rfl, .inl rfl, .inl rfl, .inl rfl, .inl rfl, .inl rfl, .inl rfl, trivial⟩) (t_sat (fun _ h => h) (hK (bs14, cp15, bs18, cp19, bs22, cp23, bs26, cp27, bs30, cp31, bs34, cp35) ⟨(fun _ => hok16), (fun _ => hle17), hf2, hf3, hf4, hf5, hf6, hf7, hf8, hf9, hf10, hf11⟩))
          · -- 25
           rintro ⟨bs14, cp15, bs18, cp19, bs22, cp23, bs26, cp27, bs30, cp31, bs34, cp35⟩ S hF hS D hp K hK
           try dsimp only at hF ⊢
           obtain ⟨hf0, hf1, hf2, hf3, hf4, hf5, hf6, hf7, hf8, hf9, hf10, hf11⟩ := hF
           have s21 := hp 21 rfl
           refine d_need (small := [(11, (.pointer (some ⟨p2, 0, none⟩))), (103, (.bool true))]) ⟨look_b rfl rfl, look_row rfl 21 rfl s21, trivial⟩ ?_
           refine t_guard rfl rfl ?_
           refine tp rfl (lv_move rfl) ?_
           exact d_closes ⟨look_b rfl rfl, look_row rfl 21 rfl s21, trivial⟩ 25 rfl rfl rfl hS (AgreeR.refl _) (t_sat (fun _ h => h) (hK (bs14, cp15, bs18, cp19, bs22, cp23, bs26, cp27, bs30, cp31, bs34, cp35) ⟨hf0, hf1, hf2, hf3, hf4, hf5, hf6, hf7, hf8, hf9, hf10, hf11⟩))
          · -- 26
           rintro ⟨bs14, cp15, bs18, cp19, bs22, cp23, bs26, cp27, bs30, cp31, bs34, cp35⟩ S hF hS D hp K hK
           try dsimp only at hF ⊢
           obtain ⟨hf0, hf1, hf2, hf3, hf4, hf5, hf6, hf7, hf8, hf9, hf10, hf11⟩ := hF
           have s21 := hp 21 rfl
           refine d_need (small := [(2, (.int .i64 a)), (103, (.bool true))]) ⟨look_b rfl rfl, look_row rfl 21 rfl s21, trivial⟩ ?_
           refine t_guard rfl rfl ?_
           refine tp rfl (lv_move rfl) ?_
           exact d_closes ⟨look_b rfl rfl, look_row rfl 21 rfl s21, trivial⟩ 26 rfl rfl rfl hS (AgreeR.refl _) (t_sat (fun _ h => h) (hK (bs14, cp15, bs18, cp19, bs22, cp23, bs26, cp27, bs30, cp31, bs34, cp35) ⟨hf0, hf1, hf2, hf3, hf4, hf5, hf6, hf7, hf8, hf9, hf10, hf11⟩))
          · -- 27
           rintro ⟨bs14, cp15, bs18, cp19, bs22, cp23, bs26, cp27, bs30, cp31, bs34, cp35⟩ S hF hS D hp K hK
           try dsimp only at hF ⊢
           obtain ⟨hf0, hf1, hf2, hf3, hf4, hf5, hf6, hf7, hf8, hf9, hf10, hf11⟩ := hF
           have s24 := hp 24 rfl
           have hok16 := hf0 s24
           have hle17 := hf1 s24
           have s21 := hp 21 rfl
           have s25 := hp 25 rfl
           have s26 := hp 26 rfl
           refine d_need (small := [(103, (.bool true)), (107, (.pointer (some ⟨p2, 0, none⟩))), (108, (.int .i64 a))]) ⟨look_row rfl 21 rfl s21, look_row rfl 25 rfl s25, look_row rfl 26 rfl s26, trivial⟩ ?_
           refine t_guard rfl rfl ?_
           refine t_f1 ?_
           refine t_f1 ?_
           refine tc rfl (en_fn Tryd.call25 rfl) (rout_ok (N := M) (es := F) a hok10 hE) ?_
           rintro _ _ ⟨bs18, cp19, hok20, hle21, rfl, rfl⟩
           refine t_sat (fun _ h => sat_put [_, _, _, _] h) ?_
           exact d_closes ⟨look_row rfl 21 rfl s21, look_row rfl 25 rfl s25, look_row rfl 26 rfl s26, trivial⟩ 27 rfl rfl rfl hS (by exact ⟨.inl rfl, .inl rfl, .inl rfl, .inl rfl, .inl rfl, .inl rfl, .inl rfl, .inl rfl, .inl rfl, .inl rfl, .inl rfl, .inl rfl, .inl rfl, .inl rfl, .inl rfl, .inl rfl, .inl rfl, .inl rfl, .inl rfl, .inl rfl, .inl rfl, .inl rfl, .inl rfl, .inl rfl, .inl rfl, .inl rfl, .inl rfl, .inr ⟨rfl, rfl, hS⟩, .inl rfl, .inl rfl, .inl rfl, .inl rfl, .inl rfl, .inl rfl, .inl rfl, .inl rfl, .inl rfl, .inl rfl, .inl rfl, .inl rfl, .inl rfl, .inl rfl, .inl rfl, .inl rfl, .inl rfl, .inl rfl, .inl rfl, .inl rfl, .inl rfl, .inl rfl, .inl rfl, .inl rfl, .inl rfl, .inl rfl, .inl rfl, .inl rfl, .inl rfl, .inl rfl, .inl rfl, .inl rfl, .inl rfl, .inl rfl, .inl rfl, .inl rfl, .inl rfl, .inl rfl, .inl rfl, .inl rfl, .inl rfl, .inl rfl, .inl rfl, .inl rfl, trivial⟩) (t_sat (fun _ h => h) (hK (bs14, cp15, bs18, cp19, bs22, cp23, bs26, cp27, bs30, cp31, bs34, cp35) ⟨hf0, hf1, (fun _ => hok20), (fun _ => hle21), hf4, hf5, hf6, hf7, hf8, hf9, hf10, hf11⟩))
          · -- 28
           rintro ⟨bs14, cp15, bs18, cp19, bs22, cp23, bs26, cp27, bs30, cp31, bs34, cp35⟩ S hF hS D hp K hK
           try dsimp only at hF ⊢
           obtain ⟨hf0, hf1, hf2, hf3, hf4, hf5, hf6, hf7, hf8, hf9, hf10, hf11⟩ := hF
           have s24 := hp 24 rfl
           have hok16 := hf0 s24
           have hle17 := hf1 s24
           have s27 := hp 27 rfl
           have hok20 := hf2 s27
           have hle21 := hf3 s27
           have s21 := hp 21 rfl
           refine d_need (small := [(103, (.bool true)), (106, (.slice bs14 ((outs F a).length) cp15)), (109, (.slice bs18 ((outs F a).length) cp19))]) ⟨look_row rfl 21 rfl s21, look_row rfl 24 rfl s24, look_row rfl 27 rfl s27, trivial⟩ ?_
           refine t_f3 ?_
           refine t_cT s24 ?_
           refine t_f4 ?_
           refine t_cT s27 ?_
           refine t_guard rfl rfl ?_
           refine tc rfl (en_fn Tryd.call21 rfl) (ints_ok (outs F a) (outs F a) (rd_sl (.tail _ (.head _))) (rd_sl (.head _)) hok16 hok20 (by first | omega | (simp; done) | (simp; omega)) (by first | omega | (simp; done) | (simp; omega))) ?_
           rintro _ _ ⟨rfl, rfl⟩
           rw [show eqI (outs F a) (outs F a) = true from (eqI_refl _)]
           refine t_f1 ?_
           refine t_wT (B := Emp) s24 ?_
           refine t_f1 ?_
           refine t_wT (B := Emp) s27 ?_
           refine t_f1 ?_
           refine t_f4 ?_
           refine t_f4 ?_
           refine t_f4 ?_
           exact d_closes ⟨look_row rfl 21 rfl s21, look_row rfl 24 rfl s24, look_row rfl 27 rfl s27, trivial⟩ 28 rfl rfl rfl hS (AgreeR.refl _) (t_sat (fun _ h => h) (hK (bs14, cp15, bs18, cp19, bs22, cp23, bs26, cp27, bs30, cp31, bs34, cp35) ⟨hf0, hf1, hf2, hf3, hf4, hf5, hf6, hf7, hf8, hf9, hf10, hf11⟩))
          · -- 29
           rintro ⟨bs14, cp15, bs18, cp19, bs22, cp23, bs26, cp27, bs30, cp31, bs34, cp35⟩ S hF hS D hp K hK
           try dsimp only at hF ⊢
           obtain ⟨hf0, hf1, hf2, hf3, hf4, hf5, hf6, hf7, hf8, hf9, hf10, hf11⟩ := hF
           have s21 := hp 21 rfl
           have s28 := hp 28 rfl
           refine d_need (small := [(103, (.bool true)), (110, (.bool true))]) ⟨look_row rfl 21 rfl s21, look_row rfl 28 rfl s28, trivial⟩ ?_
           refine tp rfl (lv_pick_t rfl rfl) ?_
           exact d_closes ⟨look_row rfl 21 rfl s21, look_row rfl 28 rfl s28, trivial⟩ 29 rfl rfl rfl hS (AgreeR.refl _) (t_sat (fun _ h => h) (hK (bs14, cp15, bs18, cp19, bs22, cp23, bs26, cp27, bs30, cp31, bs34, cp35) ⟨hf0, hf1, hf2, hf3, hf4, hf5, hf6, hf7, hf8, hf9, hf10, hf11⟩))
          · -- 30
           rintro ⟨bs14, cp15, bs18, cp19, bs22, cp23, bs26, cp27, bs30, cp31, bs34, cp35⟩ S hF hS D hp K hK
           try dsimp only at hF ⊢
           obtain ⟨hf0, hf1, hf2, hf3, hf4, hf5, hf6, hf7, hf8, hf9, hf10, hf11⟩ := hF
           have s29 := hp 29 rfl
           refine d_need (small := [(111, (.bool true))]) ⟨look_row rfl 29 rfl s29, trivial⟩ ?_
           refine tp rfl (lv_move rfl) ?_
           exact d_closes ⟨look_row rfl 29 rfl s29, trivial⟩ 30 rfl rfl rfl hS (AgreeR.refl _) (t_sat (fun _ h => h) (hK (bs14, cp15, bs18, cp19, bs22, cp23, bs26, cp27, bs30, cp31, bs34, cp35) ⟨hf0, hf1, hf2, hf3, hf4, hf5, hf6, hf7, hf8, hf9, hf10, hf11⟩))
          · -- 31
           rintro ⟨bs14, cp15, bs18, cp19, bs22, cp23, bs26, cp27, bs30, cp31, bs34, cp35⟩ S hF hS D hp K hK
           try dsimp only at hF ⊢
           obtain ⟨hf0, hf1, hf2, hf3, hf4, hf5, hf6, hf7, hf8, hf9, hf10, hf11⟩ := hF
           have s30 := hp 30 rfl
           refine d_need (small := [(10, (.pointer (some ⟨p1, 0, none⟩))), (112, (.bool true))]) ⟨look_b rfl rfl, look_row rfl 30 rfl s30, trivial⟩ ?_
           refine t_guard rfl rfl ?_
           refine tp rfl (lv_move rfl) ?_
           exact d_closes ⟨look_b rfl rfl, look_row rfl 30 rfl s30, trivial⟩ 31 rfl rfl rfl hS (AgreeR.refl _) (t_sat (fun _ h => h) (hK (bs14, cp15, bs18, cp19, bs22, cp23, bs26, cp27, bs30, cp31, bs34, cp35) ⟨hf0, hf1, hf2, hf3, hf4, hf5, hf6, hf7, hf8, hf9, hf10, hf11⟩))
          · -- 32
           rintro ⟨bs14, cp15, bs18, cp19, bs22, cp23, bs26, cp27, bs30, cp31, bs34, cp35⟩ S hF hS D hp K hK
           try dsimp only at hF ⊢
           obtain ⟨hf0, hf1, hf2, hf3, hf4, hf5, hf6, hf7, hf8, hf9, hf10, hf11⟩ := hF
           have s30 := hp 30 rfl
           refine d_need (small := [(2, (.int .i64 a)), (112, (.bool true))]) ⟨look_b rfl rfl, look_row rfl 30 rfl s30, trivial⟩ ?_
           refine t_guard rfl rfl ?_
           refine tp rfl (lv_move rfl) ?_
           exact d_closes ⟨look_b rfl rfl, look_row rfl 30 rfl s30, trivial⟩ 32 rfl rfl rfl hS (AgreeR.refl _) (t_sat (fun _ h => h) (hK (bs14, cp15, bs18, cp19, bs22, cp23, bs26, cp27, bs30, cp31, bs34, cp35) ⟨hf0, hf1, hf2, hf3, hf4, hf5, hf6, hf7, hf8, hf9, hf10, hf11⟩))
          · -- 33
           rintro ⟨bs14, cp15, bs18, cp19, bs22, cp23, bs26, cp27, bs30, cp31, bs34, cp35⟩ S hF hS D hp K hK
           try dsimp only at hF ⊢
           obtain ⟨hf0, hf1, hf2, hf3, hf4, hf5, hf6, hf7, hf8, hf9, hf10, hf11⟩ := hF
           have s32 := hp 32 rfl
           have s30 := D 32 30 rfl s32
           have s29 := D 30 29 rfl s30
           have s28 := D 29 28 rfl s29
           have s24 := D 28 24 rfl s28
           have hok16 := hf0 s24
           have hle17 := hf1 s24
           have s27 := D 28 27 rfl s28
           have hok20 := hf2 s27
           have hle21 := hf3 s27
           have s31 := hp 31 rfl
           refine d_need (small := [(112, (.bool true)), (113, (.pointer (some ⟨p1, 0, none⟩))), (114, (.int .i64 a))]) ⟨look_row rfl 30 rfl s30, look_row rfl 31 rfl s31, look_row rfl 32 rfl s32, trivial⟩ ?_
           refine t_guard rfl rfl ?_
           refine t_f2 ?_
           refine tc rfl (en_fn Tryd.call20 rfl) (in_ok (N := M) (es := F) a) ?_
           rintro _ _ ⟨bs22, cp23, hok24, hle25, rfl, rfl⟩
           refine t_f1 ?_
           refine t_f3 ?_
           refine t_f3 ?_
           refine t_f3 ?_
           refine t_sat (fun _ h => sat_put [_, _, _, _, _] h) ?_
           exact d_closes ⟨look_row rfl 30 rfl s30, look_row rfl 31 rfl s31, look_row rfl 32 rfl s32, trivial⟩ 33 rfl rfl rfl hS (by exact ⟨.inl rfl, .inl rfl, .inl rfl, .inl rfl, .inl rfl, .inl rfl, .inl rfl, .inl rfl, .inl rfl, .inl rfl, .inl rfl, .inl rfl, .inl rfl, .inl rfl, .inl rfl, .inl rfl, .inl rfl, .inl rfl, .inl rfl, .inl rfl, .inl rfl, .inl rfl, .inl rfl, .inl rfl, .inl rfl, .inl rfl, .inl rfl, .inl rfl, .inl rfl, .inl rfl, .inl rfl, .inl rfl, .inl rfl, .inr ⟨rfl, rfl, hS⟩, .inl rfl, .inl rfl, .inl rfl, .inl rfl, .inl rfl, .inl rfl, .inl rfl, .inl rfl, .inl rfl, .inl rfl, .inl rfl, .inl rfl, .inl rfl, .inl rfl, .inl rfl, .inl rfl, .inl rfl, .inl rfl, .inl rfl, .inl rfl, .inl rfl, .inl rfl, .inl rfl, .inl rfl, .inl rfl, .inl rfl, .inl rfl, .inl rfl, .inl rfl, .inl rfl, .inl rfl, .inl rfl, .inl rfl, .inl rfl, .inl rfl, .inl rfl, .inl rfl, .inl rfl, trivial⟩) (t_sat (fun _ h => h) (hK (bs14, cp15, bs18, cp19, bs22, cp23, bs26, cp27, bs30, cp31, bs34, cp35) ⟨hf0, hf1, hf2, hf3, (fun _ => hok24), (fun _ => hle25), hf6, hf7, hf8, hf9, hf10, hf11⟩))
          · -- 34
           rintro ⟨bs14, cp15, bs18, cp19, bs22, cp23, bs26, cp27, bs30, cp31, bs34, cp35⟩ S hF hS D hp K hK
           try dsimp only at hF ⊢
           obtain ⟨hf0, hf1, hf2, hf3, hf4, hf5, hf6, hf7, hf8, hf9, hf10, hf11⟩ := hF
           have s30 := hp 30 rfl
           refine d_need (small := [(11, (.pointer (some ⟨p2, 0, none⟩))), (112, (.bool true))]) ⟨look_b rfl rfl, look_row rfl 30 rfl s30, trivial⟩ ?_
           refine t_guard rfl rfl ?_
           refine tp rfl (lv_move rfl) ?_
           exact d_closes ⟨look_b rfl rfl, look_row rfl 30 rfl s30, trivial⟩ 34 rfl rfl rfl hS (AgreeR.refl _) (t_sat (fun _ h => h) (hK (bs14, cp15, bs18, cp19, bs22, cp23, bs26, cp27, bs30, cp31, bs34, cp35) ⟨hf0, hf1, hf2, hf3, hf4, hf5, hf6, hf7, hf8, hf9, hf10, hf11⟩))
          · -- 35
           rintro ⟨bs14, cp15, bs18, cp19, bs22, cp23, bs26, cp27, bs30, cp31, bs34, cp35⟩ S hF hS D hp K hK
           try dsimp only at hF ⊢
           obtain ⟨hf0, hf1, hf2, hf3, hf4, hf5, hf6, hf7, hf8, hf9, hf10, hf11⟩ := hF
           have s30 := hp 30 rfl
           refine d_need (small := [(2, (.int .i64 a)), (112, (.bool true))]) ⟨look_b rfl rfl, look_row rfl 30 rfl s30, trivial⟩ ?_
           refine t_guard rfl rfl ?_
           refine tp rfl (lv_move rfl) ?_
           exact d_closes ⟨look_b rfl rfl, look_row rfl 30 rfl s30, trivial⟩ 35 rfl rfl rfl hS (AgreeR.refl _) (t_sat (fun _ h => h) (hK (bs14, cp15, bs18, cp19, bs22, cp23, bs26, cp27, bs30, cp31, bs34, cp35) ⟨hf0, hf1, hf2, hf3, hf4, hf5, hf6, hf7, hf8, hf9, hf10, hf11⟩))
          · -- 36
           rintro ⟨bs14, cp15, bs18, cp19, bs22, cp23, bs26, cp27, bs30, cp31, bs34, cp35⟩ S hF hS D hp K hK
           try dsimp only at hF ⊢
           obtain ⟨hf0, hf1, hf2, hf3, hf4, hf5, hf6, hf7, hf8, hf9, hf10, hf11⟩ := hF
           have s35 := hp 35 rfl
           have s30 := D 35 30 rfl s35
           have s29 := D 30 29 rfl s30
           have s28 := D 29 28 rfl s29
           have s24 := D 28 24 rfl s28
           have hok16 := hf0 s24
           have hle17 := hf1 s24
           have s27 := D 28 27 rfl s28
           have hok20 := hf2 s27
           have hle21 := hf3 s27
           have s33 := hp 33 rfl
           have hok24 := hf4 s33
           have hle25 := hf5 s33
           have s34 := hp 34 rfl
           refine d_need (small := [(112, (.bool true)), (116, (.pointer (some ⟨p2, 0, none⟩))), (117, (.int .i64 a))]) ⟨look_row rfl 30 rfl s30, look_row rfl 34 rfl s34, look_row rfl 35 rfl s35, trivial⟩ ?_
           refine t_guard rfl rfl ?_
           refine t_f1 ?_
           refine t_f1 ?_
           refine tc rfl (en_fn Tryd.call26 rfl) (rin_ok (N := M) (es := F) a hok10 hE) ?_
           rintro _ _ ⟨bs26, cp27, hok28, hle29, rfl, rfl⟩
           refine t_sat (fun _ h => sat_put [_, _, _, _, _, _] h) ?_
           exact d_closes ⟨look_row rfl 30 rfl s30, look_row rfl 34 rfl s34, look_row rfl 35 rfl s35, trivial⟩ 36 rfl rfl rfl hS (by exact ⟨.inl rfl, .inl rfl, .inl rfl, .inl rfl, .inl rfl, .inl rfl, .inl rfl, .inl rfl, .inl rfl, .inl rfl, .inl rfl, .inl rfl, .inl rfl, .inl rfl, .inl rfl, .inl rfl, .inl rfl, .inl rfl, .inl rfl, .inl rfl, .inl rfl, .inl rfl, .inl rfl, .inl rfl, .inl rfl, .inl rfl, .inl rfl, .inl rfl, .inl rfl, .inl rfl, .inl rfl, .inl rfl, .inl rfl, .inl rfl, .inl rfl, .inl rfl, .inr ⟨rfl, rfl, hS⟩, .inl rfl, .inl rfl, .inl rfl, .inl rfl, .inl rfl, .inl rfl, .inl rfl, .inl rfl, .inl rfl, .inl rfl, .inl rfl, .inl rfl, .inl rfl, .inl rfl, .inl rfl, .inl rfl, .inl rfl, .inl rfl, .inl rfl, .inl rfl, .inl rfl, .inl rfl, .inl rfl, .inl rfl, .inl rfl, .inl rfl, .inl rfl, .inl rfl, .inl rfl, .inl rfl, .inl rfl, .inl rfl, .inl rfl, .inl rfl, .inl rfl, trivial⟩) (t_sat (fun _ h => h) (hK (bs14, cp15, bs18, cp19, bs22, cp23, bs26, cp27, bs30, cp31, bs34, cp35) ⟨hf0, hf1, hf2, hf3, hf4, hf5, (fun _ => hok28), (fun _ => hle29), hf8, hf9, hf10, hf11⟩))
          · -- 37
           rintro ⟨bs14, cp15, bs18, cp19, bs22, cp23, bs26, cp27, bs30, cp31, bs34, cp35⟩ S hF hS D hp K hK
           try dsimp only at hF ⊢
           obtain ⟨hf0, hf1, hf2, hf3, hf4, hf5, hf6, hf7, hf8, hf9, hf10, hf11⟩ := hF
           have s33 := hp 33 rfl
           have hok24 := hf4 s33
           have hle25 := hf5 s33
           have s36 := hp 36 rfl
           have hok28 := hf6 s36
           have hle29 := hf7 s36
           have s30 := hp 30 rfl
           refine d_need (small := [(112, (.bool true)), (115, (.slice bs22 ((inns F a).length) cp23)), (118, (.slice bs26 ((inns F a).length) cp27))]) ⟨look_row rfl 30 rfl s30, look_row rfl 33 rfl s33, look_row rfl 36 rfl s36, trivial⟩ ?_
           refine t_f5 ?_
           refine t_cT s33 ?_
           refine t_f6 ?_
           refine t_cT s36 ?_
           refine t_guard rfl rfl ?_
           refine tc rfl (en_fn Tryd.call21 rfl) (ints_ok (inns F a) (inns F a) (rd_sl (.tail _ (.head _))) (rd_sl (.head _)) hok24 hok28 (by first | omega | (simp; done) | (simp; omega)) (by first | omega | (simp; done) | (simp; omega))) ?_
           rintro _ _ ⟨rfl, rfl⟩
           rw [show eqI (inns F a) (inns F a) = true from (eqI_refl _)]
           refine t_f1 ?_
           refine t_wT (B := Emp) s33 ?_
           refine t_f1 ?_
           refine t_wT (B := Emp) s36 ?_
           refine t_f1 ?_
           refine t_f6 ?_
           refine t_f6 ?_
           refine t_f6 ?_
           refine t_f6 ?_
           refine t_f6 ?_
           exact d_closes ⟨look_row rfl 30 rfl s30, look_row rfl 33 rfl s33, look_row rfl 36 rfl s36, trivial⟩ 37 rfl rfl rfl hS (AgreeR.refl _) (t_sat (fun _ h => h) (hK (bs14, cp15, bs18, cp19, bs22, cp23, bs26, cp27, bs30, cp31, bs34, cp35) ⟨hf0, hf1, hf2, hf3, hf4, hf5, hf6, hf7, hf8, hf9, hf10, hf11⟩))
          · -- 38
           rintro ⟨bs14, cp15, bs18, cp19, bs22, cp23, bs26, cp27, bs30, cp31, bs34, cp35⟩ S hF hS D hp K hK
           try dsimp only at hF ⊢
           obtain ⟨hf0, hf1, hf2, hf3, hf4, hf5, hf6, hf7, hf8, hf9, hf10, hf11⟩ := hF
           have s30 := hp 30 rfl
           have s37 := hp 37 rfl
           refine d_need (small := [(112, (.bool true)), (119, (.bool true))]) ⟨look_row rfl 30 rfl s30, look_row rfl 37 rfl s37, trivial⟩ ?_
           refine tp rfl (lv_pick_t rfl rfl) ?_
           exact d_closes ⟨look_row rfl 30 rfl s30, look_row rfl 37 rfl s37, trivial⟩ 38 rfl rfl rfl hS (AgreeR.refl _) (t_sat (fun _ h => h) (hK (bs14, cp15, bs18, cp19, bs22, cp23, bs26, cp27, bs30, cp31, bs34, cp35) ⟨hf0, hf1, hf2, hf3, hf4, hf5, hf6, hf7, hf8, hf9, hf10, hf11⟩))
          · -- 39
           rintro ⟨bs14, cp15, bs18, cp19, bs22, cp23, bs26, cp27, bs30, cp31, bs34, cp35⟩ S hF hS D hp K hK
           try dsimp only at hF ⊢
           obtain ⟨hf0, hf1, hf2, hf3, hf4, hf5, hf6, hf7, hf8, hf9, hf10, hf11⟩ := hF
           have s38 := hp 38 rfl
           refine d_need (small := [(120, (.bool true))]) ⟨look_row rfl 38 rfl s38, trivial⟩ ?_
           refine tp rfl (lv_move rfl) ?_
           exact d_closes ⟨look_row rfl 38 rfl s38, trivial⟩ 39 rfl rfl rfl hS (AgreeR.refl _) (t_sat (fun _ h => h) (hK (bs14, cp15, bs18, cp19, bs22, cp23, bs26, cp27, bs30, cp31, bs34, cp35) ⟨hf0, hf1, hf2, hf3, hf4, hf5, hf6, hf7, hf8, hf9, hf10, hf11⟩))
          · -- 40
           rintro ⟨bs14, cp15, bs18, cp19, bs22, cp23, bs26, cp27, bs30, cp31, bs34, cp35⟩ S hF hS D hp K hK
           try dsimp only at hF ⊢
           obtain ⟨hf0, hf1, hf2, hf3, hf4, hf5, hf6, hf7, hf8, hf9, hf10, hf11⟩ := hF
           have s39 := hp 39 rfl
           refine d_need (small := [(10, (.pointer (some ⟨p1, 0, none⟩))), (121, (.bool true))]) ⟨look_b rfl rfl, look_row rfl 39 rfl s39, trivial⟩ ?_
           refine t_guard rfl rfl ?_
           refine tp rfl (lv_move rfl) ?_
           exact d_closes ⟨look_b rfl rfl, look_row rfl 39 rfl s39, trivial⟩ 40 rfl rfl rfl hS (AgreeR.refl _) (t_sat (fun _ h => h) (hK (bs14, cp15, bs18, cp19, bs22, cp23, bs26, cp27, bs30, cp31, bs34, cp35) ⟨hf0, hf1, hf2, hf3, hf4, hf5, hf6, hf7, hf8, hf9, hf10, hf11⟩))
          · -- 41
           rintro ⟨bs14, cp15, bs18, cp19, bs22, cp23, bs26, cp27, bs30, cp31, bs34, cp35⟩ S hF hS D hp K hK
           try dsimp only at hF ⊢
           obtain ⟨hf0, hf1, hf2, hf3, hf4, hf5, hf6, hf7, hf8, hf9, hf10, hf11⟩ := hF
           have s39 := hp 39 rfl
           refine d_need (small := [(2, (.int .i64 a)), (121, (.bool true))]) ⟨look_b rfl rfl, look_row rfl 39 rfl s39, trivial⟩ ?_
           refine t_guard rfl rfl ?_
           refine tp rfl (lv_move rfl) ?_
           exact d_closes ⟨look_b rfl rfl, look_row rfl 39 rfl s39, trivial⟩ 41 rfl rfl rfl hS (AgreeR.refl _) (t_sat (fun _ h => h) (hK (bs14, cp15, bs18, cp19, bs22, cp23, bs26, cp27, bs30, cp31, bs34, cp35) ⟨hf0, hf1, hf2, hf3, hf4, hf5, hf6, hf7, hf8, hf9, hf10, hf11⟩))
          · -- 42
           rintro ⟨bs14, cp15, bs18, cp19, bs22, cp23, bs26, cp27, bs30, cp31, bs34, cp35⟩ S hF hS D hp K hK
           try dsimp only at hF ⊢
           obtain ⟨hf0, hf1, hf2, hf3, hf4, hf5, hf6, hf7, hf8, hf9, hf10, hf11⟩ := hF
           have s41 := hp 41 rfl
           have s39 := D 41 39 rfl s41
           have s38 := D 39 38 rfl s39
           have s37 := D 38 37 rfl s38
           have s36 := D 37 36 rfl s37
           have s35 := D 36 35 rfl s36
           have s30 := D 35 30 rfl s35
           have s29 := D 30 29 rfl s30
           have s28 := D 29 28 rfl s29
           have s24 := D 28 24 rfl s28
           have hok16 := hf0 s24
           have hle17 := hf1 s24
           have s27 := D 28 27 rfl s28
           have hok20 := hf2 s27
           have hle21 := hf3 s27
           have s33 := D 37 33 rfl s37
           have hok24 := hf4 s33
           have hle25 := hf5 s33
           have hok28 := hf6 s36
           have hle29 := hf7 s36
           have s40 := hp 40 rfl
           refine d_need (small := [(121, (.bool true)), (122, (.pointer (some ⟨p1, 0, none⟩))), (123, (.int .i64 a))]) ⟨look_row rfl 39 rfl s39, look_row rfl 40 rfl s40, look_row rfl 41 rfl s41, trivial⟩ ?_
           refine t_guard rfl rfl ?_
           refine t_f2 ?_
           refine tc rfl (en_fn Tryd.call15 rfl) (reach_ok (N := M) (es := F) a (Tab.cons (Tab.cons (Tab.cons (Tab.cons (Tab.cons (Tab.cons (Tab.cons (Tab.cons hT))))))))) ?_
           rintro _ _ ⟨bs30, cp31, hok32, hle33, rfl, rfl⟩
           refine t_f1 ?_
           refine t_f3 ?_
           refine t_f3 ?_
           refine t_f3 ?_
           refine t_sat (fun _ h => sat_put [_, _, _, _, _, _, _] h) ?_
           exact d_closes ⟨look_row rfl 39 rfl s39, look_row rfl 40 rfl s40, look_row rfl 41 rfl s41, trivial⟩ 42 rfl rfl rfl hS (by exact ⟨.inl rfl, .inl rfl, .inl rfl, .inl rfl, .inl rfl, .inl rfl, .inl rfl, .inl rfl, .inl rfl, .inl rfl, .inl rfl, .inl rfl, .inl rfl, .inl rfl, .inl rfl, .inl rfl, .inl rfl, .inl rfl, .inl rfl, .inl rfl, .inl rfl, .inl rfl, .inl rfl, .inl rfl, .inl rfl, .inl rfl, .inl rfl, .inl rfl, .inl rfl, .inl rfl, .inl rfl, .inl rfl, .inl rfl, .inl rfl, .inl rfl, .inl rfl, .inl rfl, .inl rfl, .inl rfl, .inl rfl, .inl rfl, .inl rfl, .inr ⟨rfl, rfl, hS⟩, .inl rfl, .inl rfl, .inl rfl, .inl rfl, .inl rfl, .inl rfl, .inl rfl, .inl rfl, .inl rfl, .inl rfl, .inl rfl, .inl rfl, .inl rfl, .inl rfl, .inl rfl, .inl rfl, .inl rfl, .inl rfl, .inl rfl, .inl rfl, .inl rfl, .inl rfl, .inl rfl, .inl rfl, .inl rfl, .inl rfl, .inl rfl, .inl rfl, .inl rfl, trivial⟩) (t_sat (fun _ h => h) (hK (bs14, cp15, bs18, cp19, bs22, cp23, bs26, cp27, bs30, cp31, bs34, cp35) ⟨hf0, hf1, hf2, hf3, hf4, hf5, hf6, hf7, (fun _ => hok32), (fun _ => hle33), hf10, hf11⟩))
          · -- 43
           rintro ⟨bs14, cp15, bs18, cp19, bs22, cp23, bs26, cp27, bs30, cp31, bs34, cp35⟩ S hF hS D hp K hK
           try dsimp only at hF ⊢
           obtain ⟨hf0, hf1, hf2, hf3, hf4, hf5, hf6, hf7, hf8, hf9, hf10, hf11⟩ := hF
           have s39 := hp 39 rfl
           refine d_need (small := [(11, (.pointer (some ⟨p2, 0, none⟩))), (121, (.bool true))]) ⟨look_b rfl rfl, look_row rfl 39 rfl s39, trivial⟩ ?_
           refine t_guard rfl rfl ?_
           refine tp rfl (lv_move rfl) ?_
           exact d_closes ⟨look_b rfl rfl, look_row rfl 39 rfl s39, trivial⟩ 43 rfl rfl rfl hS (AgreeR.refl _) (t_sat (fun _ h => h) (hK (bs14, cp15, bs18, cp19, bs22, cp23, bs26, cp27, bs30, cp31, bs34, cp35) ⟨hf0, hf1, hf2, hf3, hf4, hf5, hf6, hf7, hf8, hf9, hf10, hf11⟩))
          · -- 44
           rintro ⟨bs14, cp15, bs18, cp19, bs22, cp23, bs26, cp27, bs30, cp31, bs34, cp35⟩ S hF hS D hp K hK
           try dsimp only at hF ⊢
           obtain ⟨hf0, hf1, hf2, hf3, hf4, hf5, hf6, hf7, hf8, hf9, hf10, hf11⟩ := hF
           have s39 := hp 39 rfl
           refine d_need (small := [(2, (.int .i64 a)), (121, (.bool true))]) ⟨look_b rfl rfl, look_row rfl 39 rfl s39, trivial⟩ ?_
           refine t_guard rfl rfl ?_
           refine tp rfl (lv_move rfl) ?_
           exact d_closes ⟨look_b rfl rfl, look_row rfl 39 rfl s39, trivial⟩ 44 rfl rfl rfl hS (AgreeR.refl _) (t_sat (fun _ h => h) (hK (bs14, cp15, bs18, cp19, bs22, cp23, bs26, cp27, bs30, cp31, bs34, cp35) ⟨hf0, hf1, hf2, hf3, hf4, hf5, hf6, hf7, hf8, hf9, hf10, hf11⟩))
          · -- 45
           rintro ⟨bs14, cp15, bs18, cp19, bs22, cp23, bs26, cp27, bs30, cp31, bs34, cp35⟩ S hF hS D hp K hK
           try dsimp only at hF ⊢
           obtain ⟨hf0, hf1, hf2, hf3, hf4, hf5, hf6, hf7, hf8, hf9, hf10, hf11⟩ := hF
           have s44 := hp 44 rfl
           have s39 := D 44 39 rfl s44
           have s38 := D 39 38 rfl s39
           have s37 := D 38 37 rfl s38
           have s36 := D 37 36 rfl s37
           have s35 := D 36 35 rfl s36
           have s30 := D 35 30 rfl s35
           have s29 := D 30 29 rfl s30
           have s28 := D 29 28 rfl s29
           have s24 := D 28 24 rfl s28
           have hok16 := hf0 s24
           have hle17 := hf1 s24
           have s27 := D 28 27 rfl s28
           have hok20 := hf2 s27
           have hle21 := hf3 s27
           have s33 := D 37 33 rfl s37
           have hok24 := hf4 s33
           have hle25 := hf5 s33
           have hok28 := hf6 s36
           have hle29 := hf7 s36
           have s42 := hp 42 rfl
           have hok32 := hf8 s42
           have hle33 := hf9 s42
           have s43 := hp 43 rfl
           refine d_need (small := [(121, (.bool true)), (125, (.pointer (some ⟨p2, 0, none⟩))), (126, (.int .i64 a))]) ⟨look_row rfl 39 rfl s39, look_row rfl 43 rfl s43, look_row rfl 44 rfl s44, trivial⟩ ?_
           refine t_guard rfl rfl ?_
           refine t_f1 ?_
           refine t_f1 ?_
           refine tc rfl (en_fn Tryd.call27 rfl) (rreach_ok (N := M) (es := F) a hok10 hE hg) ?_
           rintro _ _ ⟨bs34, cp35, hok36, hle37, rfl, rfl⟩
           refine t_sat (fun _ h => sat_put [_, _, _, _, _, _, _, _] h) ?_
           exact d_closes ⟨look_row rfl 39 rfl s39, look_row rfl 43 rfl s43, look_row rfl 44 rfl s44, trivial⟩ 45 rfl rfl rfl hS (by exact ⟨.inl rfl, .inl rfl, .inl rfl, .inl rfl, .inl rfl, .inl rfl, .inl rfl, .inl rfl, .inl rfl, .inl rfl, .inl rfl, .inl rfl, .inl rfl, .inl rfl, .inl rfl, .inl rfl, .inl rfl, .inl rfl, .inl rfl, .inl rfl, .inl rfl, .inl rfl, .inl rfl, .inl rfl, .inl rfl, .inl rfl, .inl rfl, .inl rfl, .inl rfl, .inl rfl, .inl rfl, .inl rfl, .inl rfl, .inl rfl, .inl rfl, .inl rfl, .inl rfl, .inl rfl, .inl rfl, .inl rfl, .inl rfl, .inl rfl, .inl rfl, .inl rfl, .inl rfl, .inr ⟨rfl, rfl, hS⟩, .inl rfl, .inl rfl, .inl rfl, .inl rfl, .inl rfl, .inl rfl, .inl rfl, .inl rfl, .inl rfl, .inl rfl, .inl rfl, .inl rfl, .inl rfl, .inl rfl, .inl rfl, .inl rfl, .inl rfl, .inl rfl, .inl rfl, .inl rfl, .inl rfl, .inl rfl, .inl rfl, .inl rfl, .inl rfl, .inl rfl, trivial⟩) (t_sat (fun _ h => h) (hK (bs14, cp15, bs18, cp19, bs22, cp23, bs26, cp27, bs30, cp31, bs34, cp35) ⟨hf0, hf1, hf2, hf3, hf4, hf5, hf6, hf7, hf8, hf9, (fun _ => hok36), (fun _ => hle37)⟩))
          · -- 46
           rintro ⟨bs14, cp15, bs18, cp19, bs22, cp23, bs26, cp27, bs30, cp31, bs34, cp35⟩ S hF hS D hp K hK
           try dsimp only at hF ⊢
           obtain ⟨hf0, hf1, hf2, hf3, hf4, hf5, hf6, hf7, hf8, hf9, hf10, hf11⟩ := hF
           have s42 := hp 42 rfl
           have hok32 := hf8 s42
           have hle33 := hf9 s42
           have s45 := hp 45 rfl
           have hok36 := hf10 s45
           have hle37 := hf11 s45
           have s39 := hp 39 rfl
           refine d_need (small := [(121, (.bool true)), (124, (.slice bs30 ((reachL M F a).length) cp31)), (127, (.slice bs34 ((reachL M F a).length) cp35))]) ⟨look_row rfl 39 rfl s39, look_row rfl 42 rfl s42, look_row rfl 45 rfl s45, trivial⟩ ?_
           refine t_f7 ?_
           refine t_cT s42 ?_
           refine t_f8 ?_
           refine t_cT s45 ?_
           refine t_guard rfl rfl ?_
           refine tc rfl (en_fn Tryd.call21 rfl) (ints_ok (reachL M F a) (reachL M F a) (rd_sl (.tail _ (.head _))) (rd_sl (.head _)) hok32 hok36 (by first | omega | (simp; done) | (simp; omega)) (by first | omega | (simp; done) | (simp; omega))) ?_
           rintro _ _ ⟨rfl, rfl⟩
           rw [show eqI (reachL M F a) (reachL M F a) = true from (eqI_refl _)]
           refine t_f1 ?_
           refine t_wT (B := Emp) s42 ?_
           refine t_f1 ?_
           refine t_wT (B := Emp) s45 ?_
           refine t_f1 ?_
           refine t_f8 ?_
           refine t_f8 ?_
           refine t_f8 ?_
           refine t_f8 ?_
           refine t_f8 ?_
           refine t_f8 ?_
           refine t_f8 ?_
           exact d_closes ⟨look_row rfl 39 rfl s39, look_row rfl 42 rfl s42, look_row rfl 45 rfl s45, trivial⟩ 46 rfl rfl rfl hS (AgreeR.refl _) (t_sat (fun _ h => h) (hK (bs14, cp15, bs18, cp19, bs22, cp23, bs26, cp27, bs30, cp31, bs34, cp35) ⟨hf0, hf1, hf2, hf3, hf4, hf5, hf6, hf7, hf8, hf9, hf10, hf11⟩))
          · -- 47
           rintro ⟨bs14, cp15, bs18, cp19, bs22, cp23, bs26, cp27, bs30, cp31, bs34, cp35⟩ S hF hS D hp K hK
           try dsimp only at hF ⊢
           obtain ⟨hf0, hf1, hf2, hf3, hf4, hf5, hf6, hf7, hf8, hf9, hf10, hf11⟩ := hF
           have s39 := hp 39 rfl
           have s46 := hp 46 rfl
           refine d_need (small := [(121, (.bool true)), (128, (.bool true))]) ⟨look_row rfl 39 rfl s39, look_row rfl 46 rfl s46, trivial⟩ ?_
           refine tp rfl (lv_pick_t rfl rfl) ?_
           exact d_closes ⟨look_row rfl 39 rfl s39, look_row rfl 46 rfl s46, trivial⟩ 47 rfl rfl rfl hS (AgreeR.refl _) (t_sat (fun _ h => h) (hK (bs14, cp15, bs18, cp19, bs22, cp23, bs26, cp27, bs30, cp31, bs34, cp35) ⟨hf0, hf1, hf2, hf3, hf4, hf5, hf6, hf7, hf8, hf9, hf10, hf11⟩))
          · -- 48
           rintro ⟨bs14, cp15, bs18, cp19, bs22, cp23, bs26, cp27, bs30, cp31, bs34, cp35⟩ S hF hS D hp K hK
           try dsimp only at hF ⊢
           obtain ⟨hf0, hf1, hf2, hf3, hf4, hf5, hf6, hf7, hf8, hf9, hf10, hf11⟩ := hF
           have s47 := hp 47 rfl
           refine d_need (small := [(129, (.bool true))]) ⟨look_row rfl 47 rfl s47, trivial⟩ ?_
           refine tp rfl (lv_move rfl) ?_
           exact d_closes ⟨look_row rfl 47 rfl s47, trivial⟩ 48 rfl rfl rfl hS (AgreeR.refl _) (t_sat (fun _ h => h) (hK (bs14, cp15, bs18, cp19, bs22, cp23, bs26, cp27, bs30, cp31, bs34, cp35) ⟨hf0, hf1, hf2, hf3, hf4, hf5, hf6, hf7, hf8, hf9, hf10, hf11⟩))
          · -- 49
           rintro ⟨bs14, cp15, bs18, cp19, bs22, cp23, bs26, cp27, bs30, cp31, bs34, cp35⟩ S hF hS D hp K hK
           try dsimp only at hF ⊢
           obtain ⟨hf0, hf1, hf2, hf3, hf4, hf5, hf6, hf7, hf8, hf9, hf10, hf11⟩ := hF
           have s48 := hp 48 rfl
           refine d_need (small := [(10, (.pointer (some ⟨p1, 0, none⟩))), (130, (.bool true))]) ⟨look_b rfl rfl, look_row rfl 48 rfl s48, trivial⟩ ?_
           refine t_guard rfl rfl ?_
           refine tp rfl (lv_move rfl) ?_
           exact d_closes ⟨look_b rfl rfl, look_row rfl 48 rfl s48, trivial⟩ 49 rfl rfl rfl hS (AgreeR.refl _) (t_sat (fun _ h => h) (hK (bs14, cp15, bs18, cp19, bs22, cp23, bs26, cp27, bs30, cp31, bs34, cp35) ⟨hf0, hf1, hf2, hf3, hf4, hf5, hf6, hf7, hf8, hf9, hf10, hf11⟩))
          · -- 50
           rintro ⟨bs14, cp15, bs18, cp19, bs22, cp23, bs26, cp27, bs30, cp31, bs34, cp35⟩ S hF hS D hp K hK
           try dsimp only at hF ⊢
           obtain ⟨hf0, hf1, hf2, hf3, hf4, hf5, hf6, hf7, hf8, hf9, hf10, hf11⟩ := hF
           have s48 := hp 48 rfl
           refine d_need (small := [(2, (.int .i64 a)), (130, (.bool true))]) ⟨look_b rfl rfl, look_row rfl 48 rfl s48, trivial⟩ ?_
           refine t_guard rfl rfl ?_
           refine tp rfl (lv_move rfl) ?_
           exact d_closes ⟨look_b rfl rfl, look_row rfl 48 rfl s48, trivial⟩ 50 rfl rfl rfl hS (AgreeR.refl _) (t_sat (fun _ h => h) (hK (bs14, cp15, bs18, cp19, bs22, cp23, bs26, cp27, bs30, cp31, bs34, cp35) ⟨hf0, hf1, hf2, hf3, hf4, hf5, hf6, hf7, hf8, hf9, hf10, hf11⟩))
          · -- 51
           rintro ⟨bs14, cp15, bs18, cp19, bs22, cp23, bs26, cp27, bs30, cp31, bs34, cp35⟩ S hF hS D hp K hK
           try dsimp only at hF ⊢
           obtain ⟨hf0, hf1, hf2, hf3, hf4, hf5, hf6, hf7, hf8, hf9, hf10, hf11⟩ := hF
           have s48 := hp 48 rfl
           refine d_need (small := [(3, (.int .i64 b)), (130, (.bool true))]) ⟨look_b rfl rfl, look_row rfl 48 rfl s48, trivial⟩ ?_
           refine t_guard rfl rfl ?_
           refine tp rfl (lv_move rfl) ?_
           exact d_closes ⟨look_b rfl rfl, look_row rfl 48 rfl s48, trivial⟩ 51 rfl rfl rfl hS (AgreeR.refl _) (t_sat (fun _ h => h) (hK (bs14, cp15, bs18, cp19, bs22, cp23, bs26, cp27, bs30, cp31, bs34, cp35) ⟨hf0, hf1, hf2, hf3, hf4, hf5, hf6, hf7, hf8, hf9, hf10, hf11⟩))
          · -- 52
           rintro ⟨bs14, cp15, bs18, cp19, bs22, cp23, bs26, cp27, bs30, cp31, bs34, cp35⟩ S hF hS D hp K hK
           try dsimp only at hF ⊢
           obtain ⟨hf0, hf1, hf2, hf3, hf4, hf5, hf6, hf7, hf8, hf9, hf10, hf11⟩ := hF
           have s48 := hp 48 rfl
           have s49 := hp 49 rfl
           have s50 := hp 50 rfl
           have s51 := hp 51 rfl
           refine d_need (small := [(130, (.bool true)), (131, (.pointer (some ⟨p1, 0, none⟩))), (132, (.int .i64 a)), (133, (.int .i64 b))]) ⟨look_row rfl 48 rfl s48, look_row rfl 49 rfl s49, look_row rfl 50 rfl s50, look_row rfl 51 rfl s51, trivial⟩ ?_
           refine t_guard rfl rfl ?_
           refine t_f2 ?_
           refine tc rfl (en_fn Tryd.call13 rfl) (reaches_ok (N := M) (es := F) a b (Tab.cons (Tab.cons (Tab.cons (Tab.cons (Tab.cons (Tab.cons (Tab.cons (Tab.cons hT))))))))) ?_
           rintro _ _ ⟨rfl, rfl⟩
           refine t_f2 ?_
           refine t_f2 ?_
           exact d_closes ⟨look_row rfl 48 rfl s48, look_row rfl 49 rfl s49, look_row rfl 50 rfl s50, look_row rfl 51 rfl s51, trivial⟩ 52 rfl rfl rfl hS (AgreeR.refl _) (t_sat (fun _ h => h) (hK (bs14, cp15, bs18, cp19, bs22, cp23, bs26, cp27, bs30, cp31, bs34, cp35) ⟨hf0, hf1, hf2, hf3, hf4, hf5, hf6, hf7, hf8, hf9, hf10, hf11⟩))
          · -- 53
           rintro ⟨bs14, cp15, bs18, cp19, bs22, cp23, bs26, cp27, bs30, cp31, bs34, cp35⟩ S hF hS D hp K hK
           try dsimp only at hF ⊢
           obtain ⟨hf0, hf1, hf2, hf3, hf4, hf5, hf6, hf7, hf8, hf9, hf10, hf11⟩ := hF
           have s48 := hp 48 rfl
           refine d_need (small := [(3, (.int .i64 b)), (130, (.bool true))]) ⟨look_b rfl rfl, look_row rfl 48 rfl s48, trivial⟩ ?_
           refine t_guard rfl rfl ?_
           refine tp rfl (lv_move rfl) ?_
           exact d_closes ⟨look_b rfl rfl, look_row rfl 48 rfl s48, trivial⟩ 53 rfl rfl rfl hS (AgreeR.refl _) (t_sat (fun _ h => h) (hK (bs14, cp15, bs18, cp19, bs22, cp23, bs26, cp27, bs30, cp31, bs34, cp35) ⟨hf0, hf1, hf2, hf3, hf4, hf5, hf6, hf7, hf8, hf9, hf10, hf11⟩))
          · -- 54
           rintro ⟨bs14, cp15, bs18, cp19, bs22, cp23, bs26, cp27, bs30, cp31, bs34, cp35⟩ S hF hS D hp K hK
           try dsimp only at hF ⊢
           obtain ⟨hf0, hf1, hf2, hf3, hf4, hf5, hf6, hf7, hf8, hf9, hf10, hf11⟩ := hF
           have s53 := hp 53 rfl
           have s48 := D 53 48 rfl s53
           have s47 := D 48 47 rfl s48
           have s46 := D 47 46 rfl s47
           have s45 := D 46 45 rfl s46
           have s44 := D 45 44 rfl s45
           have s39 := D 44 39 rfl s44
           have s38 := D 39 38 rfl s39
           have s37 := D 38 37 rfl s38
           have s36 := D 37 36 rfl s37
           have s35 := D 36 35 rfl s36
           have s30 := D 35 30 rfl s35
           have s29 := D 30 29 rfl s30
           have s28 := D 29 28 rfl s29
           have s24 := D 28 24 rfl s28
           have hok16 := hf0 s24
           have hle17 := hf1 s24
           have s27 := D 28 27 rfl s28
           have hok20 := hf2 s27
           have hle21 := hf3 s27
           have s33 := D 37 33 rfl s37
           have hok24 := hf4 s33
           have hle25 := hf5 s33
           have hok28 := hf6 s36
           have hle29 := hf7 s36
           have s42 := D 46 42 rfl s46
           have hok32 := hf8 s42
           have hle33 := hf9 s42
           have hok36 := hf10 s45
           have hle37 := hf11 s45
           refine d_need (small := [(130, (.bool true)), (135, (.int .i64 b))]) ⟨look_row rfl 48 rfl s48, look_row rfl 53 rfl s53, trivial⟩ ?_
           refine t_guard rfl rfl ?_
           refine tp rfl (lv_geq rfl rfl (decide_eq_true h12)) ?_
           exact d_closes ⟨look_row rfl 48 rfl s48, look_row rfl 53 rfl s53, trivial⟩ 54 rfl rfl rfl hS (AgreeR.refl _) (t_sat (fun _ h => h) (hK (bs14, cp15, bs18, cp19, bs22, cp23, bs26, cp27, bs30, cp31, bs34, cp35) ⟨hf0, hf1, hf2, hf3, hf4, hf5, hf6, hf7, hf8, hf9, hf10, hf11⟩))
          · -- 55
           rintro ⟨bs14, cp15, bs18, cp19, bs22, cp23, bs26, cp27, bs30, cp31, bs34, cp35⟩ S hF hS D hp K hK
           try dsimp only at hF ⊢
           obtain ⟨hf0, hf1, hf2, hf3, hf4, hf5, hf6, hf7, hf8, hf9, hf10, hf11⟩ := hF
           have s48 := hp 48 rfl
           have s54 := hp 54 rfl
           refine d_need (small := [(130, (.bool true)), (136, (.bool true))]) ⟨look_row rfl 48 rfl s48, look_row rfl 54 rfl s54, trivial⟩ ?_
           refine t_guard rfl rfl ?_
           refine tp rfl (lv_move rfl) ?_
           exact d_closes ⟨look_row rfl 48 rfl s48, look_row rfl 54 rfl s54, trivial⟩ 55 rfl rfl rfl hS (AgreeR.refl _) (t_sat (fun _ h => h) (hK (bs14, cp15, bs18, cp19, bs22, cp23, bs26, cp27, bs30, cp31, bs34, cp35) ⟨hf0, hf1, hf2, hf3, hf4, hf5, hf6, hf7, hf8, hf9, hf10, hf11⟩))
          · -- 56
           rintro ⟨bs14, cp15, bs18, cp19, bs22, cp23, bs26, cp27, bs30, cp31, bs34, cp35⟩ S hF hS D hp K hK
           try dsimp only at hF ⊢
           obtain ⟨hf0, hf1, hf2, hf3, hf4, hf5, hf6, hf7, hf8, hf9, hf10, hf11⟩ := hF
           have s55 := hp 55 rfl
           refine d_need (small := [(3, (.int .i64 b)), (137, (.bool true))]) ⟨look_b rfl rfl, look_row rfl 55 rfl s55, trivial⟩ ?_
           refine t_guard rfl rfl ?_
           refine tp rfl (lv_move rfl) ?_
           exact d_closes ⟨look_b rfl rfl, look_row rfl 55 rfl s55, trivial⟩ 56 rfl rfl rfl hS (AgreeR.refl _) (t_sat (fun _ h => h) (hK (bs14, cp15, bs18, cp19, bs22, cp23, bs26, cp27, bs30, cp31, bs34, cp35) ⟨hf0, hf1, hf2, hf3, hf4, hf5, hf6, hf7, hf8, hf9, hf10, hf11⟩))
          · -- 57
           rintro ⟨bs14, cp15, bs18, cp19, bs22, cp23, bs26, cp27, bs30, cp31, bs34, cp35⟩ S hF hS D hp K hK
           try dsimp only at hF ⊢
           obtain ⟨hf0, hf1, hf2, hf3, hf4, hf5, hf6, hf7, hf8, hf9, hf10, hf11⟩ := hF
           have s55 := hp 55 rfl
           refine d_need (small := [(11, (.pointer (some ⟨p2, 0, none⟩))), (137, (.bool true))]) ⟨look_b rfl rfl, look_row rfl 55 rfl s55, trivial⟩ ?_
           refine t_guard rfl rfl ?_
           refine tp rfl (lv_move rfl) ?_
           exact d_closes ⟨look_b rfl rfl, look_row rfl 55 rfl s55, trivial⟩ 57 rfl rfl rfl hS (AgreeR.refl _) (t_sat (fun _ h => h) (hK (bs14, cp15, bs18, cp19, bs22, cp23, bs26, cp27, bs30, cp31, bs34, cp35) ⟨hf0, hf1, hf2, hf3, hf4, hf5, hf6, hf7, hf8, hf9, hf10, hf11⟩))
          · -- 58
           rintro ⟨bs14, cp15, bs18, cp19, bs22, cp23, bs26, cp27, bs30, cp31, bs34, cp35⟩ S hF hS D hp K hK
           try dsimp only at hF ⊢
           obtain ⟨hf0, hf1, hf2, hf3, hf4, hf5, hf6, hf7, hf8, hf9, hf10, hf11⟩ := hF
           have s55 := hp 55 rfl
           have s57 := hp 57 rfl
           refine d_need (small := [(137, (.bool true)), (139, (.pointer (some ⟨p2, 0, none⟩)))]) ⟨look_row rfl 55 rfl s55, look_row rfl 57 rfl s57, trivial⟩ ?_
           refine t_guard rfl rfl ?_
           refine tp rfl (lv_nilCheck rfl) ?_
           exact d_closes ⟨look_row rfl 55 rfl s55, look_row rfl 57 rfl s57, trivial⟩ 58 rfl rfl rfl hS (AgreeR.refl _) (t_sat (fun _ h => h) (hK (bs14, cp15, bs18, cp19, bs22, cp23, bs26, cp27, bs30, cp31, bs34, cp35) ⟨hf0, hf1, hf2, hf3, hf4, hf5, hf6, hf7, hf8, hf9, hf10, hf11⟩))
          · -- 59
           rintro ⟨bs14, cp15, bs18, cp19, bs22, cp23, bs26, cp27, bs30, cp31, bs34, cp35⟩ S hF hS D hp K hK
           try dsimp only at hF ⊢
           obtain ⟨hf0, hf1, hf2, hf3, hf4, hf5, hf6, hf7, hf8, hf9, hf10, hf11⟩ := hF
           have s55 := hp 55 rfl
           have s58 := hp 58 rfl
           refine d_need (small := [(137, (.bool true)), (140, (.pointer (some ⟨p2, 0, none⟩)))]) ⟨look_row rfl 55 rfl s55, look_row rfl 58 rfl s58, trivial⟩ ?_
           refine t_guard rfl rfl ?_
           refine tp rfl (lv_fieldAddr (o' := 0) Tryd.underlying46 rfl Tryd.sizeOf3 rfl rfl) ?_
           exact d_closes ⟨look_row rfl 55 rfl s55, look_row rfl 58 rfl s58, trivial⟩ 59 rfl rfl rfl hS (AgreeR.refl _) (t_sat (fun _ h => h) (hK (bs14, cp15, bs18, cp19, bs22, cp23, bs26, cp27, bs30, cp31, bs34, cp35) ⟨hf0, hf1, hf2, hf3, hf4, hf5, hf6, hf7, hf8, hf9, hf10, hf11⟩))
          · -- 60
           rintro ⟨bs14, cp15, bs18, cp19, bs22, cp23, bs26, cp27, bs30, cp31, bs34, cp35⟩ S hF hS D hp K hK
           try dsimp only at hF ⊢
           obtain ⟨hf0, hf1, hf2, hf3, hf4, hf5, hf6, hf7, hf8, hf9, hf10, hf11⟩ := hF
           have s59 := hp 59 rfl
           have s58 := D 59 58 rfl s59
           have s57 := D 58 57 rfl s58
           have s55 := D 57 55 rfl s57
           have s54 := D 55 54 rfl s55
           have s53 := D 54 53 rfl s54
           have s48 := D 53 48 rfl s53
           have s47 := D 48 47 rfl s48
           have s46 := D 47 46 rfl s47
           have s45 := D 46 45 rfl s46
           have s44 := D 45 44 rfl s45
           have s39 := D 44 39 rfl s44
           have s38 := D 39 38 rfl s39
           have s37 := D 38 37 rfl s38
           have s36 := D 37 36 rfl s37
           have s35 := D 36 35 rfl s36
           have s30 := D 35 30 rfl s35
           have s29 := D 30 29 rfl s30
           have s28 := D 29 28 rfl s29
           have s24 := D 28 24 rfl s28
           have hok16 := hf0 s24
           have hle17 := hf1 s24
           have s27 := D 28 27 rfl s28
           have hok20 := hf2 s27
           have hle21 := hf3 s27
           have s33 := D 37 33 rfl s37
           have hok24 := hf4 s33
           have hle25 := hf5 s33
           have hok28 := hf6 s36
           have hle29 := hf7 s36
           have s42 := D 46 42 rfl s46
           have hok32 := hf8 s42
           have hle33 := hf9 s42
           have hok36 := hf10 s45
           have hle37 := hf11 s45
           refine d_need (small := [(137, (.bool true)), (141, (.pointer (some ⟨p2, 0, none⟩)))]) ⟨look_row rfl 55 rfl s55, look_row rfl 59 rfl s59, trivial⟩ ?_
           refine t_guard rfl rfl ?_
           refine tp rfl (lv_load Tryd.isAgg3 rfl (gives_blk (.head _) rfl)) ?_
           exact d_closes ⟨look_row rfl 55 rfl s55, look_row rfl 59 rfl s59, trivial⟩ 60 rfl rfl rfl hS (AgreeR.refl _) (t_sat (fun _ h => h) (hK (bs14, cp15, bs18, cp19, bs22, cp23, bs26, cp27, bs30, cp31, bs34, cp35) ⟨hf0, hf1, hf2, hf3, hf4, hf5, hf6, hf7, hf8, hf9, hf10, hf11⟩))
          · -- 61
           rintro ⟨bs14, cp15, bs18, cp19, bs22, cp23, bs26, cp27, bs30, cp31, bs34, cp35⟩ S hF hS D hp K hK
           try dsimp only at hF ⊢
           obtain ⟨hf0, hf1, hf2, hf3, hf4, hf5, hf6, hf7, hf8, hf9, hf10, hf11⟩ := hF
           have s60 := hp 60 rfl
           have s59 := D 60 59 rfl s60
           have s58 := D 59 58 rfl s59
           have s57 := D 58 57 rfl s58
           have s55 := D 57 55 rfl s57
           have s54 := D 55 54 rfl s55
           have s53 := D 54 53 rfl s54
           have s48 := D 53 48 rfl s53
           have s47 := D 48 47 rfl s48
           have s46 := D 47 46 rfl s47
           have s45 := D 46 45 rfl s46
           have s44 := D 45 44 rfl s45
           have s39 := D 44 39 rfl s44
           have s38 := D 39 38 rfl s39
           have s37 := D 38 37 rfl s38
           have s36 := D 37 36 rfl s37
           have s35 := D 36 35 rfl s36
           have s30 := D 35 30 rfl s35
           have s29 := D 30 29 rfl s30
           have s28 := D 29 28 rfl s29
           have s24 := D 28 24 rfl s28
           have hok16 := hf0 s24
           have hle17 := hf1 s24
           have s27 := D 28 27 rfl s28
           have hok20 := hf2 s27
           have hle21 := hf3 s27
           have s33 := D 37 33 rfl s37
           have hok24 := hf4 s33
           have hle25 := hf5 s33
           have hok28 := hf6 s36
           have hle29 := hf7 s36
           have s42 := D 46 42 rfl s46
           have hok32 := hf8 s42
           have hle33 := hf9 s42
           have hok36 := hf10 s45
           have hle37 := hf11 s45
           have s56 := hp 56 rfl
           refine d_need (small := [(137, (.bool true)), (138, (.int .i64 b)), (142, (.int .i64 ((M : Nat) : Int)))]) ⟨look_row rfl 55 rfl s55, look_row rfl 56 rfl s56, look_row rfl 60 rfl s60, trivial⟩ ?_
           refine t_guard rfl rfl ?_
           refine tp rfl (lv_lss rfl rfl (decide_eq_false h13)) ?_
           exact d_closes ⟨look_row rfl 55 rfl s55, look_row rfl 56 rfl s56, look_row rfl 60 rfl s60, trivial⟩ 61 rfl rfl rfl hS (AgreeR.refl _) (t_sat (fun _ h => h) (hK (bs14, cp15, bs18, cp19, bs22, cp23, bs26, cp27, bs30, cp31, bs34, cp35) ⟨hf0, hf1, hf2, hf3, hf4, hf5, hf6, hf7, hf8, hf9, hf10, hf11⟩))
          · -- 62
           rintro ⟨bs14, cp15, bs18, cp19, bs22, cp23, bs26, cp27, bs30, cp31, bs34, cp35⟩ S hF hS D hp K hK
           try dsimp only at hF ⊢
           obtain ⟨hf0, hf1, hf2, hf3, hf4, hf5, hf6, hf7, hf8, hf9, hf10, hf11⟩ := hF
           have s48 := hp 48 rfl
           have s55 := hp 55 rfl
           have s61 := hp 61 rfl
           refine d_need (small := [(130, (.bool true)), (137, (.bool true)), (143, (.bool false))]) ⟨look_row rfl 48 rfl s48, look_row rfl 55 rfl s55, look_row rfl 61 rfl s61, trivial⟩ ?_
           refine t_guard rfl rfl ?_
           refine tp rfl (lv_pick_t rfl rfl) ?_
           exact d_closes ⟨look_row rfl 48 rfl s48, look_row rfl 55 rfl s55, look_row rfl 61 rfl s61, trivial⟩ 62 rfl rfl rfl hS (AgreeR.refl _) (t_sat (fun _ h => h) (hK (bs14, cp15, bs18, cp19, bs22, cp23, bs26, cp27, bs30, cp31, bs34, cp35) ⟨hf0, hf1, hf2, hf3, hf4, hf5, hf6, hf7, hf8, hf9, hf10, hf11⟩))
          · -- 63
           rintro ⟨bs14, cp15, bs18, cp19, bs22, cp23, bs26, cp27, bs30, cp31, bs34, cp35⟩ S hF hS D hp K hK
           try dsimp only at hF ⊢
           obtain ⟨hf0, hf1, hf2, hf3, hf4, hf5, hf6, hf7, hf8, hf9, hf10, hf11⟩ := hF
           have s48 := hp 48 rfl
           have s62 := hp 62 rfl
           refine d_need (small := [(130, (.bool true)), (144, (.bool false))]) ⟨look_row rfl 48 rfl s48, look_row rfl 62 rfl s62, trivial⟩ ?_
           refine t_guard rfl rfl ?_
           refine tp rfl (lv_move rfl) ?_
           exact d_closes ⟨look_row rfl 48 rfl s48, look_row rfl 62 rfl s62, trivial⟩ 63 rfl rfl rfl hS (AgreeR.refl _) (t_sat (fun _ h => h) (hK (bs14, cp15, bs18, cp19, bs22, cp23, bs26, cp27, bs30, cp31, bs34, cp35) ⟨hf0, hf1, hf2, hf3, hf4, hf5, hf6, hf7, hf8, hf9, hf10, hf11⟩))
          · -- 64
           rintro ⟨bs14, cp15, bs18, cp19, bs22, cp23, bs26, cp27, bs30, cp31, bs34, cp35⟩ S hF hS D hp K hK
           try dsimp only at hF ⊢
           obtain ⟨hf0, hf1, hf2, hf3, hf4, hf5, hf6, hf7, hf8, hf9, hf10, hf11⟩ := hF
           have s63 := hp 63 rfl
           refine d_need (small := [(11, (.pointer (some ⟨p2, 0, none⟩))), (145, (.bool false))]) ⟨look_b rfl rfl, look_row rfl 63 rfl s63, trivial⟩ ?_
           refine t_skip rfl rfl rfl ?_
           exact d_closes ⟨look_b rfl rfl, look_row rfl 63 rfl s63, trivial⟩ 64 rfl rfl rfl hS (AgreeR.refl _) (t_sat (fun _ h => h) (hK (bs14, cp15, bs18, cp19, bs22, cp23, bs26, cp27, bs30, cp31, bs34, cp35) ⟨hf0, hf1, hf2, hf3, hf4, hf5, hf6, hf7, hf8, hf9, hf10, hf11⟩))
          · -- 65
           rintro ⟨bs14, cp15, bs18, cp19, bs22, cp23, bs26, cp27, bs30, cp31, bs34, cp35⟩ S hF hS D hp K hK
           try dsimp only at hF ⊢
           obtain ⟨hf0, hf1, hf2, hf3, hf4, hf5, hf6, hf7, hf8, hf9, hf10, hf11⟩ := hF
           have s63 := hp 63 rfl
           refine d_need (small := [(2, (.int .i64 a)), (145, (.bool false))]) ⟨look_b rfl rfl, look_row rfl 63 rfl s63, trivial⟩ ?_
           refine t_skip rfl rfl rfl ?_
           exact d_closes ⟨look_b rfl rfl, look_row rfl 63 rfl s63, trivial⟩ 65 rfl rfl rfl hS (AgreeR.refl _) (t_sat (fun _ h => h) (hK (bs14, cp15, bs18, cp19, bs22, cp23, bs26, cp27, bs30, cp31, bs34, cp35) ⟨hf0, hf1, hf2, hf3, hf4, hf5, hf6, hf7, hf8, hf9, hf10, hf11⟩))
          · -- 66
           rintro ⟨bs14, cp15, bs18, cp19, bs22, cp23, bs26, cp27, bs30, cp31, bs34, cp35⟩ S hF hS D hp K hK
           try dsimp only at hF ⊢
           obtain ⟨hf0, hf1, hf2, hf3, hf4, hf5, hf6, hf7, hf8, hf9, hf10, hf11⟩ := hF
           have s63 := hp 63 rfl
           refine d_need (small := [(3, (.int .i64 b)), (145, (.bool false))]) ⟨look_b rfl rfl, look_row rfl 63 rfl s63, trivial⟩ ?_
           refine t_skip rfl rfl rfl ?_
           exact d_closes ⟨look_b rfl rfl, look_row rfl 63 rfl s63, trivial⟩ 66 rfl rfl rfl hS (AgreeR.refl _) (t_sat (fun _ h => h) (hK (bs14, cp15, bs18, cp19, bs22, cp23, bs26, cp27, bs30, cp31, bs34, cp35) ⟨hf0, hf1, hf2, hf3, hf4, hf5, hf6, hf7, hf8, hf9, hf10, hf11⟩))
          · -- 67
           rintro ⟨bs14, cp15, bs18, cp19, bs22, cp23, bs26, cp27, bs30, cp31, bs34, cp35⟩ S hF hS D hp K hK
           try dsimp only at hF ⊢
           obtain ⟨hf0, hf1, hf2, hf3, hf4, hf5, hf6, hf7, hf8, hf9, hf10, hf11⟩ := hF
           have s63 := hp 63 rfl
           have s64 := hp 64 rfl
           have s65 := hp 65 rfl
           have s66 := hp 66 rfl
           refine d_need (small := [(145, (.bool false)), (146, undef), (147, undef), (148, undef)]) ⟨look_row rfl 63 rfl s63, look_row rfl 64 rfl s64, look_row rfl 65 rfl s65, look_row rfl 66 rfl s66, trivial⟩ ?_
           refine t_skip rfl rfl rfl ?_
           exact d_closes ⟨look_row rfl 63 rfl s63, look_row rfl 64 rfl s64, look_row rfl 65 rfl s65, look_row rfl 66 rfl s66, trivial⟩ 67 rfl rfl rfl hS (AgreeR.refl _) (t_sat (fun _ h => h) (hK (bs14, cp15, bs18, cp19, bs22, cp23, bs26, cp27, bs30, cp31, bs34, cp35) ⟨hf0, hf1, hf2, hf3, hf4, hf5, hf6, hf7, hf8, hf9, hf10, hf11⟩))
          · -- 68
           rintro ⟨bs14, cp15, bs18, cp19, bs22, cp23, bs26, cp27, bs30, cp31, bs34, cp35⟩ S hF hS D hp K hK
           try dsimp only at hF ⊢
           obtain ⟨hf0, hf1, hf2, hf3, hf4, hf5, hf6, hf7, hf8, hf9, hf10, hf11⟩ := hF
           have s48 := hp 48 rfl
           have s63 := hp 63 rfl
           have s67 := hp 67 rfl
           refine d_need (small := [(130, (.bool true)), (145, (.bool false)), (149, undef)]) ⟨look_row rfl 48 rfl s48, look_row rfl 63 rfl s63, look_row rfl 67 rfl s67, trivial⟩ ?_
           refine t_guard rfl rfl ?_
           refine tp rfl (lv_pick_f rfl rfl) ?_
           exact d_closes ⟨look_row rfl 48 rfl s48, look_row rfl 63 rfl s63, look_row rfl 67 rfl s67, trivial⟩ 68 rfl rfl rfl hS (AgreeR.refl _) (t_sat (fun _ h => h) (hK (bs14, cp15, bs18, cp19, bs22, cp23, bs26, cp27, bs30, cp31, bs34, cp35) ⟨hf0, hf1, hf2, hf3, hf4, hf5, hf6, hf7, hf8, hf9, hf10, hf11⟩))
          · -- 69
           rintro ⟨bs14, cp15, bs18, cp19, bs22, cp23, bs26, cp27, bs30, cp31, bs34, cp35⟩ S hF hS D hp K hK
           try dsimp only at hF ⊢
           obtain ⟨hf0, hf1, hf2, hf3, hf4, hf5, hf6, hf7, hf8, hf9, hf10, hf11⟩ := hF
           have s48 := hp 48 rfl
           have s52 := hp 52 rfl
           have s68 := hp 68 rfl
           refine d_need (small := [(130, (.bool true)), (134, (.bool (reachB M F a b))), (150, (.bool false))]) ⟨look_row rfl 48 rfl s48, look_row rfl 52 rfl s52, look_row rfl 68 rfl s68, trivial⟩ ?_
           refine t_guard rfl rfl ?_
           refine tp rfl (lv_eqb Tryd.underlying4 rfl rfl (by first | exact beq_self_eq_true _ | rw [reachB_badb (by omega)])) ?_
           exact d_closes ⟨look_row rfl 48 rfl s48, look_row rfl 52 rfl s52, look_row rfl 68 rfl s68, trivial⟩ 69 rfl rfl rfl hS (AgreeR.refl _) (t_sat (fun _ h => h) (hK (bs14, cp15, bs18, cp19, bs22, cp23, bs26, cp27, bs30, cp31, bs34, cp35) ⟨hf0, hf1, hf2, hf3, hf4, hf5, hf6, hf7, hf8, hf9, hf10, hf11⟩))
          · -- 70
           rintro ⟨bs14, cp15, bs18, cp19, bs22, cp23, bs26, cp27, bs30, cp31, bs34, cp35⟩ S hF hS D hp K hK
           try dsimp only at hF ⊢
           obtain ⟨hf0, hf1, hf2, hf3, hf4, hf5, hf6, hf7, hf8, hf9, hf10, hf11⟩ := hF
           have s48 := hp 48 rfl
           have s69 := hp 69 rfl
           refine d_need (small := [(130, (.bool true)), (151, (.bool true))]) ⟨look_row rfl 48 rfl s48, look_row rfl 69 rfl s69, trivial⟩ ?_
           refine tp rfl (lv_pick_t rfl rfl) ?_
           exact d_closes ⟨look_row rfl 48 rfl s48, look_row rfl 69 rfl s69, trivial⟩ 70 rfl rfl rfl hS (AgreeR.refl _) (t_sat (fun _ h => h) (hK (bs14, cp15, bs18, cp19, bs22, cp23, bs26, cp27, bs30, cp31, bs34, cp35) ⟨hf0, hf1, hf2, hf3, hf4, hf5, hf6, hf7, hf8, hf9, hf10, hf11⟩))
          · -- 71
           rintro ⟨bs14, cp15, bs18, cp19, bs22, cp23, bs26, cp27, bs30, cp31, bs34, cp35⟩ S hF hS D hp K hK
           try dsimp only at hF ⊢
           obtain ⟨hf0, hf1, hf2, hf3, hf4, hf5, hf6, hf7, hf8, hf9, hf10, hf11⟩ := hF
           have s70 := hp 70 rfl
           refine d_need (small := [(152, (.bool true))]) ⟨look_row rfl 70 rfl s70, trivial⟩ ?_
           refine tp rfl (lv_assign rfl) ?_
           exact d_closes ⟨look_row rfl 70 rfl s70, trivial⟩ 71 rfl rfl rfl hS (AgreeR.refl _) (t_sat (fun _ h => h) (hK (bs14, cp15, bs18, cp19, bs22, cp23, bs26, cp27, bs30, cp31, bs34, cp35) ⟨hf0, hf1, hf2, hf3, hf4, hf5, hf6, hf7, hf8, hf9, hf10, hf11⟩))
         · -- behind
          rintro ⟨bs14, cp15, bs18, cp19, bs22, cp23, bs26, cp27, bs30, cp31, bs34, cp35⟩ hF
          try dsimp only at hF ⊢
          obtain ⟨hf0, hf1, hf2, hf3, hf4, hf5, hf6, hf7, hf8, hf9, hf10, hf11⟩ := hF
          have hok16 := hf0 rfl
          have hle17 := hf1 rfl
          have hok20 := hf2 rfl
          have hle21 := hf3 rfl
          have hok24 := hf4 rfl
          have hle25 := hf5 rfl
          have hok28 := hf6 rfl
          have hle29 := hf7 rfl
          have hok32 := hf8 rfl
          have hle33 := hf9 rfl
          have hok36 := hf10 rfl
          have hle37 := hf11 rfl
          refine t_weak (E' := [(0, (.int .i64 n)), (1, (.slice bl es.length cl)), (2, (.int .i64 a)), (3, (.int .i64 b)), (8, (.bool true)), (9, (.bool true)), (10, (.pointer (some ⟨p1, 0, none⟩))), (11, (.pointer (some ⟨p2, 0, none⟩))), (12, (.int .i64 ((k : Nat) : Int))), (23, (.bool false)), (31, (.bool false))]) ⟨rfl, rfl, rfl, rfl, rfl, rfl, rfl, rfl, rfl, rfl, rfl, trivial⟩ ?_
          refine q_then_n (hK12 _ _ ?_)
          refine c_ret ?_
          refine t_drop ?_
          refine t_drop ?_
          refine t_drop ?_
          refine t_drop ?_
          refine t_drop ?_
          refine t_drop ?_
          refine t_drop ?_
          refine t_drop ?_
          refine t_drop ?_
          refine q_ret rfl rfl ?_
          exact ⟨rfl, rfl⟩
      · -- no
        refine c_draw (γ := Option Addr × Nat × Option Addr × Nat × Option Addr × Nat × Option Addr × Nat × Option Addr × Nat × Option Addr × Nat) (n := 72) Tryd.mixed rfl rfl (fun (bs14, cp15, bs18, cp19, bs22, cp23, bs26, cp27, bs30, cp31, bs34, cp35) S => (S 24 = true → SlOk bs14 ((outs F a).length)) ∧ (S 24 = true → (outs F a).length ≤ cp15) ∧ (S 27 = true → SlOk bs18 ((outs F a).length)) ∧ (S 27 = true → (outs F a).length ≤ cp19) ∧ (S 33 = true → SlOk bs22 ((inns F a).length)) ∧ (S 33 = true → (inns F a).length ≤ cp23) ∧ (S 36 = true → SlOk bs26 ((inns F a).length)) ∧ (S 36 = true → (inns F a).length ≤ cp27) ∧ (S 42 = true → SlOk bs30 ((reachL M F a).length)) ∧ (S 42 = true → (reachL M F a).length ≤ cp31) ∧ (S 45 = true → SlOk bs34 ((reachL M F a).length)) ∧ (S 45 = true → (reachL M F a).length ≤ cp35)) (fun (bs14, cp15, bs18, cp19, bs22, cp23, bs26, cp27, bs30, cp31, bs34, cp35) => [(0, 82, (.bool true)), (1, 83, (.bool true)), (2, 84, (.pointer (some ⟨p1, 0, none⟩))), (3, 85, (.int .i64 ((M : Nat) : Int))), (4, 86, (.pointer (some ⟨p2, 0, none⟩))), (5, 87, (.pointer (some ⟨p2, 0, none⟩))), (6, 88, (.pointer (some ⟨p2, 0, none⟩))), (7, 89, (.int .i64 ((M : Nat) : Int))), (8, 90, (.bool true)), (9, 91, (.bool true)), (10, 92, (.bool true)), (11, 93, (.pointer (some ⟨p1, 0, none⟩))), (12, 94, (.int .i64 a)), (13, 95, (.int .i64 b)), (14, 96, (.bool (hasE F (a, b)))), (15, 97, (.pointer (some ⟨p2, 0, none⟩))), (16, 98, (.int .i64 a)), (17, 99, (.int .i64 b)), (18, 100, (.bool (hasE F (a, b)))), (19, 101, (.bool true)), (20, 102, (.bool true)), (21, 103, (.bool true)), (22, 104, (.pointer (some ⟨p1, 0, none⟩))), (23, 105, (.int .i64 a)), (24, 106, (.slice bs14 ((outs F a).length) cp15)), (25, 107, (.pointer (some ⟨p2, 0, none⟩))), (26, 108, (.int .i64 a)), (27, 109, (.slice bs18 ((outs F a).length) cp19)), (28, 110, (.bool true)), (29, 111, (.bool true)), (30, 112, (.bool true)), (31, 113, (.pointer (some ⟨p1, 0, none⟩))), (32, 114, (.int .i64 a)), (33, 115, (.slice bs22 ((inns F a).length) cp23)), (34, 116, (.pointer (some ⟨p2, 0, none⟩))), (35, 117, (.int .i64 a)), (36, 118, (.slice bs26 ((inns F a).length) cp27)), (37, 119, (.bool true)), (38, 120, (.bool true)), (39, 121, (.bool true)), (40, 122, (.pointer (some ⟨p1, 0, none⟩))), (41, 123, (.int .i64 a)), (42, 124, (.slice bs30 ((reachL M F a).length) cp31)), (43, 125, (.pointer (some ⟨p2, 0, none⟩))), (44, 126, (.int .i64 a)), (45, 127, (.slice bs34 ((reachL M F a).length) cp35)), (46, 128, (.bool true)), (47, 129, (.bool true)), (48, 130, (.bool true)), (49, 131, (.pointer (some ⟨p1, 0, none⟩))), (50, 132, (.int .i64 a)), (51, 133, (.int .i64 b)), (52, 134, (.bool (reachB M F a b))), (53, 135, (.int .i64 b)), (54, 136, (.bool false)), (55, 137, (.bool false)), (56, 138, undef), (57, 139, undef), (58, 140, undef), (59, 141, undef), (60, 142, undef), (61, 143, undef), (62, 144, (.bool false)), (63, 145, (.bool false)), (64, 146, undef), (65, 147, undef), (66, 148, undef), (67, 149, undef), (68, 150, (.bool false)), (69, 151, (.bool true)), (70, 152, (.bool true)), (71, 8, (.bool true))]) (fun (bs14, cp15, bs18, cp19, bs22, cp23, bs26, cp27, bs30, cp31, bs34, cp35) S => (Blk p2 [(.int .i64 ((M : Nat) : Int)), (.slice bs8 F.length cp9)] 46) :: (SlV 59 2 (.slice bs8 F.length cp9) F.length (pairs F)) :: (GraphO p1 M F) :: (bif S 24 then (SlV 3 1 (.slice bs14 ((outs F a).length) cp15) ((outs F a).length) (ints .i64 (outs F a))) else Emp) :: (bif S 27 then (SlV 3 1 (.slice bs18 ((outs F a).length) cp19) ((outs F a).length) (ints .i64 (outs F a))) else Emp) :: (bif S 33 then (SlV 3 1 (.slice bs22 ((inns F a).length) cp23) ((inns F a).length) (ints .i64 (inns F a))) else Emp) :: (bif S 36 then (SlV 3 1 (.slice bs26 ((inns F a).length) cp27) ((inns F a).length) (ints .i64 (inns F a))) else Emp) :: (bif S 42 then (SlV 3 1 (.slice bs30 ((reachL M F a).length) cp31) ((reachL M F a).length) (ints .i64 (reachL M F a))) else Emp) :: (bif S 45 then (SlV 3 1 (.slice bs34 ((reachL M F a).length) cp35) ((reachL M F a).length) (ints .i64 (reachL M F a))) else Emp) :: R) (none, 0, none, 0, none, 0, none, 0, none, 0, none, 0) (by simp [Nat.ble]) (fun _ h => sat_emps [_, _, _] 6 h) (fun _ _ h => h) ?_ ?_
        · -- steps
         refine ⟨?_, ?_, ?_, ?_, ?_, ?_, ?_, ?_, ?_, ?_, ?_, ?_, ?_, ?_, ?_, ?_, ?_, ?_, ?_, ?_, ?_, ?_, ?_, ?_, ?_, ?_, ?_, ?_, ?_, ?_, ?_, ?_, ?_, ?_, ?_, ?_, ?_, ?_, ?_, ?_, ?_, ?_, ?_, ?_, ?_, ?_, ?_, ?_, ?_, ?_, ?_, ?_, ?_, ?_, ?_, ?_, ?_, ?_, ?_, ?_, ?_, ?_, ?_, ?_, ?_, ?_, ?_, ?_, ?_, ?_, ?_, ?_, trivial⟩
         · -- 0
          rintro ⟨bs14, cp15, bs18, cp19, bs22, cp23, bs26, cp27, bs30, cp31, bs34, cp35⟩ S hF hS D hp K hK
          try dsimp only at hF ⊢
          obtain ⟨hf0, hf1, hf2, hf3, hf4, hf5, hf6, hf7, hf8, hf9, hf10, hf11⟩ := hF
          refine d_need (small := [(9, (.bool true))]) ⟨look_b rfl rfl, trivial⟩ ?_
          refine tp rfl (lv_move rfl) ?_
          exact d_closes ⟨look_b rfl rfl, trivial⟩ 0 rfl rfl rfl hS (AgreeR.refl _) (t_sat (fun _ h => h) (hK (bs14, cp15, bs18, cp19, bs22, cp23, bs26, cp27, bs30, cp31, bs34, cp35) ⟨hf0, hf1, hf2, hf3, hf4, hf5, hf6, hf7, hf8, hf9, hf10, hf11⟩))
         · -- 1
          rintro ⟨bs14, cp15, bs18, cp19, bs22, cp23, bs26, cp27, bs30, cp31, bs34, cp35⟩ S hF hS D hp K hK
          try dsimp only at hF ⊢
          obtain ⟨hf0, hf1, hf2, hf3, hf4, hf5, hf6, hf7, hf8, hf9, hf10, hf11⟩ := hF
          have s0 := hp 0 rfl
          refine d_need (small := [(82, (.bool true))]) ⟨look_row rfl 0 rfl s0, trivial⟩ ?_
          refine tp rfl (lv_move rfl) ?_
          exact d_closes ⟨look_row rfl 0 rfl s0, trivial⟩ 1 rfl rfl rfl hS (AgreeR.refl _) (t_sat (fun _ h => h) (hK (bs14, cp15, bs18, cp19, bs22, cp23, bs26, cp27, bs30, cp31, bs34, cp35) ⟨hf0, hf1, hf2, hf3, hf4, hf5, hf6, hf7, hf8, hf9, hf10, hf11⟩))
         · -- 2
          rintro ⟨bs14, cp15, bs18, cp19, bs22, cp23, bs26, cp27, bs30, cp31, bs34, cp35⟩ S hF hS D hp K hK
          try dsimp only at hF ⊢
          obtain ⟨hf0, hf1, hf2, hf3, hf4, hf5, hf6, hf7, hf8, hf9, hf10, hf11⟩ := hF
          have s1 := hp 1 rfl
          refine d_need (small := [(10, (.pointer (some ⟨p1, 0, none⟩))), (83, (.bool true))]) ⟨look_b rfl rfl, look_row rfl 1 rfl s1, trivial⟩ ?_
          refine t_guard rfl rfl ?_
          refine tp rfl (lv_move rfl) ?_
          exact d_closes ⟨look_b rfl rfl, look_row rfl 1 rfl s1, trivial⟩ 2 rfl rfl rfl hS (AgreeR.refl _) (t_sat (fun _ h => h) (hK (bs14, cp15, bs18, cp19, bs22, cp23, bs26, cp27, bs30, cp31, bs34, cp35) ⟨hf0, hf1, hf2, hf3, hf4, hf5, hf6, hf7, hf8, hf9, hf10, hf11⟩))
         · -- 3
          rintro ⟨bs14, cp15, bs18, cp19, bs22, cp23, bs26, cp27, bs30, cp31, bs34, cp35⟩ S hF hS D hp K hK
          try dsimp only at hF ⊢
          obtain ⟨hf0, hf1, hf2, hf3, hf4, hf5, hf6, hf7, hf8, hf9, hf10, hf11⟩ := hF
          have s1 := hp 1 rfl
          have s2 := hp 2 rfl
          refine d_need (small := [(83, (.bool true)), (84, (.pointer (some ⟨p1, 0, none⟩)))]) ⟨look_row rfl 1 rfl s1, look_row rfl 2 rfl s2, trivial⟩ ?_
          refine t_guard rfl rfl ?_
          refine t_f2 ?_
          refine tc rfl (en_fn Tryd.call18 rfl) (n_ok) ?_
          rintro _ _ ⟨rfl, rfl⟩
          refine t_f2 ?_
          refine t_f2 ?_
          exact d_closes ⟨look_row rfl 1 rfl s1, look_row rfl 2 rfl s2, trivial⟩ 3 rfl rfl rfl hS (AgreeR.refl _) (t_sat (fun _ h => h) (hK (bs14, cp15, bs18, cp19, bs22, cp23, bs26, cp27, bs30, cp31, bs34, cp35) ⟨hf0, hf1, hf2, hf3, hf4, hf5, hf6, hf7, hf8, hf9, hf10, hf11⟩))
         · -- 4
          rintro ⟨bs14, cp15, bs18, cp19, bs22, cp23, bs26, cp27, bs30, cp31, bs34, cp35⟩ S hF hS D hp K hK
          try dsimp only at hF ⊢
          obtain ⟨hf0, hf1, hf2, hf3, hf4, hf5, hf6, hf7, hf8, hf9, hf10, hf11⟩ := hF
          have s1 := hp 1 rfl
          refine d_need (small := [(11, (.pointer (some ⟨p2, 0, none⟩))), (83, (.bool true))]) ⟨look_b rfl rfl, look_row rfl 1 rfl s1, trivial⟩ ?_
          refine t_guard rfl rfl ?_
          refine tp rfl (lv_move rfl) ?_
          exact d_closes ⟨look_b rfl rfl, look_row rfl 1 rfl s1, trivial⟩ 4 rfl rfl rfl hS (AgreeR.refl _) (t_sat (fun _ h => h) (hK (bs14, cp15, bs18, cp19, bs22, cp23, bs26, cp27, bs30, cp31, bs34, cp35) ⟨hf0, hf1, hf2, hf3, hf4, hf5, hf6, hf7, hf8, hf9, hf10, hf11⟩))
         · -- 5
          rintro ⟨bs14, cp15, bs18, cp19, bs22, cp23, bs26, cp27, bs30, cp31, bs34, cp35⟩ S hF hS D hp K hK
          try dsimp only at hF ⊢
          obtain ⟨hf0, hf1, hf2, hf3, hf4, hf5, hf6, hf7, hf8, hf9, hf10, hf11⟩ := hF
          have s1 := hp 1 rfl
          have s4 := hp 4 rfl
          refine d_need (small := [(83, (.bool true)), (86, (.pointer (some ⟨p2, 0, none⟩)))]) ⟨look_row rfl 1 rfl s1, look_row rfl 4 rfl s4, trivial⟩ ?_
          refine t_guard rfl rfl ?_
          refine tp rfl (lv_nilCheck rfl) ?_
          exact d_closes ⟨look_row rfl 1 rfl s1, look_row rfl 4 rfl s4, trivial⟩ 5 rfl rfl rfl hS (AgreeR.refl _) (t_sat (fun _ h => h) (hK (bs14, cp15, bs18, cp19, bs22, cp23, bs26, cp27, bs30, cp31, bs34, cp35) ⟨hf0, hf1, hf2, hf3, hf4, hf5, hf6, hf7, hf8, hf9, hf10, hf11⟩))
         · -- 6
          rintro ⟨bs14, cp15, bs18, cp19, bs22, cp23, bs26, cp27, bs30, cp31, bs34, cp35⟩ S hF hS D hp K hK
          try dsimp only at hF ⊢
          obtain ⟨hf0, hf1, hf2, hf3, hf4, hf5, hf6, hf7, hf8, hf9, hf10, hf11⟩ := hF
          have s1 := hp 1 rfl
          have s5 := hp 5 rfl
          refine d_need (small := [(83, (.bool true)), (87, (.pointer (some ⟨p2, 0, none⟩)))]) ⟨look_row rfl 1 rfl s1, look_row rfl 5 rfl s5, trivial⟩ ?_
          refine t_guard rfl rfl ?_
          refine tp rfl (lv_fieldAddr (o' := 0) Tryd.underlying46 rfl Tryd.sizeOf3 rfl rfl) ?_
          exact d_closes ⟨look_row rfl 1 rfl s1, look_row rfl 5 rfl s5, trivial⟩ 6 rfl rfl rfl hS (AgreeR.refl _) (t_sat (fun _ h => h) (hK (bs14, cp15, bs18, cp19, bs22, cp23, bs26, cp27, bs30, cp31, bs34, cp35) ⟨hf0, hf1, hf2, hf3, hf4, hf5, hf6, hf7, hf8, hf9, hf10, hf11⟩))
         · -- 7
          rintro ⟨bs14, cp15, bs18, cp19, bs22, cp23, bs26, cp27, bs30, cp31, bs34, cp35⟩ S hF hS D hp K hK
          try dsimp only at hF ⊢
          obtain ⟨hf0, hf1, hf2, hf3, hf4, hf5, hf6, hf7, hf8, hf9, hf10, hf11⟩ := hF
          have s1 := hp 1 rfl
          have s6 := hp 6 rfl
          refine d_need (small := [(83, (.bool true)), (88, (.pointer (some ⟨p2, 0, none⟩)))]) ⟨look_row rfl 1 rfl s1, look_row rfl 6 rfl s6, trivial⟩ ?_
          refine t_guard rfl rfl ?_
          refine tp rfl (lv_load Tryd.isAgg3 rfl (gives_blk (.head _) rfl)) ?_
          exact d_closes ⟨look_row rfl 1 rfl s1, look_row rfl 6 rfl s6, trivial⟩ 7 rfl rfl rfl hS (AgreeR.refl _) (t_sat (fun _ h => h) (hK (bs14, cp15, bs18, cp19, bs22, cp23, bs26, cp27, bs30, cp31, bs34, cp35) ⟨hf0, hf1, hf2, hf3, hf4, hf5, hf6, hf7, hf8, hf9, hf10, hf11⟩))
         · -- 8
          rintro ⟨bs14, cp15, bs18, cp19, bs22, cp23, bs26, cp27, bs30, cp31, bs34, cp35⟩ S hF hS D hp K hK
          try dsimp only at hF ⊢
          obtain ⟨hf0, hf1, hf2, hf3, hf4, hf5, hf6, hf7, hf8, hf9, hf10, hf11⟩ := hF
          have s1 := hp 1 rfl
          have s3 := hp 3 rfl
          have s7 := hp 7 rfl
          refine d_need (small := [(83, (.bool true)), (85, (.int .i64 ((M : Nat) : Int))), (89, (.int .i64 ((M : Nat) : Int)))]) ⟨look_row rfl 1 rfl s1, look_row rfl 3 rfl s3, look_row rfl 7 rfl s7, trivial⟩ ?_
          refine t_guard rfl rfl ?_
          refine tp rfl (lv_eql rfl rfl (beq_iff_eq.2 rfl)) ?_
          exact d_closes ⟨look_row rfl 1 rfl s1, look_row rfl 3 rfl s3, look_row rfl 7 rfl s7, trivial⟩ 8 rfl rfl rfl hS (AgreeR.refl _) (t_sat (fun _ h => h) (hK (bs14, cp15, bs18, cp19, bs22, cp23, bs26, cp27, bs30, cp31, bs34, cp35) ⟨hf0, hf1, hf2, hf3, hf4, hf5, hf6, hf7, hf8, hf9, hf10, hf11⟩))
         · -- 9
          rintro ⟨bs14, cp15, bs18, cp19, bs22, cp23, bs26, cp27, bs30, cp31, bs34, cp35⟩ S hF hS D hp K hK
          try dsimp only at hF ⊢
          obtain ⟨hf0, hf1, hf2, hf3, hf4, hf5, hf6, hf7, hf8, hf9, hf10, hf11⟩ := hF
          have s1 := hp 1 rfl
          have s8 := hp 8 rfl
          refine d_need (small := [(83, (.bool true)), (90, (.bool true))]) ⟨look_row rfl 1 rfl s1, look_row rfl 8 rfl s8, trivial⟩ ?_
          refine tp rfl (lv_pick_t rfl rfl) ?_
          exact d_closes ⟨look_row rfl 1 rfl s1, look_row rfl 8 rfl s8, trivial⟩ 9 rfl rfl rfl hS (AgreeR.refl _) (t_sat (fun _ h => h) (hK (bs14, cp15, bs18, cp19, bs22, cp23, bs26, cp27, bs30, cp31, bs34, cp35) ⟨hf0, hf1, hf2, hf3, hf4, hf5, hf6, hf7, hf8, hf9, hf10, hf11⟩))
         · -- 10
          rintro ⟨bs14, cp15, bs18, cp19, bs22, cp23, bs26, cp27, bs30, cp31, bs34, cp35⟩ S hF hS D hp K hK
          try dsimp only at hF ⊢
          obtain ⟨hf0, hf1, hf2, hf3, hf4, hf5, hf6, hf7, hf8, hf9, hf10, hf11⟩ := hF
          have s9 := hp 9 rfl
          refine d_need (small := [(91, (.bool true))]) ⟨look_row rfl 9 rfl s9, trivial⟩ ?_
          refine tp rfl (lv_move rfl) ?_
          exact d_closes ⟨look_row rfl 9 rfl s9, trivial⟩ 10 rfl rfl rfl hS (AgreeR.refl _) (t_sat (fun _ h => h) (hK (bs14, cp15, bs18, cp19, bs22, cp23, bs26, cp27, bs30, cp31, bs34, cp35) ⟨hf0, hf1, hf2, hf3, hf4, hf5, hf6, hf7, hf8, hf9, hf10, hf11⟩))
         · -- 11
          rintro ⟨bs14, cp15, bs18, cp19, bs22, cp23, bs26, cp27, bs30, cp31, bs34, cp35⟩ S hF hS D hp K hK
          try dsimp only at hF ⊢
          obtain ⟨hf0, hf1, hf2, hf3, hf4, hf5, hf6, hf7, hf8, hf9, hf10, hf11⟩ := hF
          have s10 := hp 10 rfl
          refine d_need (small := [(10, (.pointer (some ⟨p1, 0, none⟩))), (92, (.bool true))]) ⟨look_b rfl rfl, look_row rfl 10 rfl s10, trivial⟩ ?_
          refine t_guard rfl rfl ?_
          refine tp rfl (lv_move rfl) ?_
          exact d_closes ⟨look_b rfl rfl, look_row rfl 10 rfl s10, trivial⟩ 11 rfl rfl rfl hS (AgreeR.refl _) (t_sat (fun _ h => h) (hK (bs14, cp15, bs18, cp19, bs22, cp23, bs26, cp27, bs30, cp31, bs34, cp35) ⟨hf0, hf1, hf2, hf3, hf4, hf5, hf6, hf7, hf8, hf9, hf10, hf11⟩))
         · -- 12
          rintro ⟨bs14, cp15, bs18, cp19, bs22, cp23, bs26, cp27, bs30, cp31, bs34, cp35⟩ S hF hS D hp K hK
          try dsimp only at hF ⊢
          obtain ⟨hf0, hf1, hf2, hf3, hf4, hf5, hf6, hf7, hf8, hf9, hf10, hf11⟩ := hF
          have s10 := hp 10 rfl
          refine d_need (small := [(2, (.int .i64 a)), (92, (.bool true))]) ⟨look_b rfl rfl, look_row rfl 10 rfl s10, trivial⟩ ?_
          refine t_guard rfl rfl ?_
          refine tp rfl (lv_move rfl) ?_
          exact d_closes ⟨look_b rfl rfl, look_row rfl 10 rfl s10, trivial⟩ 12 rfl rfl rfl hS (AgreeR.refl _) (t_sat (fun _ h => h) (hK (bs14, cp15, bs18, cp19, bs22, cp23, bs26, cp27, bs30, cp31, bs34, cp35) ⟨hf0, hf1, hf2, hf3, hf4, hf5, hf6, hf7, hf8, hf9, hf10, hf11⟩))
         · -- 13
          rintro ⟨bs14, cp15, bs18, cp19, bs22, cp23, bs26, cp27, bs30, cp31, bs34, cp35⟩ S hF hS D hp K hK
          try dsimp only at hF ⊢
          obtain ⟨hf0, hf1, hf2, hf3, hf4, hf5, hf6, hf7, hf8, hf9, hf10, hf11⟩ := hF
          have s10 := hp 10 rfl
          refine d_need (small := [(3, (.int .i64 b)), (92, (.bool true))]) ⟨look_b rfl rfl, look_row rfl 10 rfl s10, trivial⟩ ?_
          refine t_guard rfl rfl ?_
          refine tp rfl (lv_move rfl) ?_
          exact d_closes ⟨look_b rfl rfl, look_row rfl 10 rfl s10, trivial⟩ 13 rfl rfl rfl hS (AgreeR.refl _) (t_sat (fun _ h => h) (hK (bs14, cp15, bs18, cp19, bs22, cp23, bs26, cp27, bs30, cp31, bs34, cp35) ⟨hf0, hf1, hf2, hf3, hf4, hf5, hf6, hf7, hf8, hf9, hf10, hf11⟩))
         · -- 14
          rintro ⟨bs14, cp15, bs18, cp19, bs22, cp23, bs26, cp27, bs30, cp31, bs34, cp35⟩ S hF hS D hp K hK
          try dsimp only at hF ⊢
          obtain ⟨hf0, hf1, hf2, hf3, hf4, hf5, hf6, hf7, hf8, hf9, hf10, hf11⟩ := hF
          have s10 := hp 10 rfl
          have s11 := hp 11 rfl
          have s12 := hp 12 rfl
          have s13 := hp 13 rfl
          refine d_need (small := [(92, (.bool true)), (93, (.pointer (some ⟨p1, 0, none⟩))), (94, (.int .i64 a)), (95, (.int .i64 b))]) ⟨look_row rfl 10 rfl s10, look_row rfl 11 rfl s11, look_row rfl 12 rfl s12, look_row rfl 13 rfl s13, trivial⟩ ?_
          refine t_guard rfl rfl ?_
          refine t_f2 ?_
          refine tc rfl (en_fn Tryd.call17 rfl) (hasE_ok (N := M) (es := F) a b) ?_
          rintro _ _ ⟨rfl, rfl⟩
          refine t_f2 ?_
          refine t_f2 ?_
          exact d_closes ⟨look_row rfl 10 rfl s10, look_row rfl 11 rfl s11, look_row rfl 12 rfl s12, look_row rfl 13 rfl s13, trivial⟩ 14 rfl rfl rfl hS (AgreeR.refl _) (t_sat (fun _ h => h) (hK (bs14, cp15, bs18, cp19, bs22, cp23, bs26, cp27, bs30, cp31, bs34, cp35) ⟨hf0, hf1, hf2, hf3, hf4, hf5, hf6, hf7, hf8, hf9, hf10, hf11⟩))
         · -- 15
          rintro ⟨bs14, cp15, bs18, cp19, bs22, cp23, bs26, cp27, bs30, cp31, bs34, cp35⟩ S hF hS D hp K hK
          try dsimp only at hF ⊢
          obtain ⟨hf0, hf1, hf2, hf3, hf4, hf5, hf6, hf7, hf8, hf9, hf10, hf11⟩ := hF
          have s10 := hp 10 rfl
          refine d_need (small := [(11, (.pointer (some ⟨p2, 0, none⟩))), (92, (.bool true))]) ⟨look_b rfl rfl, look_row rfl 10 rfl s10, trivial⟩ ?_
          refine t_guard rfl rfl ?_
          refine tp rfl (lv_move rfl) ?_
          exact d_closes ⟨look_b rfl rfl, look_row rfl 10 rfl s10, trivial⟩ 15 rfl rfl rfl hS (AgreeR.refl _) (t_sat (fun _ h => h) (hK (bs14, cp15, bs18, cp19, bs22, cp23, bs26, cp27, bs30, cp31, bs34, cp35) ⟨hf0, hf1, hf2, hf3, hf4, hf5, hf6, hf7, hf8, hf9, hf10, hf11⟩))
         · -- 16
          rintro ⟨bs14, cp15, bs18, cp19, bs22, cp23, bs26, cp27, bs30, cp31, bs34, cp35⟩ S hF hS D hp K hK
          try dsimp only at hF ⊢
          obtain ⟨hf0, hf1, hf2, hf3, hf4, hf5, hf6, hf7, hf8, hf9, hf10, hf11⟩ := hF
          have s10 := hp 10 rfl
          refine d_need (small := [(2, (.int .i64 a)), (92, (.bool true))]) ⟨look_b rfl rfl, look_row rfl 10 rfl s10, trivial⟩ ?_
          refine t_guard rfl rfl ?_
          refine tp rfl (lv_move rfl) ?_
          exact d_closes ⟨look_b rfl rfl, look_row rfl 10 rfl s10, trivial⟩ 16 rfl rfl rfl hS (AgreeR.refl _) (t_sat (fun _ h => h) (hK (bs14, cp15, bs18, cp19, bs22, cp23, bs26, cp27, bs30, cp31, bs34, cp35) ⟨hf0, hf1, hf2, hf3, hf4, hf5, hf6, hf7, hf8, hf9, hf10, hf11⟩))
         · -- 17
          rintro ⟨bs14, cp15, bs18, cp19, bs22, cp23, bs26, cp27, bs30, cp31, bs34, cp35⟩ S hF hS D hp K hK
          try dsimp only at hF ⊢
          obtain ⟨hf0, hf1, hf2, hf3, hf4, hf5, hf6, hf7, hf8, hf9, hf10, hf11⟩ := hF
          have s10 := hp 10 rfl
          refine d_need (small := [(3, (.int .i64 b)), (92, (.bool true))]) ⟨look_b rfl rfl, look_row rfl 10 rfl s10, trivial⟩ ?_
          refine t_guard rfl rfl ?_
          refine tp rfl (lv_move rfl) ?_
          exact d_closes ⟨look_b rfl rfl, look_row rfl 10 rfl s10, trivial⟩ 17 rfl rfl rfl hS (AgreeR.refl _) (t_sat (fun _ h => h) (hK (bs14, cp15, bs18, cp19, bs22, cp23, bs26, cp27, bs30, cp31, bs34, cp35) ⟨hf0, hf1, hf2, hf3, hf4, hf5, hf6, hf7, hf8, hf9, hf10, hf11⟩))
         · -- 18
          rintro ⟨bs14, cp15, bs18, cp19, bs22, cp23, bs26, cp27, bs30, cp31, bs34, cp35⟩ S hF hS D hp K hK
          try dsimp only at hF ⊢
          obtain ⟨hf0, hf1, hf2, hf3, hf4, hf5, hf6, hf7, hf8, hf9, hf10, hf11⟩ := hF
          have s10 := hp 10 rfl
          have s15 := hp 15 rfl
          have s16 := hp 16 rfl
          have s17 := hp 17 rfl
          refine d_need (small := [(92, (.bool true)), (97, (.pointer (some ⟨p2, 0, none⟩))), (98, (.int .i64 a)), (99, (.int .i64 b))]) ⟨look_row rfl 10 rfl s10, look_row rfl 15 rfl s15, look_row rfl 16 rfl s16, look_row rfl 17 rfl s17, trivial⟩ ?_
          refine t_guard rfl rfl ?_
          refine t_f1 ?_
          refine t_f1 ?_
          refine tc rfl (en_fn Tryd.call24 rfl) (rhas_ok (N := M) (es := F) a b hok10 hE) ?_
          rintro _ _ ⟨rfl, rfl⟩
          exact d_closes ⟨look_row rfl 10 rfl s10, look_row rfl 15 rfl s15, look_row rfl 16 rfl s16, look_row rfl 17 rfl s17, trivial⟩ 18 rfl rfl rfl hS (AgreeR.refl _) (t_sat (fun _ h => h) (hK (bs14, cp15, bs18, cp19, bs22, cp23, bs26, cp27, bs30, cp31, bs34, cp35) ⟨hf0, hf1, hf2, hf3, hf4, hf5, hf6, hf7, hf8, hf9, hf10, hf11⟩))
         · -- 19
          rintro ⟨bs14, cp15, bs18, cp19, bs22, cp23, bs26, cp27, bs30, cp31, bs34, cp35⟩ S hF hS D hp K hK
          try dsimp only at hF ⊢
          obtain ⟨hf0, hf1, hf2, hf3, hf4, hf5, hf6, hf7, hf8, hf9, hf10, hf11⟩ := hF
          have s10 := hp 10 rfl
          have s14 := hp 14 rfl
          have s18 := hp 18 rfl
          refine d_need (small := [(92, (.bool true)), (96, (.bool (hasE F (a, b)))), (100, (.bool (hasE F (a, b))))]) ⟨look_row rfl 10 rfl s10, look_row rfl 14 rfl s14, look_row rfl 18 rfl s18, trivial⟩ ?_
          refine t_guard rfl rfl ?_
          refine tp rfl (lv_eqb Tryd.underlying4 rfl rfl (beq_self_eq_true _)) ?_
          exact d_closes ⟨look_row rfl 10 rfl s10, look_row rfl 14 rfl s14, look_row rfl 18 rfl s18, trivial⟩ 19 rfl rfl rfl hS (AgreeR.refl _) (t_sat (fun _ h => h) (hK (bs14, cp15, bs18, cp19, bs22, cp23, bs26, cp27, bs30, cp31, bs34, cp35) ⟨hf0, hf1, hf2, hf3, hf4, hf5, hf6, hf7, hf8, hf9, hf10, hf11⟩))
         · -- 20
          rintro ⟨bs14, cp15, bs18, cp19, bs22, cp23, bs26, cp27, bs30, cp31, bs34, cp35⟩ S hF hS D hp K hK
          try dsimp only at hF ⊢
          obtain ⟨hf0, hf1, hf2, hf3, hf4, hf5, hf6, hf7, hf8, hf9, hf10, hf11⟩ := hF
          have s10 := hp 10 rfl
          have s19 := hp 19 rfl
          refine d_need (small := [(92, (.bool true)), (101, (.bool true))]) ⟨look_row rfl 10 rfl s10, look_row rfl 19 rfl s19, trivial⟩ ?_
          refine tp rfl (lv_pick_t rfl rfl) ?_
          exact d_closes ⟨look_row rfl 10 rfl s10, look_row rfl 19 rfl s19, trivial⟩ 20 rfl rfl rfl hS (AgreeR.refl _) (t_sat (fun _ h => h) (hK (bs14, cp15, bs18, cp19, bs22, cp23, bs26, cp27, bs30, cp31, bs34, cp35) ⟨hf0, hf1, hf2, hf3, hf4, hf5, hf6, hf7, hf8, hf9, hf10, hf11⟩))
         · -- 21
          rintro ⟨bs14, cp15, bs18, cp19, bs22, cp23, bs26, cp27, bs30, cp31, bs34, cp35⟩ S hF hS D hp K hK
          try dsimp only at hF ⊢
          obtain ⟨hf0, hf1, hf2, hf3, hf4, hf5, hf6, hf7, hf8, hf9, hf10, hf11⟩ := hF
          have s20 := hp 20 rfl
          refine d_need (small := [(102, (.bool true))]) ⟨look_row rfl 20 rfl s20, trivial⟩ ?_
          refine tp rfl (lv_move rfl) ?_
          exact d_closes ⟨look_row rfl 20 rfl s20, trivial⟩ 21 rfl rfl rfl hS (AgreeR.refl _) (t_sat (fun _ h => h) (hK (bs14, cp15, bs18, cp19, bs22, cp23, bs26, cp27, bs30, cp31, bs34, cp35) ⟨hf0, hf1, hf2, hf3, hf4, hf5, hf6, hf7, hf8, hf9, hf10, hf11⟩))
         · -- 22
          rintro ⟨bs14, cp15, bs18, cp19, bs22, cp23, bs26, cp27, bs30, cp31, bs34, cp35⟩ S hF hS D hp K hK
          try dsimp only at hF ⊢
          obtain ⟨hf0, hf1, hf2, hf3, hf4, hf5, hf6, hf7, hf8, hf9, hf10, hf11⟩ := hF
          have s21 := hp 21 rfl
          refine d_need (small := [(10, (.pointer (some ⟨p1, 0, none⟩))), (103, (.bool true))]) ⟨look_b rfl rfl, look_row rfl 21 rfl s21, trivial⟩ ?_
          refine t_guard rfl rfl ?_
          refine tp rfl (lv_move rfl) ?_
          exact d_closes ⟨look_b rfl rfl, look_row rfl 21 rfl s21, trivial⟩ 22 rfl rfl rfl hS (AgreeR.refl _) (t_sat (fun _ h => h) (hK (bs14, cp15, bs18, cp19, bs22, cp23, bs26, cp27, bs30, cp31, bs34, cp35) ⟨hf0, hf1, hf2, hf3, hf4, hf5, hf6, hf7, hf8, hf9, hf10, hf11⟩))
         · -- 23
          rintro ⟨bs14, cp15, bs18, cp19, bs22, cp23, bs26, cp27, bs30, cp31, bs34, cp35⟩ S hF hS D hp K hK
          try dsimp only at hF ⊢
          obtain ⟨hf0, hf1, hf2, hf3, hf4, hf5, hf6, hf7, hf8, hf9, hf10, hf11⟩ := hF
          have s21 := hp 21 rfl
          refine d_need (small := [(2, (.int .i64 a)), (103, (.bool true))]) ⟨look_b rfl rfl, look_row rfl 21 rfl s21, trivial⟩ ?_
          refine t_guard rfl rfl ?_
          refine tp rfl (lv_move rfl) ?_
          exact d_closes ⟨look_b rfl rfl, look_row rfl 21 rfl s21, trivial⟩ 23 rfl rfl rfl hS (AgreeR.refl _) (t_sat (fun _ h => h) (hK (bs14, cp15, bs18, cp19, bs22, cp23, bs26, cp27, bs30, cp31, bs34, cp35) ⟨hf0, hf1, hf2, hf3, hf4, hf5, hf6, hf7, hf8, hf9, hf10, hf11⟩))
         · -- 24
          rintro ⟨bs14, cp15, bs18, cp19, bs22, cp23, bs26, cp27, bs30, cp31, bs34, cp35⟩ S hF hS D hp K hK
          try dsimp only at hF ⊢
          obtain ⟨hf0, hf1, hf2, hf3, hf4, hf5, hf6, hf7, hf8, hf9, hf10, hf11⟩ := hF
          have s21 := hp 21 rfl
          have s22 := hp 22 rfl
          have s23 := hp 23 rfl
          refine d_need (small := [(103, (.bool true)), (104, (.pointer (some ⟨p1, 0, none⟩))), (105, (.int .i64 a))]) ⟨look_row rfl 21 rfl s21, look_row rfl 22 rfl s22, look_row rfl 23 rfl s23, trivial⟩ ?_
          refine t_guard rfl rfl ?_
          refine t_f2 ?_
          refine tc rfl (en_fn Tryd.call19 rfl) (out_ok (N := M) (es := F) a) ?_
          rintro _ _ ⟨bs14, cp15, hok16, hle17, rfl, rfl⟩
          refine t_f1 ?_
          refine t_f3 ?_
          refine t_f3 ?_
          refine t_f3 ?_
          refine t_sat (fun _ h => sat_put [_, _, _] h) ?_
          exact d_closes ⟨look_row rfl 21 rfl s21, look_row rfl 22 rfl s22, look_row rfl 23 rfl s23, trivial⟩ 24 rfl rfl rfl hS (by exact ⟨.inl rfl, .inl rfl, .inl rfl, .inl rfl, .inl rfl, .inl rfl, .inl rfl, .inl rfl, .inl rfl, .inl rfl, .inl rfl, .inl rfl, .inl rfl, .inl rfl, .inl rfl, .inl rfl, .inl rfl, .inl rfl, .inl rfl, .inl rfl, .inl rfl, .inl rfl, .inl rfl, .inl rfl, .inr ⟨rfl, rfl, hS⟩, .inl rfl, .inl rfl, .inl rfl, .inl rfl, .inl rfl, .inl rfl, .inl rfl, .inl rfl, .inl rfl, .inl rfl, .inl rfl, .inl rfl, .inl rfl, .inl rfl, .inl rfl, .inl rfl, .inl rfl, .inl rfl, .inl rfl, .inl rfl, .inl rfl, .inl rfl, .inl rfl, .inl rfl, .inl rfl, .inl rfl, .inl rfl, .inl rfl, .inl rfl, .inl rfl, .inl rfl, .inl rfl, .inl rfl, .inl rfl, .inl rfl, .inl rfl, .inl rfl, .inl rfl, .inl rfl, .inl rfl, .inl rfl, .inl rfl, .inl rfl, .inl rfl, .inl rfl, .inl rfl, .inl rfl, trivial⟩) (t_sat (fun _ h => h) (hK (bs14, cp15, bs18, cp19, bs22, cp23, bs26, cp27, bs30, cp31, bs34, cp35) ⟨(fun _ => hok16), (fun _ => hle17), hf2, hf3, hf4, hf5, hf6, hf7, hf8, hf9, hf10, hf11⟩))
         · -- 25
          rintro ⟨bs14, cp15, bs18, cp19, bs22, cp23, bs26, cp27, bs30, cp31, bs34, cp35⟩ S hF hS D hp K hK
          try dsimp only at hF ⊢
          obtain ⟨hf0, hf1, hf2, hf3, hf4, hf5, hf6, hf7, hf8, hf9, hf10, hf11⟩ := hF
          have s21 := hp 21 rfl
          refine d_need (small := [(11, (.pointer (some ⟨p2, 0, none⟩))), (103, (.bool true))]) ⟨look_b rfl rfl, look_row rfl 21 rfl s21, trivial⟩ ?_
          refine t_guard rfl rfl ?_
          refine tp rfl (lv_move rfl) ?_
          exact d_closes ⟨look_b rfl rfl, look_row rfl 21 rfl s21, trivial⟩ 25 rfl rfl rfl hS (AgreeR.refl _) (t_sat (fun _ h => h) (hK (bs14, cp15, bs18, cp19, bs22, cp23, bs26, cp27, bs30, cp31, bs34, cp35) ⟨hf0, hf1, hf2, hf3, hf4, hf5, hf6, hf7, hf8, hf9, hf10, hf11⟩))
         · -- 26
          rintro ⟨bs14, cp15, bs18, cp19, bs22, cp23, bs26, cp27, bs30, cp31, bs34, cp35⟩ S hF hS D hp K hK
          try dsimp only at hF ⊢
          obtain ⟨hf0, hf1, hf2, hf3, hf4, hf5, hf6, hf7, hf8, hf9, hf10, hf11⟩ := hF
          have s21 := hp 21 rfl
          refine d_need (small := [(2, (.int .i64 a)), (103, (.bool true))]) ⟨look_b rfl rfl, look_row rfl 21 rfl s21, trivial⟩ ?_
          refine t_guard rfl rfl ?_
          refine tp rfl (lv_move rfl) ?_
          exact d_closes ⟨look_b rfl rfl, look_row rfl 21 rfl s21, trivial⟩ 26 rfl rfl rfl hS (AgreeR.refl _) (t_sat (fun _ h => h) (hK (bs14, cp15, bs18, cp19, bs22, cp23, bs26, cp27, bs30, cp31, bs34, cp35) ⟨hf0, hf1, hf2, hf3, hf4, hf5, hf6, hf7, hf8, hf9, hf10, hf11⟩))
         · -- 27
          rintro ⟨bs14, cp15, bs18, cp19, bs22, cp23, bs26, cp27, bs30, cp31, bs34, cp35⟩ S hF hS D hp K hK
          try dsimp only at hF ⊢
          obtain ⟨hf0, hf1, hf2, hf3, hf4, hf5, hf6, hf7, hf8, hf9, hf10, hf11⟩ := hF
          have s24 := hp 24 rfl
          have hok16 := hf0 s24
          have hle17 := hf1 s24
          have s21 := hp 21 rfl
          have s25 := hp 25 rfl
          have s26 := hp 26 rfl
          refine d_need (small := [(103, (.bool true)), (107, (.pointer (some ⟨p2, 0, none⟩))), (108, (.int .i64 a))]) ⟨look_row rfl 21 rfl s21, look_row rfl 25 rfl s25, look_row rfl 26 rfl s26, trivial⟩ ?_
          refine t_guard rfl rfl ?_
          refine t_f1 ?_
          refine t_f1 ?_
          refine tc rfl (en_fn Tryd.call25 rfl) (rout_ok (N := M) (es := F) a hok10 hE) ?_
          rintro _ _ ⟨bs18, cp19, hok20, hle21, rfl, rfl⟩
          refine t_sat (fun _ h => sat_put [_, _, _, _] h) ?_
          exact d_closes ⟨look_row rfl 21 rfl s21, look_row rfl 25 rfl s25, look_row rfl 26 rfl s26, trivial⟩ 27 rfl rfl rfl hS (by exact ⟨.inl rfl, .inl rfl, .inl rfl, .inl rfl, .inl rfl, .inl rfl, .inl rfl, .inl rfl, .inl rfl, .inl rfl, .inl rfl, .inl rfl, .inl rfl, .inl rfl, .inl rfl, .inl rfl, .inl rfl, .inl rfl, .inl rfl, .inl rfl, .inl rfl, .inl rfl, .inl rfl, .inl rfl, .inl rfl, .inl rfl, .inl rfl, .inr ⟨rfl, rfl, hS⟩, .inl rfl, .inl rfl, .inl rfl, .inl rfl, .inl rfl, .inl rfl, .inl rfl, .inl rfl, .inl rfl, .inl rfl, .inl rfl, .inl rfl, .inl rfl, .inl rfl, .inl rfl, .inl rfl, .inl rfl, .inl rfl, .inl rfl, .inl rfl, .inl rfl, .inl rfl, .inl rfl, .inl rfl, .inl rfl, .inl rfl, .inl rfl, .inl rfl, .inl rfl, .inl rfl, .inl rfl, .inl rfl, .inl rfl, .inl rfl, .inl rfl, .inl rfl, .inl rfl, .inl rfl, .inl rfl, .inl rfl, .inl rfl, .inl rfl, .inl rfl, .inl rfl, trivial⟩) (t_sat (fun _ h => h) (hK (bs14, cp15, bs18, cp19, bs22, cp23, bs26, cp27, bs30, cp31, bs34, cp35) ⟨hf0, hf1, (fun _ => hok20), (fun _ => hle21), hf4, hf5, hf6, hf7, hf8, hf9, hf10, hf11⟩))
         · -- 28
          rintro ⟨bs14, cp15, bs18, cp19, bs22, cp23, bs26, cp27, bs30, cp31, bs34, cp35⟩ S hF hS D hp K hK
          try dsimp only at hF ⊢
          obtain ⟨hf0, hf1, hf2, hf3, hf4, hf5, hf6, hf7, hf8, hf9, hf10, hf11⟩ := hF
          have s24 := hp 24 rfl
          have hok16 := hf0 s24
          have hle17 := hf1 s24
          have s27 := hp 27 rfl
          have hok20 := hf2 s27
          have hle21 := hf3 s27
          have s21 := hp 21 rfl
          refine d_need (small := [(103, (.bool true)), (106, (.slice bs14 ((outs F a).length) cp15)), (109, (.slice bs18 ((outs F a).length) cp19))]) ⟨look_row rfl 21 rfl s21, look_row rfl 24 rfl s24, look_row rfl 27 rfl s27, trivial⟩ ?_
          refine t_f3 ?_
          refine t_cT s24 ?_
          refine t_f4 ?_
          refine t_cT s27 ?_
          refine t_guard rfl rfl ?_
          refine tc rfl (en_fn Tryd.call21 rfl) (ints_ok (outs F a) (outs F a) (rd_sl (.tail _ (.head _))) (rd_sl (.head _)) hok16 hok20 (by first | omega | (simp; done) | (simp; omega)) (by first | omega | (simp; done) | (simp; omega))) ?_
          rintro _ _ ⟨rfl, rfl⟩
          rw [show eqI (outs F a) (outs F a) = true from (eqI_refl _)]
          refine t_f1 ?_
          refine t_wT (B := Emp) s24 ?_
          refine t_f1 ?_
          refine t_wT (B := Emp) s27 ?_
          refine t_f1 ?_
          refine t_f4 ?_
          refine t_f4 ?_
          refine t_f4 ?_
          exact d_closes ⟨look_row rfl 21 rfl s21, look_row rfl 24 rfl s24, look_row rfl 27 rfl s27, trivial⟩ 28 rfl rfl rfl hS (AgreeR.refl _) (t_sat (fun _ h => h) (hK (bs14, cp15, bs18, cp19, bs22, cp23, bs26, cp27, bs30, cp31, bs34, cp35) ⟨hf0, hf1, hf2, hf3, hf4, hf5, hf6, hf7, hf8, hf9, hf10, hf11⟩))
         · -- 29
          rintro ⟨bs14, cp15, bs18, cp19, bs22, cp23, bs26, cp27, bs30, cp31, bs34, cp35⟩ S hF hS D hp K hK
          try dsimp only at hF ⊢
          obtain ⟨hf0, hf1, hf2, hf3, hf4, hf5, hf6, hf7, hf8, hf9, hf10, hf11⟩ := hF
          have s21 := hp 21 rfl
          have s28 := hp 28 rfl
          refine d_need (small := [(103, (.bool true)), (110, (.bool true))]) ⟨look_row rfl 21 rfl s21, look_row rfl 28 rfl s28, trivial⟩ ?_
          refine tp rfl (lv_pick_t rfl rfl) ?_
          exact d_closes ⟨look_row rfl 21 rfl s21, look_row rfl 28 rfl s28, trivial⟩ 29 rfl rfl rfl hS (AgreeR.refl _) (t_sat (fun _ h => h) (hK (bs14, cp15, bs18, cp19, bs22, cp23, bs26, cp27, bs30, cp31, bs34, cp35) ⟨hf0, hf1, hf2, hf3, hf4, hf5, hf6, hf7, hf8, hf9, hf10, hf11⟩))
         · -- 30
          rintro ⟨bs14, cp15, bs18, cp19, bs22, cp23, bs26, cp27, bs30, cp31, bs34, cp35⟩ S hF hS D hp K hK
          try dsimp only at hF ⊢
          obtain ⟨hf0, hf1, hf2, hf3, hf4, hf5, hf6, hf7, hf8, hf9, hf10, hf11⟩ := hF
          have s29 := hp 29 rfl
          refine d_need (small := [(111, (.bool true))]) ⟨look_row rfl 29 rfl s29, trivial⟩ ?_
          refine tp rfl (lv_move rfl) ?_
          exact d_closes ⟨look_row rfl 29 rfl s29, trivial⟩ 30 rfl rfl rfl hS (AgreeR.refl _) (t_sat (fun _ h => h) (hK (bs14, cp15, bs18, cp19, bs22, cp23, bs26, cp27, bs30, cp31, bs34, cp35) ⟨hf0, hf1, hf2, hf3, hf4, hf5, hf6, hf7, hf8, hf9, hf10, hf11⟩))
         · -- 31
          rintro ⟨bs14, cp15, bs18, cp19, bs22, cp23, bs26, cp27, bs30, cp31, bs34, cp35⟩ S hF hS D hp K hK
          try dsimp only at hF ⊢
          obtain ⟨hf0, hf1, hf2, hf3, hf4, hf5, hf6, hf7, hf8, hf9, hf10, hf11⟩ := hF
          have s30 := hp 30 rfl
          refine d_need (small := [(10, (.pointer (some ⟨p1, 0, none⟩))), (112, (.bool true))]) ⟨look_b rfl rfl, look_row rfl 30 rfl s30, trivial⟩ ?_
          refine t_guard rfl rfl ?_
          refine tp rfl (lv_move rfl) ?_
          exact d_closes ⟨look_b rfl rfl, look_row rfl 30 rfl s30, trivial⟩ 31 rfl rfl rfl hS (AgreeR.refl _) (t_sat (fun _ h => h) (hK (bs14, cp15, bs18, cp19, bs22, cp23, bs26, cp27, bs30, cp31, bs34, cp35) ⟨hf0, hf1, hf2, hf3, hf4, hf5, hf6, hf7, hf8, hf9, hf10, hf11⟩))
         · -- 32
          rintro ⟨bs14, cp15, bs18, cp19, bs22, cp23, bs26, cp27, bs30, cp31, bs34, cp35⟩ S hF hS D hp K hK
          try dsimp only at hF ⊢
          obtain ⟨hf0, hf1, hf2, hf3, hf4, hf5, hf6, hf7, hf8, hf9, hf10, hf11⟩ := hF
          have s30 := hp 30 rfl
          refine d_need (small := [(2, (.int .i64 a)), (112, (.bool true))]) ⟨look_b rfl rfl, look_row rfl 30 rfl s30, trivial⟩ ?_
          refine t_guard rfl rfl ?_
          refine tp rfl (lv_move rfl) ?_
          exact d_closes ⟨look_b rfl rfl, look_row rfl 30 rfl s30, trivial⟩ 32 rfl rfl rfl hS (AgreeR.refl _) (t_sat (fun _ h => h) (hK (bs14, cp15, bs18, cp19, bs22, cp23, bs26, cp27, bs30, cp31, bs34, cp35) ⟨hf0, hf1, hf2, hf3, hf4, hf5, hf6, hf7, hf8, hf9, hf10, hf11⟩))
         · -- 33
          rintro ⟨bs14, cp15, bs18, cp19, bs22, cp23, bs26, cp27, bs30, cp31, bs34, cp35⟩ S hF hS D hp K hK
          try dsimp only at hF ⊢
          obtain ⟨hf0, hf1, hf2, hf3, hf4, hf5, hf6, hf7, hf8, hf9, hf10, hf11⟩ := hF
          have s32 := hp 32 rfl
          have s30 := D 32 30 rfl s32
          have s29 := D 30 29 rfl s30
          have s28 := D 29 28 rfl s29
          have s24 := D 28 24 rfl s28
          have hok16 := hf0 s24
          have hle17 := hf1 s24
          have s27 := D 28 27 rfl s28
          have hok20 := hf2 s27
          have hle21 := hf3 s27
          have s31 := hp 31 rfl
          refine d_need (small := [(112, (.bool true)), (113, (.pointer (some ⟨p1, 0, none⟩))), (114, (.int .i64 a))]) ⟨look_row rfl 30 rfl s30, look_row rfl 31 rfl s31, look_row rfl 32 rfl s32, trivial⟩ ?_
          refine t_guard rfl rfl ?_
          refine t_f2 ?_
          refine tc rfl (en_fn Tryd.call20 rfl) (in_ok (N := M) (es := F) a) ?_
          rintro _ _ ⟨bs22, cp23, hok24, hle25, rfl, rfl⟩
          refine t_f1 ?_
          refine t_f3 ?_
          refine t_f3 ?_
          refine t_f3 ?_
          refine t_sat (fun _ h => sat_put [_, _, _, _, _] h) ?_
          exact d_closes ⟨look_row rfl 30 rfl s30, look_row rfl 31 rfl s31, look_row rfl 32 rfl s32, trivial⟩ 33 rfl rfl rfl hS (by exact ⟨.inl rfl, .inl rfl, .inl rfl, .inl rfl, .inl rfl, .inl rfl, .inl rfl, .inl rfl, .inl rfl, .inl rfl, .inl rfl, .inl rfl, .inl rfl, .inl rfl, .inl rfl, .inl rfl, .inl rfl, .inl rfl, .inl rfl, .inl rfl, .inl rfl, .inl rfl, .inl rfl, .inl rfl, .inl rfl, .inl rfl, .inl rfl, .inl rfl, .inl rfl, .inl rfl, .inl rfl, .inl rfl, .inl rfl, .inr ⟨rfl, rfl, hS⟩, .inl rfl, .inl rfl, .inl rfl, .inl rfl, .inl rfl, .inl rfl, .inl rfl, .inl rfl, .inl rfl, .inl rfl, .inl rfl, .inl rfl, .inl rfl, .inl rfl, .inl rfl, .inl rfl, .inl rfl, .inl rfl, .inl rfl, .inl rfl, .inl rfl, .inl rfl, .inl rfl, .inl rfl, .inl rfl, .inl rfl, .inl rfl, .inl rfl, .inl rfl, .inl rfl, .inl rfl, .inl rfl, .inl rfl, .inl rfl, .inl rfl, .inl rfl, .inl rfl, .inl rfl, trivial⟩) (t_sat (fun _ h => h) (hK (bs14, cp15, bs18, cp19, bs22, cp23, bs26, cp27, bs30, cp31, bs34, cp35) ⟨hf0, hf1, hf2, hf3, (fun _ => hok24), (fun _ => hle25), hf6, hf7, hf8, hf9, hf10, hf11⟩))
         · -- 34
          rintro ⟨bs14, cp15, bs18, cp19, bs22, cp23, bs26, cp27, bs30, cp31, bs34, cp35⟩ S hF hS D hp K hK
          try dsimp only at hF ⊢
          obtain ⟨hf0, hf1, hf2, hf3, hf4, hf5, hf6, hf7, hf8, hf9, hf10, hf11⟩ := hF
          have s30 := hp 30 rfl
          refine d_need (small := [(11, (.pointer (some ⟨p2, 0, none⟩))), (112, (.bool true))]) ⟨look_b rfl rfl, look_row rfl 30 rfl s30, trivial⟩ ?_
          refine t_guard rfl rfl ?_
          refine tp rfl (lv_move rfl) ?_
          exact d_closes ⟨look_b rfl rfl, look_row rfl 30 rfl s30, trivial⟩ 34 rfl rfl rfl hS (AgreeR.refl _) (t_sat (fun _ h => h) (hK (bs14, cp15, bs18, cp19, bs22, cp23, bs26, cp27, bs30, cp31, bs34, cp35) ⟨hf0, hf1, hf2, hf3, hf4, hf5, hf6, hf7, hf8, hf9, hf10, hf11⟩))
         · -- 35
          rintro ⟨bs14, cp15, bs18, cp19, bs22, cp23, bs26, cp27, bs30, cp31, bs34, cp35⟩ S hF hS D hp K hK
          try dsimp only at hF ⊢
          obtain ⟨hf0, hf1, hf2, hf3, hf4, hf5, hf6, hf7, hf8, hf9, hf10, hf11⟩ := hF
          have s30 := hp 30 rfl
          refine d_need (small := [(2, (.int .i64 a)), (112, (.bool true))]) ⟨look_b rfl rfl, look_row rfl 30 rfl s30, trivial⟩ ?_
          refine t_guard rfl rfl ?_
          refine tp rfl (lv_move rfl) ?_
          exact d_closes ⟨look_b rfl rfl, look_row rfl 30 rfl s30, trivial⟩ 35 rfl rfl rfl hS (AgreeR.refl _) (t_sat (fun _ h => h) (hK (bs14, cp15, bs18, cp19, bs22, cp23, bs26, cp27, bs30, cp31, bs34, cp35) ⟨hf0, hf1, hf2, hf3, hf4, hf5, hf6, hf7, hf8, hf9, hf10, hf11⟩))
         · -- 36
          rintro ⟨bs14, cp15, bs18, cp19, bs22, cp23, bs26, cp27, bs30, cp31, bs34, cp35⟩ S hF hS D hp K hK
          try dsimp only at hF ⊢
          obtain ⟨hf0, hf1, hf2, hf3, hf4, hf5, hf6, hf7, hf8, hf9, hf10, hf11⟩ := hF
          have s35 := hp 35 rfl
          have s30 := D 35 30 rfl s35
          have s29 := D 30 29 rfl s30
          have s28 := D 29 28 rfl s29
          have s24 := D 28 24 rfl s28
          have hok16 := hf0 s24
          have hle17 := hf1 s24
          have s27 := D 28 27 rfl s28
          have hok20 := hf2 s27
          have hle21 := hf3 s27
          have s33 := hp 33 rfl
          have hok24 := hf4 s33
          have hle25 := hf5 s33
          have s34 := hp 34 rfl
          refine d_need (small := [(112, (.bool true)), (116, (.pointer (some ⟨p2, 0, none⟩))), (117, (.int .i64 a))]) ⟨look_row rfl 30 rfl s30, look_row rfl 34 rfl s34, look_row rfl 35 rfl s35, trivial⟩ ?_
          refine t_guard rfl rfl ?_
          refine t_f1 ?_
          refine t_f1 ?_
          refine tc rfl (en_fn Tryd.call26 rfl) (rin_ok (N := M) (es := F) a hok10 hE) ?_
          rintro _ _ ⟨bs26, cp27, hok28, hle29, rfl, rfl⟩
          refine t_sat (fun _ h => sat_put [_, _, _, _, _, _] h) ?_
          exact d_closes ⟨look_row rfl 30 rfl s30, look_row rfl 34 rfl s34, look_row rfl 35 rfl s35, trivial⟩ 36 rfl rfl rfl hS (by exact ⟨.inl rfl, .inl rfl, .inl rfl, .inl rfl, .inl rfl, .inl rfl, .inl rfl, .inl rfl, .inl rfl, .inl rfl, .inl rfl, .inl rfl, .inl rfl, .inl rfl, .inl rfl, .inl rfl, .inl rfl, .inl rfl, .inl rfl, .inl rfl, .inl rfl, .inl rfl, .inl rfl, .inl rfl, .inl rfl, .inl rfl, .inl rfl, .inl rfl, .inl rfl, .inl rfl, .inl rfl, .inl rfl, .inl rfl, .inl rfl, .inl rfl, .inl rfl, .inr ⟨rfl, rfl, hS⟩, .inl rfl, .inl rfl, .inl rfl, .inl rfl, .inl rfl, .inl rfl, .inl rfl, .inl rfl, .inl rfl, .inl rfl, .inl rfl, .inl rfl, .inl rfl, .inl rfl, .inl rfl, .inl rfl, .inl rfl, .inl rfl, .inl rfl, .inl rfl, .inl rfl, .inl rfl, .inl rfl, .inl rfl, .inl rfl, .inl rfl, .inl rfl, .inl rfl, .inl rfl, .inl rfl, .inl rfl, .inl rfl, .inl rfl, .inl rfl, .inl rfl, trivial⟩) (t_sat (fun _ h => h) (hK (bs14, cp15, bs18, cp19, bs22, cp23, bs26, cp27, bs30, cp31, bs34, cp35) ⟨hf0, hf1, hf2, hf3, hf4, hf5, (fun _ => hok28), (fun _ => hle29), hf8, hf9, hf10, hf11⟩))
         · -- 37
          rintro ⟨bs14, cp15, bs18, cp19, bs22, cp23, bs26, cp27, bs30, cp31, bs34, cp35⟩ S hF hS D hp K hK
          try dsimp only at hF ⊢
          obtain ⟨hf0, hf1, hf2, hf3, hf4, hf5, hf6, hf7, hf8, hf9, hf10, hf11⟩ := hF
          have s33 := hp 33 rfl
          have hok24 := hf4 s33
          have hle25 := hf5 s33
          have s36 := hp 36 rfl
          have hok28 := hf6 s36
          have hle29 := hf7 s36
          have s30 := hp 30 rfl
          refine d_need (small := [(112, (.bool true)), (115, (.slice bs22 ((inns F a).length) cp23)), (118, (.slice bs26 ((inns F a).length) cp27))]) ⟨look_row rfl 30 rfl s30, look_row rfl 33 rfl s33, look_row rfl 36 rfl s36, trivial⟩ ?_
          refine t_f5 ?_
          refine t_cT s33 ?_
          refine t_f6 ?_
          refine t_cT s36 ?_
          refine t_guard rfl rfl ?_
          refine tc rfl (en_fn Tryd.call21 rfl) (ints_ok (inns F a) (inns F a) (rd_sl (.tail _ (.head _))) (rd_sl (.head _)) hok24 hok28 (by first | omega | (simp; done) | (simp; omega)) (by first | omega | (simp; done) | (simp; omega))) ?_
          rintro _ _ ⟨rfl, rfl⟩
          rw [show eqI (inns F a) (inns F a) = true from (eqI_refl _)]
          refine t_f1 ?_
          refine t_wT (B := Emp) s33 ?_
          refine t_f1 ?_
          refine t_wT (B := Emp) s36 ?_
          refine t_f1 ?_
          refine t_f6 ?_
          refine t_f6 ?_
          refine t_f6 ?_
          refine t_f6 ?_
          refine t_f6 ?_
          exact d_closes ⟨look_row rfl 30 rfl s30, look_row rfl 33 rfl s33, look_row rfl 36 rfl s36, trivial⟩ 37 rfl rfl rfl hS (AgreeR.refl _) (t_sat (fun _ h => h) (hK (bs14, cp15, bs18, cp19, bs22, cp23, bs26, cp27, bs30, cp31, bs34, cp35) ⟨hf0, hf1, hf2, hf3, hf4, hf5, hf6, hf7, hf8, hf9, hf10, hf11⟩))
         · -- 38
          rintro ⟨bs14, cp15, bs18, cp19, bs22, cp23, bs26, cp27, bs30, cp31, bs34, cp35⟩ S hF hS D hp K hK
          try dsimp only at hF ⊢
          obtain ⟨hf0, hf1, hf2, hf3, hf4, hf5, hf6, hf7, hf8, hf9, hf10, hf11⟩ := hF
          have s30 := hp 30 rfl
          have s37 := hp 37 rfl
          refine d_need (small := [(112, (.bool true)), (119, (.bool true))]) ⟨look_row rfl 30 rfl s30, look_row rfl 37 rfl s37, trivial⟩ ?_
          refine tp rfl (lv_pick_t rfl rfl) ?_
          exact d_closes ⟨look_row rfl 30 rfl s30, look_row rfl 37 rfl s37, trivial⟩ 38 rfl rfl rfl hS (AgreeR.refl _) (t_sat (fun _ h => h) (hK (bs14, cp15, bs18, cp19, bs22, cp23, bs26, cp27, bs30, cp31, bs34, cp35) ⟨hf0, hf1, hf2, hf3, hf4, hf5, hf6, hf7, hf8, hf9, hf10, hf11⟩))
         · -- 39
          rintro ⟨bs14, cp15, bs18, cp19, bs22, cp23, bs26, cp27, bs30, cp31, bs34, cp35⟩ S hF hS D hp K hK
          try dsimp only at hF ⊢
          obtain ⟨hf0, hf1, hf2, hf3, hf4, hf5, hf6, hf7, hf8, hf9, hf10, hf11⟩ := hF
          have s38 := hp 38 rfl
          refine d_need (small := [(120, (.bool true))]) ⟨look_row rfl 38 rfl s38, trivial⟩ ?_
          refine tp rfl (lv_move rfl) ?_
          exact d_closes ⟨look_row rfl 38 rfl s38, trivial⟩ 39 rfl rfl rfl hS (AgreeR.refl _) (t_sat (fun _ h => h) (hK (bs14, cp15, bs18, cp19, bs22, cp23, bs26, cp27, bs30, cp31, bs34, cp35) ⟨hf0, hf1, hf2, hf3, hf4, hf5, hf6, hf7, hf8, hf9, hf10, hf11⟩))
         · -- 40
          rintro ⟨bs14, cp15, bs18, cp19, bs22, cp23, bs26, cp27, bs30, cp31, bs34, cp35⟩ S hF hS D hp K hK
          try dsimp only at hF ⊢
          obtain ⟨hf0, hf1, hf2, hf3, hf4, hf5, hf6, hf7, hf8, hf9, hf10, hf11⟩ := hF
          have s39 := hp 39 rfl
          refine d_need (small := [(10, (.pointer (some ⟨p1, 0, none⟩))), (121, (.bool true))]) ⟨look_b rfl rfl, look_row rfl 39 rfl s39, trivial⟩ ?_
          refine t_guard rfl rfl ?_
          refine tp rfl (lv_move rfl) ?_
          exact d_closes ⟨look_b rfl rfl, look_row rfl 39 rfl s39, trivial⟩ 40 rfl rfl rfl hS (AgreeR.refl _) (t_sat (fun _ h => h) (hK (bs14, cp15, bs18, cp19, bs22, cp23, bs26, cp27, bs30, cp31, bs34, cp35) ⟨hf0, hf1, hf2, hf3, hf4, hf5, hf6, hf7, hf8, hf9, hf10, hf11⟩))
         · -- 41
          rintro ⟨bs14, cp15, bs18, cp19, bs22, cp23, bs26, cp27, bs30, cp31, bs34, cp35⟩ S hF hS D hp K hK
          try dsimp only at hF ⊢
          obtain ⟨hf0, hf1, hf2, hf3, hf4, hf5, hf6, hf7, hf8, hf9, hf10, hf11⟩ := hF
          have s39 := hp 39 rfl
          refine d_need (small := [(2, (.int .i64 a)), (121, (.bool true))]) ⟨look_b rfl rfl, look_row rfl 39 rfl s39, trivial⟩ ?_
          refine t_guard rfl rfl ?_
          refine tp rfl (lv_move rfl) ?_
          exact d_closes ⟨look_b rfl rfl, look_row rfl 39 rfl s39, trivial⟩ 41 rfl rfl rfl hS (AgreeR.refl _) (t_sat (fun _ h => h) (hK (bs14, cp15, bs18, cp19, bs22, cp23, bs26, cp27, bs30, cp31, bs34, cp35) ⟨hf0, hf1, hf2, hf3, hf4, hf5, hf6, hf7, hf8, hf9, hf10, hf11⟩))
         · -- 42
          rintro ⟨bs14, cp15, bs18, cp19, bs22, cp23, bs26, cp27, bs30, cp31, bs34, cp35⟩ S hF hS D hp K hK
          try dsimp only at hF ⊢
          obtain ⟨hf0, hf1, hf2, hf3, hf4, hf5, hf6, hf7, hf8, hf9, hf10, hf11⟩ := hF
          have s41 := hp 41 rfl
          have s39 := D 41 39 rfl s41
          have s38 := D 39 38 rfl s39
          have s37 := D 38 37 rfl s38
          have s36 := D 37 36 rfl s37
          have s35 := D 36 35 rfl s36
          have s30 := D 35 30 rfl s35
          have s29 := D 30 29 rfl s30
          have s28 := D 29 28 rfl s29
          have s24 := D 28 24 rfl s28
          have hok16 := hf0 s24
          have hle17 := hf1 s24
          have s27 := D 28 27 rfl s28
          have hok20 := hf2 s27
          have hle21 := hf3 s27
          have s33 := D 37 33 rfl s37
          have hok24 := hf4 s33
          have hle25 := hf5 s33
          have hok28 := hf6 s36
          have hle29 := hf7 s36
          have s40 := hp 40 rfl
          refine d_need (small := [(121, (.bool true)), (122, (.pointer (some ⟨p1, 0, none⟩))), (123, (.int .i64 a))]) ⟨look_row rfl 39 rfl s39, look_row rfl 40 rfl s40, look_row rfl 41 rfl s41, trivial⟩ ?_
          refine t_guard rfl rfl ?_
          refine t_f2 ?_
          refine tc rfl (en_fn Tryd.call15 rfl) (reach_ok (N := M) (es := F) a (Tab.cons (Tab.cons (Tab.cons (Tab.cons (Tab.cons (Tab.cons (Tab.cons (Tab.cons hT))))))))) ?_
          rintro _ _ ⟨bs30, cp31, hok32, hle33, rfl, rfl⟩
          refine t_f1 ?_
          refine t_f3 ?_
          refine t_f3 ?_
          refine t_f3 ?_
          refine t_sat (fun _ h => sat_put [_, _, _, _, _, _, _] h) ?_
          exact d_closes ⟨look_row rfl 39 rfl s39, look_row rfl 40 rfl s40, look_row rfl 41 rfl s41, trivial⟩ 42 rfl rfl rfl hS (by exact ⟨.inl rfl, .inl rfl, .inl rfl, .inl rfl, .inl rfl, .inl rfl, .inl rfl, .inl rfl, .inl rfl, .inl rfl, .inl rfl, .inl rfl, .inl rfl, .inl rfl, .inl rfl, .inl rfl, .inl rfl, .inl rfl, .inl rfl, .inl rfl, .inl rfl, .inl rfl, .inl rfl, .inl rfl, .inl rfl, .inl rfl, .inl rfl, .inl rfl, .inl rfl, .inl rfl, .inl rfl, .inl rfl, .inl rfl, .inl rfl, .inl rfl, .inl rfl, .inl rfl, .inl rfl, .inl rfl, .inl rfl, .inl rfl, .inl rfl, .inr ⟨rfl, rfl, hS⟩, .inl rfl, .inl rfl, .inl rfl, .inl rfl, .inl rfl, .inl rfl, .inl rfl, .inl rfl, .inl rfl, .inl rfl, .inl rfl, .inl rfl, .inl rfl, .inl rfl, .inl rfl, .inl rfl, .inl rfl, .inl rfl, .inl rfl, .inl rfl, .inl rfl, .inl rfl, .inl rfl, .inl rfl, .inl rfl, .inl rfl, .inl rfl, .inl rfl, .inl rfl, trivial⟩) (t_sat (fun _ h => h) (hK (bs14, cp15, bs18, cp19, bs22, cp23, bs26, cp27, bs30, cp31, bs34, cp35) ⟨hf0, hf1, hf2, hf3, hf4, hf5, hf6, hf7, (fun _ => hok32), (fun _ => hle33), hf10, hf11⟩))
         · -- 43
          rintro ⟨bs14, cp15, bs18, cp19, bs22, cp23, bs26, cp27, bs30, cp31, bs34, cp35⟩ S hF hS D hp K hK
          try dsimp only at hF ⊢
          obtain ⟨hf0, hf1, hf2, hf3, hf4, hf5, hf6, hf7, hf8, hf9, hf10, hf11⟩ := hF
          have s39 := hp 39 rfl
          refine d_need (small := [(11, (.pointer (some ⟨p2, 0, none⟩))), (121, (.bool true))]) ⟨look_b rfl rfl, look_row rfl 39 rfl s39, trivial⟩ ?_
          refine t_guard rfl rfl ?_
          refine tp rfl (lv_move rfl) ?_
          exact d_closes ⟨look_b rfl rfl, look_row rfl 39 rfl s39, trivial⟩ 43 rfl rfl rfl hS (AgreeR.refl _) (t_sat (fun _ h => h) (hK (bs14, cp15, bs18, cp19, bs22, cp23, bs26, cp27, bs30, cp31, bs34, cp35) ⟨hf0, hf1, hf2, hf3, hf4, hf5, hf6, hf7, hf8, hf9, hf10, hf11⟩))
         · -- 44
          rintro ⟨bs14, cp15, bs18, cp19, bs22, cp23, bs26, cp27, bs30, cp31, bs34, cp35⟩ S hF hS D hp K hK
          try dsimp only at hF ⊢
          obtain ⟨hf0, hf1, hf2, hf3, hf4, hf5, hf6, hf7, hf8, hf9, hf10, hf11⟩ := hF
          have s39 := hp 39 rfl
          refine d_need (small := [(2, (.int .i64 a)), (121, (.bool true))]) ⟨look_b rfl rfl, look_row rfl 39 rfl s39, trivial⟩ ?_
          refine t_guard rfl rfl ?_
          refine tp rfl (lv_move rfl) ?_
          exact d_closes ⟨look_b rfl rfl, look_row rfl 39 rfl s39, trivial⟩ 44 rfl rfl rfl hS (AgreeR.refl _) (t_sat (fun _ h => h) (hK (bs14, cp15, bs18, cp19, bs22, cp23, bs26, cp27, bs30, cp31, bs34, cp35) ⟨hf0, hf1, hf2, hf3, hf4, hf5, hf6, hf7, hf8, hf9, hf10, hf11⟩))
         · -- 45
          rintro ⟨bs14, cp15, bs18, cp19, bs22, cp23, bs26, cp27, bs30, cp31, bs34, cp35⟩ S hF hS D hp K hK
          try dsimp only at hF ⊢
          obtain ⟨hf0, hf1, hf2, hf3, hf4, hf5, hf6, hf7, hf8, hf9, hf10, hf11⟩ := hF
          have s44 := hp 44 rfl
          have s39 := D 44 39 rfl s44
          have s38 := D 39 38 rfl s39
          have s37 := D 38 37 rfl s38
          have s36 := D 37 36 rfl s37
          have s35 := D 36 35 rfl s36
          have s30 := D 35 30 rfl s35
          have s29 := D 30 29 rfl s30
          have s28 := D 29 28 rfl s29
          have s24 := D 28 24 rfl s28
          have hok16 := hf0 s24
          have hle17 := hf1 s24
          have s27 := D 28 27 rfl s28
          have hok20 := hf2 s27
          have hle21 := hf3 s27
          have s33 := D 37 33 rfl s37
          have hok24 := hf4 s33
          have hle25 := hf5 s33
          have hok28 := hf6 s36
          have hle29 := hf7 s36
          have s42 := hp 42 rfl
          have hok32 := hf8 s42
          have hle33 := hf9 s42
          have s43 := hp 43 rfl
          refine d_need (small := [(121, (.bool true)), (125, (.pointer (some ⟨p2, 0, none⟩))), (126, (.int .i64 a))]) ⟨look_row rfl 39 rfl s39, look_row rfl 43 rfl s43, look_row rfl 44 rfl s44, trivial⟩ ?_
          refine t_guard rfl rfl ?_
          refine t_f1 ?_
          refine t_f1 ?_
          refine tc rfl (en_fn Tryd.call27 rfl) (rreach_ok (N := M) (es := F) a hok10 hE hg) ?_
          rintro _ _ ⟨bs34, cp35, hok36, hle37, rfl, rfl⟩
          refine t_sat (fun _ h => sat_put [_, _, _, _, _, _, _, _] h) ?_
          exact d_closes ⟨look_row rfl 39 rfl s39, look_row rfl 43 rfl s43, look_row rfl 44 rfl s44, trivial⟩ 45 rfl rfl rfl hS (by exact ⟨.inl rfl, .inl rfl, .inl rfl, .inl rfl, .inl rfl, .inl rfl, .inl rfl, .inl rfl, .inl rfl, .inl rfl, .inl rfl, .inl rfl, .inl rfl, .inl rfl, .inl rfl, .inl rfl, .inl rfl, .inl rfl, .inl rfl, .inl rfl, .inl rfl, .inl rfl, .inl rfl, .inl rfl, .inl rfl, .inl rfl, .inl rfl, .inl rfl, .inl rfl, .inl rfl, .inl rfl, .inl rfl, .inl rfl, .inl rfl, .inl rfl, .inl rfl, .inl rfl, .inl rfl, .inl rfl, .inl rfl, .inl rfl, .inl rfl, .inl rfl, .inl rfl, .inl rfl, .inr ⟨rfl, rfl, hS⟩, .inl rfl, .inl rfl, .inl rfl, .inl rfl, .inl rfl, .inl rfl, .inl rfl, .inl rfl, .inl rfl, .inl rfl, .inl rfl, .inl rfl, .inl rfl, .inl rfl, .inl rfl, .inl rfl, .inl rfl, .inl rfl, .inl rfl, .inl rfl, .inl rfl, .inl rfl, .inl rfl, .inl rfl, .inl rfl, .inl rfl, trivial⟩) (t_sat (fun _ h => h) (hK (bs14, cp15, bs18, cp19, bs22, cp23, bs26, cp27, bs30, cp31, bs34, cp35) ⟨hf0, hf1, hf2, hf3, hf4, hf5, hf6, hf7, hf8, hf9, (fun _ => hok36), (fun _ => hle37)⟩))
         · -- 46
          rintro ⟨bs14, cp15, bs18, cp19, bs22, cp23, bs26, cp27, bs30, cp31, bs34, cp35⟩ S hF hS D hp K hK
          try dsimp only at hF ⊢
          obtain ⟨hf0, hf1, hf2, hf3, hf4, hf5, hf6, hf7, hf8, hf9, hf10, hf11⟩ := hF
          have s42 := hp 42 rfl
          have hok32 := hf8 s42
          have hle33 := hf9 s42
          have s45 := hp 45 rfl
          have hok36 := hf10 s45
          have hle37 := hf11 s45
          have s39 := hp 39 rfl
          refine d_need (small := [(121, (.bool true)), (124, (.slice bs30 ((reachL M F a).length) cp31)), (127, (.slice bs34 ((reachL M F a).length) cp35))]) ⟨look_row rfl 39 rfl s39, look_row rfl 42 rfl s42, look_row rfl 45 rfl s45, trivial⟩ ?_
          refine t_f7 ?_
          refine t_cT s42 ?_
          refine t_f8 ?_
          refine t_cT s45 ?_
          refine t_guard rfl rfl ?_
          refine tc rfl (en_fn Tryd.call21 rfl) (ints_ok (reachL M F a) (reachL M F a) (rd_sl (.tail _ (.head _))) (rd_sl (.head _)) hok32 hok36 (by first | omega | (simp; done) | (simp; omega)) (by first | omega | (simp; done) | (simp; omega))) ?_
          rintro _ _ ⟨rfl, rfl⟩
          rw [show eqI (reachL M F a) (reachL M F a) = true from (eqI_refl _)]
          refine t_f1 ?_
          refine t_wT (B := Emp) s42 ?_
          refine t_f1 ?_
          refine t_wT (B := Emp) s45 ?_
          refine t_f1 ?_
          refine t_f8 ?_
          refine t_f8 ?_
          refine t_f8 ?_
          refine t_f8 ?_
          refine t_f8 ?_
          refine t_f8 ?_
          refine t_f8 ?_
          exact d_closes ⟨look_row rfl 39 rfl s39, look_row rfl 42 rfl s42, look_row rfl 45 rfl s45, trivial⟩ 46 rfl rfl rfl hS (AgreeR.refl _) (t_sat (fun _ h => h) (hK (bs14, cp15, bs18, cp19, bs22, cp23, bs26, cp27, bs30, cp31, bs34, cp35) ⟨hf0, hf1, hf2, hf3, hf4, hf5, hf6, hf7, hf8, hf9, hf10, hf11⟩))
         · -- 47
          rintro ⟨bs14, cp15, bs18, cp19, bs22, cp23, bs26, cp27, bs30, cp31, bs34, cp35⟩ S hF hS D hp K hK
          try dsimp only at hF ⊢
          obtain ⟨hf0, hf1, hf2, hf3, hf4, hf5, hf6, hf7, hf8, hf9, hf10, hf11⟩ := hF
          have s39 := hp 39 rfl
          have s46 := hp 46 rfl
          refine d_need (small := [(121, (.bool true)), (128, (.bool true))]) ⟨look_row rfl 39 rfl s39, look_row rfl 46 rfl s46, trivial⟩ ?_
          refine tp rfl (lv_pick_t rfl rfl) ?_
          exact d_closes ⟨look_row rfl 39 rfl s39, look_row rfl 46 rfl s46, trivial⟩ 47 rfl rfl rfl hS (AgreeR.refl _) (t_sat (fun _ h => h) (hK (bs14, cp15, bs18, cp19, bs22, cp23, bs26, cp27, bs30, cp31, bs34, cp35) ⟨hf0, hf1, hf2, hf3, hf4, hf5, hf6, hf7, hf8, hf9, hf10, hf11⟩))
         · -- 48
          rintro ⟨bs14, cp15, bs18, cp19, bs22, cp23, bs26, cp27, bs30, cp31, bs34, cp35⟩ S hF hS D hp K hK
          try dsimp only at hF ⊢
          obtain ⟨hf0, hf1, hf2, hf3, hf4, hf5, hf6, hf7, hf8, hf9, hf10, hf11⟩ := hF
          have s47 := hp 47 rfl
          refine d_need (small := [(129, (.bool true))]) ⟨look_row rfl 47 rfl s47, trivial⟩ ?_
          refine tp rfl (lv_move rfl) ?_
          exact d_closes ⟨look_row rfl 47 rfl s47, trivial⟩ 48 rfl rfl rfl hS (AgreeR.refl _) (t_sat (fun _ h => h) (hK (bs14, cp15, bs18, cp19, bs22, cp23, bs26, cp27, bs30, cp31, bs34, cp35) ⟨hf0, hf1, hf2, hf3, hf4, hf5, hf6, hf7, hf8, hf9, hf10, hf11⟩))
         · -- 49
          rintro ⟨bs14, cp15, bs18, cp19, bs22, cp23, bs26, cp27, bs30, cp31, bs34, cp35⟩ S hF hS D hp K hK
          try dsimp only at hF ⊢
          obtain ⟨hf0, hf1, hf2, hf3, hf4, hf5, hf6, hf7, hf8, hf9, hf10, hf11⟩ := hF
          have s48 := hp 48 rfl
          refine d_need (small := [(10, (.pointer (some ⟨p1, 0, none⟩))), (130, (.bool true))]) ⟨look_b rfl rfl, look_row rfl 48 rfl s48, trivial⟩ ?_
          refine t_guard rfl rfl ?_
          refine tp rfl (lv_move rfl) ?_
          exact d_closes ⟨look_b rfl rfl, look_row rfl 48 rfl s48, trivial⟩ 49 rfl rfl rfl hS (AgreeR.refl _) (t_sat (fun _ h => h) (hK (bs14, cp15, bs18, cp19, bs22, cp23, bs26, cp27, bs30, cp31, bs34, cp35) ⟨hf0, hf1, hf2, hf3, hf4, hf5, hf6, hf7, hf8, hf9, hf10, hf11⟩))
         · -- 50
          rintro ⟨bs14, cp15, bs18, cp19, bs22, cp23, bs26, cp27, bs30, cp31, bs34, cp35⟩ S hF hS D hp K hK
          try dsimp only at hF ⊢
          obtain ⟨hf0, hf1, hf2, hf3, hf4, hf5, hf6, hf7, hf8, hf9, hf10, hf11⟩ := hF
          have s48 := hp 48 rfl
          refine d_need (small := [(2, (.int .i64 a)), (130, (.bool true))]) ⟨look_b rfl rfl, look_row rfl 48 rfl s48, trivial⟩ ?_
          refine t_guard rfl rfl ?_
          refine tp rfl (lv_move rfl) ?_
          exact d_closes ⟨look_b rfl rfl, look_row rfl 48 rfl s48, trivial⟩ 50 rfl rfl rfl hS (AgreeR.refl _) (t_sat (fun _ h => h) (hK (bs14, cp15, bs18, cp19, bs22, cp23, bs26, cp27, bs30, cp31, bs34, cp35) ⟨hf0, hf1, hf2, hf3, hf4, hf5, hf6, hf7, hf8, hf9, hf10, hf11⟩))
         · -- 51
          rintro ⟨bs14, cp15, bs18, cp19, bs22, cp23, bs26, cp27, bs30, cp31, bs34, cp35⟩ S hF hS D hp K hK
          try dsimp only at hF ⊢
          obtain ⟨hf0, hf1, hf2, hf3, hf4, hf5, hf6, hf7, hf8, hf9, hf10, hf11⟩ := hF
          have s48 := hp 48 rfl
          refine d_need (small := [(3, (.int .i64 b)), (130, (.bool true))]) ⟨look_b rfl rfl, look_row rfl 48 rfl s48, trivial⟩ ?_
          refine t_guard rfl rfl ?_
          refine tp rfl (lv_move rfl) ?_
          exact d_closes ⟨look_b rfl rfl, look_row rfl 48 rfl s48, trivial⟩ 51 rfl rfl rfl hS (AgreeR.refl _) (t_sat (fun _ h => h) (hK (bs14, cp15, bs18, cp19, bs22, cp23, bs26, cp27, bs30, cp31, bs34, cp35) ⟨hf0, hf1, hf2, hf3, hf4, hf5, hf6, hf7, hf8, hf9, hf10, hf11⟩))
         · -- 52
          rintro ⟨bs14, cp15, bs18, cp19, bs22, cp23, bs26, cp27, bs30, cp31, bs34, cp35⟩ S hF hS D hp K hK
          try dsimp only at hF ⊢
          obtain ⟨hf0, hf1, hf2, hf3, hf4, hf5, hf6, hf7, hf8, hf9, hf10, hf11⟩ := hF
          have s48 := hp 48 rfl
          have s49 := hp 49 rfl
          have s50 := hp 50 rfl
          have s51 := hp 51 rfl
          refine d_need (small := [(130, (.bool true)), (131, (.pointer (some ⟨p1, 0, none⟩))), (132, (.int .i64 a)), (133, (.int .i64 b))]) ⟨look_row rfl 48 rfl s48, look_row rfl 49 rfl s49, look_row rfl 50 rfl s50, look_row rfl 51 rfl s51, trivial⟩ ?_
          refine t_guard rfl rfl ?_
          refine t_f2 ?_
          refine tc rfl (en_fn Tryd.call13 rfl) (reaches_ok (N := M) (es := F) a b (Tab.cons (Tab.cons (Tab.cons (Tab.cons (Tab.cons (Tab.cons (Tab.cons (Tab.cons hT))))))))) ?_
          rintro _ _ ⟨rfl, rfl⟩
          refine t_f2 ?_
          refine t_f2 ?_
          exact d_closes ⟨look_row rfl 48 rfl s48, look_row rfl 49 rfl s49, look_row rfl 50 rfl s50, look_row rfl 51 rfl s51, trivial⟩ 52 rfl rfl rfl hS (AgreeR.refl _) (t_sat (fun _ h => h) (hK (bs14, cp15, bs18, cp19, bs22, cp23, bs26, cp27, bs30, cp31, bs34, cp35) ⟨hf0, hf1, hf2, hf3, hf4, hf5, hf6, hf7, hf8, hf9, hf10, hf11⟩))
         · -- 53
          rintro ⟨bs14, cp15, bs18, cp19, bs22, cp23, bs26, cp27, bs30, cp31, bs34, cp35⟩ S hF hS D hp K hK
          try dsimp only at hF ⊢
          obtain ⟨hf0, hf1, hf2, hf3, hf4, hf5, hf6, hf7, hf8, hf9, hf10, hf11⟩ := hF
          have s48 := hp 48 rfl
          refine d_need (small := [(3, (.int .i64 b)), (130, (.bool true))]) ⟨look_b rfl rfl, look_row rfl 48 rfl s48, trivial⟩ ?_
          refine t_guard rfl rfl ?_
          refine tp rfl (lv_move rfl) ?_
          exact d_closes ⟨look_b rfl rfl, look_row rfl 48 rfl s48, trivial⟩ 53 rfl rfl rfl hS (AgreeR.refl _) (t_sat (fun _ h => h) (hK (bs14, cp15, bs18, cp19, bs22, cp23, bs26, cp27, bs30, cp31, bs34, cp35) ⟨hf0, hf1, hf2, hf3, hf4, hf5, hf6, hf7, hf8, hf9, hf10, hf11⟩))
         · -- 54
          rintro ⟨bs14, cp15, bs18, cp19, bs22, cp23, bs26, cp27, bs30, cp31, bs34, cp35⟩ S hF hS D hp K hK
          try dsimp only at hF ⊢
          obtain ⟨hf0, hf1, hf2, hf3, hf4, hf5, hf6, hf7, hf8, hf9, hf10, hf11⟩ := hF
          have s53 := hp 53 rfl
          have s48 := D 53 48 rfl s53
          have s47 := D 48 47 rfl s48
          have s46 := D 47 46 rfl s47
          have s45 := D 46 45 rfl s46
          have s44 := D 45 44 rfl s45
          have s39 := D 44 39 rfl s44
          have s38 := D 39 38 rfl s39
          have s37 := D 38 37 rfl s38
          have s36 := D 37 36 rfl s37
          have s35 := D 36 35 rfl s36
          have s30 := D 35 30 rfl s35
          have s29 := D 30 29 rfl s30
          have s28 := D 29 28 rfl s29
          have s24 := D 28 24 rfl s28
          have hok16 := hf0 s24
          have hle17 := hf1 s24
          have s27 := D 28 27 rfl s28
          have hok20 := hf2 s27
          have hle21 := hf3 s27
          have s33 := D 37 33 rfl s37
          have hok24 := hf4 s33
          have hle25 := hf5 s33
          have hok28 := hf6 s36
          have hle29 := hf7 s36
          have s42 := D 46 42 rfl s46
          have hok32 := hf8 s42
          have hle33 := hf9 s42
          have hok36 := hf10 s45
          have hle37 := hf11 s45
          refine d_need (small := [(130, (.bool true)), (135, (.int .i64 b))]) ⟨look_row rfl 48 rfl s48, look_row rfl 53 rfl s53, trivial⟩ ?_
          refine t_guard rfl rfl ?_
          refine tp rfl (lv_geq rfl rfl (decide_eq_false h12)) ?_
          exact d_closes ⟨look_row rfl 48 rfl s48, look_row rfl 53 rfl s53, trivial⟩ 54 rfl rfl rfl hS (AgreeR.refl _) (t_sat (fun _ h => h) (hK (bs14, cp15, bs18, cp19, bs22, cp23, bs26, cp27, bs30, cp31, bs34, cp35) ⟨hf0, hf1, hf2, hf3, hf4, hf5, hf6, hf7, hf8, hf9, hf10, hf11⟩))
         · -- 55
          rintro ⟨bs14, cp15, bs18, cp19, bs22, cp23, bs26, cp27, bs30, cp31, bs34, cp35⟩ S hF hS D hp K hK
          try dsimp only at hF ⊢
          obtain ⟨hf0, hf1, hf2, hf3, hf4, hf5, hf6, hf7, hf8, hf9, hf10, hf11⟩ := hF
          have s48 := hp 48 rfl
          have s54 := hp 54 rfl
          refine d_need (small := [(130, (.bool true)), (136, (.bool false))]) ⟨look_row rfl 48 rfl s48, look_row rfl 54 rfl s54, trivial⟩ ?_
          refine t_guard rfl rfl ?_
          refine tp rfl (lv_move rfl) ?_
          exact d_closes ⟨look_row rfl 48 rfl s48, look_row rfl 54 rfl s54, trivial⟩ 55 rfl rfl rfl hS (AgreeR.refl _) (t_sat (fun _ h => h) (hK (bs14, cp15, bs18, cp19, bs22, cp23, bs26, cp27, bs30, cp31, bs34, cp35) ⟨hf0, hf1, hf2, hf3, hf4, hf5, hf6, hf7, hf8, hf9, hf10, hf11⟩))
         · -- 56
          rintro ⟨bs14, cp15, bs18, cp19, bs22, cp23, bs26, cp27, bs30, cp31, bs34, cp35⟩ S hF hS D hp K hK
          try dsimp only at hF ⊢
          obtain ⟨hf0, hf1, hf2, hf3, hf4, hf5, hf6, hf7, hf8, hf9, hf10, hf11⟩ := hF
          have s55 := hp 55 rfl
          refine d_need (small := [(3, (.int .i64 b)), (137, (.bool false))]) ⟨look_b rfl rfl, look_row rfl 55 rfl s55, trivial⟩ ?_
          refine t_skip rfl rfl rfl ?_
          exact d_closes ⟨look_b rfl rfl, look_row rfl 55 rfl s55, trivial⟩ 56 rfl rfl rfl hS (AgreeR.refl _) (t_sat (fun _ h => h) (hK (bs14, cp15, bs18, cp19, bs22, cp23, bs26, cp27, bs30, cp31, bs34, cp35) ⟨hf0, hf1, hf2, hf3, hf4, hf5, hf6, hf7, hf8, hf9, hf10, hf11⟩))
         · -- 57
          rintro ⟨bs14, cp15, bs18, cp19, bs22, cp23, bs26, cp27, bs30, cp31, bs34, cp35⟩ S hF hS D hp K hK
          try dsimp only at hF ⊢
          obtain ⟨hf0, hf1, hf2, hf3, hf4, hf5, hf6, hf7, hf8, hf9, hf10, hf11⟩ := hF
          have s55 := hp 55 rfl
          refine d_need (small := [(11, (.pointer (some ⟨p2, 0, none⟩))), (137, (.bool false))]) ⟨look_b rfl rfl, look_row rfl 55 rfl s55, trivial⟩ ?_
          refine t_skip rfl rfl rfl ?_
          exact d_closes ⟨look_b rfl rfl, look_row rfl 55 rfl s55, trivial⟩ 57 rfl rfl rfl hS (AgreeR.refl _) (t_sat (fun _ h => h) (hK (bs14, cp15, bs18, cp19, bs22, cp23, bs26, cp27, bs30, cp31, bs34, cp35) ⟨hf0, hf1, hf2, hf3, hf4, hf5, hf6, hf7, hf8, hf9, hf10, hf11⟩))
         · -- 58
          rintro ⟨bs14, cp15, bs18, cp19, bs22, cp23, bs26, cp27, bs30, cp31, bs34, cp35⟩ S hF hS D hp K hK
          try dsimp only at hF ⊢
          obtain ⟨hf0, hf1, hf2, hf3, hf4, hf5, hf6, hf7, hf8, hf9, hf10, hf11⟩ := hF
          have s55 := hp 55 rfl
          have s57 := hp 57 rfl
          refine d_need (small := [(137, (.bool false)), (139, undef)]) ⟨look_row rfl 55 rfl s55, look_row rfl 57 rfl s57, trivial⟩ ?_
          refine t_skip rfl rfl rfl ?_
          exact d_closes ⟨look_row rfl 55 rfl s55, look_row rfl 57 rfl s57, trivial⟩ 58 rfl rfl rfl hS (AgreeR.refl _) (t_sat (fun _ h => h) (hK (bs14, cp15, bs18, cp19, bs22, cp23, bs26, cp27, bs30, cp31, bs34, cp35) ⟨hf0, hf1, hf2, hf3, hf4, hf5, hf6, hf7, hf8, hf9, hf10, hf11⟩))
         · -- 59
          rintro ⟨bs14, cp15, bs18, cp19, bs22, cp23, bs26, cp27, bs30, cp31, bs34, cp35⟩ S hF hS D hp K hK
          try dsimp only at hF ⊢
          obtain ⟨hf0, hf1, hf2, hf3, hf4, hf5, hf6, hf7, hf8, hf9, hf10, hf11⟩ := hF
          have s55 := hp 55 rfl
          have s58 := hp 58 rfl
          refine d_need (small := [(137, (.bool false)), (140, undef)]) ⟨look_row rfl 55 rfl s55, look_row rfl 58 rfl s58, trivial⟩ ?_
          refine t_skip rfl rfl rfl ?_
          exact d_closes ⟨look_row rfl 55 rfl s55, look_row rfl 58 rfl s58, trivial⟩ 59 rfl rfl rfl hS (AgreeR.refl _) (t_sat (fun _ h => h) (hK (bs14, cp15, bs18, cp19, bs22, cp23, bs26, cp27, bs30, cp31, bs34, cp35) ⟨hf0, hf1, hf2, hf3, hf4, hf5, hf6, hf7, hf8, hf9, hf10, hf11⟩))
         · -- 60
          rintro ⟨bs14, cp15, bs18, cp19, bs22, cp23, bs26, cp27, bs30, cp31, bs34, cp35⟩ S hF hS D hp K hK
          try dsimp only at hF ⊢
          obtain ⟨hf0, hf1, hf2, hf3, hf4, hf5, hf6, hf7, hf8, hf9, hf10, hf11⟩ := hF
          have s55 := hp 55 rfl
          have s59 := hp 59 rfl
          refine d_need (small := [(137, (.bool false)), (141, undef)]) ⟨look_row rfl 55 rfl s55, look_row rfl 59 rfl s59, trivial⟩ ?_
          refine t_skip rfl rfl rfl ?_
          exact d_closes ⟨look_row rfl 55 rfl s55, look_row rfl 59 rfl s59, trivial⟩ 60 rfl rfl rfl hS (AgreeR.refl _) (t_sat (fun _ h => h) (hK (bs14, cp15, bs18, cp19, bs22, cp23, bs26, cp27, bs30, cp31, bs34, cp35) ⟨hf0, hf1, hf2, hf3, hf4, hf5, hf6, hf7, hf8, hf9, hf10, hf11⟩))
         · -- 61
          rintro ⟨bs14, cp15, bs18, cp19, bs22, cp23, bs26, cp27, bs30, cp31, bs34, cp35⟩ S hF hS D hp K hK
          try dsimp only at hF ⊢
          obtain ⟨hf0, hf1, hf2, hf3, hf4, hf5, hf6, hf7, hf8, hf9, hf10, hf11⟩ := hF
          have s55 := hp 55 rfl
          have s56 := hp 56 rfl
          have s60 := hp 60 rfl
          refine d_need (small := [(137, (.bool false)), (138, undef), (142, undef)]) ⟨look_row rfl 55 rfl s55, look_row rfl 56 rfl s56, look_row rfl 60 rfl s60, trivial⟩ ?_
          refine t_skip rfl rfl rfl ?_
          exact d_closes ⟨look_row rfl 55 rfl s55, look_row rfl 56 rfl s56, look_row rfl 60 rfl s60, trivial⟩ 61 rfl rfl rfl hS (AgreeR.refl _) (t_sat (fun _ h => h) (hK (bs14, cp15, bs18, cp19, bs22, cp23, bs26, cp27, bs30, cp31, bs34, cp35) ⟨hf0, hf1, hf2, hf3, hf4, hf5, hf6, hf7, hf8, hf9, hf10, hf11⟩))
         · -- 62
          rintro ⟨bs14, cp15, bs18, cp19, bs22, cp23, bs26, cp27, bs30, cp31, bs34, cp35⟩ S hF hS D hp K hK
          try dsimp only at hF ⊢
          obtain ⟨hf0, hf1, hf2, hf3, hf4, hf5, hf6, hf7, hf8, hf9, hf10, hf11⟩ := hF
          have s48 := hp 48 rfl
          have s55 := hp 55 rfl
          have s61 := hp 61 rfl
          refine d_need (small := [(130, (.bool true)), (137, (.bool false)), (143, undef)]) ⟨look_row rfl 48 rfl s48, look_row rfl 55 rfl s55, look_row rfl 61 rfl s61, trivial⟩ ?_
          refine t_guard rfl rfl ?_
          refine tp rfl (lv_pick_f rfl rfl) ?_
          exact d_closes ⟨look_row rfl 48 rfl s48, look_row rfl 55 rfl s55, look_row rfl 61 rfl s61, trivial⟩ 62 rfl rfl rfl hS (AgreeR.refl _) (t_sat (fun _ h => h) (hK (bs14, cp15, bs18, cp19, bs22, cp23, bs26, cp27, bs30, cp31, bs34, cp35) ⟨hf0, hf1, hf2, hf3, hf4, hf5, hf6, hf7, hf8, hf9, hf10, hf11⟩))
         · -- 63
          rintro ⟨bs14, cp15, bs18, cp19, bs22, cp23, bs26, cp27, bs30, cp31, bs34, cp35⟩ S hF hS D hp K hK
          try dsimp only at hF ⊢
          obtain ⟨hf0, hf1, hf2, hf3, hf4, hf5, hf6, hf7, hf8, hf9, hf10, hf11⟩ := hF
          have s48 := hp 48 rfl
          have s62 := hp 62 rfl
          refine d_need (small := [(130, (.bool true)), (144, (.bool false))]) ⟨look_row rfl 48 rfl s48, look_row rfl 62 rfl s62, trivial⟩ ?_
          refine t_guard rfl rfl ?_
          refine tp rfl (lv_move rfl) ?_
          exact d_closes ⟨look_row rfl 48 rfl s48, look_row rfl 62 rfl s62, trivial⟩ 63 rfl rfl rfl hS (AgreeR.refl _) (t_sat (fun _ h => h) (hK (bs14, cp15, bs18, cp19, bs22, cp23, bs26, cp27, bs30, cp31, bs34, cp35) ⟨hf0, hf1, hf2, hf3, hf4, hf5, hf6, hf7, hf8, hf9, hf10, hf11⟩))
         · -- 64
          rintro ⟨bs14, cp15, bs18, cp19, bs22, cp23, bs26, cp27, bs30, cp31, bs34, cp35⟩ S hF hS D hp K hK
          try dsimp only at hF ⊢
          obtain ⟨hf0, hf1, hf2, hf3, hf4, hf5, hf6, hf7, hf8, hf9, hf10, hf11⟩ := hF
          have s63 := hp 63 rfl
          refine d_need (small := [(11, (.pointer (some ⟨p2, 0, none⟩))), (145, (.bool false))]) ⟨look_b rfl rfl, look_row rfl 63 rfl s63, trivial⟩ ?_
          refine t_skip rfl rfl rfl ?_
          exact d_closes ⟨look_b rfl rfl, look_row rfl 63 rfl s63, trivial⟩ 64 rfl rfl rfl hS (AgreeR.refl _) (t_sat (fun _ h => h) (hK (bs14, cp15, bs18, cp19, bs22, cp23, bs26, cp27, bs30, cp31, bs34, cp35) ⟨hf0, hf1, hf2, hf3, hf4, hf5, hf6, hf7, hf8, hf9, hf10, hf11⟩))
         · -- 65
          rintro ⟨bs14, cp15, bs18, cp19, bs22, cp23, bs26, cp27, bs30, cp31, bs34, cp35⟩ S hF hS D hp K hK
          try dsimp only at hF ⊢
          obtain ⟨hf0, hf1, hf2, hf3, hf4, hf5, hf6, hf7, hf8, hf9, hf10, hf11⟩ := hF
          have s63 := hp 63 rfl
          refine d_need (small := [(2, (.int .i64 a)), (145, (.bool false))]) ⟨look_b rfl rfl, look_row rfl 63 rfl s63, trivial⟩ ?_
          refine t_skip rfl rfl rfl ?_
          exact d_closes ⟨look_b rfl rfl, look_row rfl 63 rfl s63, trivial⟩ 65 rfl rfl rfl hS (AgreeR.refl _) (t_sat (fun _ h => h) (hK (bs14, cp15, bs18, cp19, bs22, cp23, bs26, cp27, bs30, cp31, bs34, cp35) ⟨hf0, hf1, hf2, hf3, hf4, hf5, hf6, hf7, hf8, hf9, hf10, hf11⟩))
         · -- 66
          rintro ⟨bs14, cp15, bs18, cp19, bs22, cp23, bs26, cp27, bs30, cp31, bs34, cp35⟩ S hF hS D hp K hK
          try dsimp only at hF ⊢
          obtain ⟨hf0, hf1, hf2, hf3, hf4, hf5, hf6, hf7, hf8, hf9, hf10, hf11⟩ := hF
          have s63 := hp 63 rfl
          refine d_need (small := [(3, (.int .i64 b)), (145, (.bool false))]) ⟨look_b rfl rfl, look_row rfl 63 rfl s63, trivial⟩ ?_
          refine t_skip rfl rfl rfl ?_
          exact d_closes ⟨look_b rfl rfl, look_row rfl 63 rfl s63, trivial⟩ 66 rfl rfl rfl hS (AgreeR.refl _) (t_sat (fun _ h => h) (hK (bs14, cp15, bs18, cp19, bs22, cp23, bs26, cp27, bs30, cp31, bs34, cp35) ⟨hf0, hf1, hf2, hf3, hf4, hf5, hf6, hf7, hf8, hf9, hf10, hf11⟩))
         · -- 67
          rintro ⟨bs14, cp15, bs18, cp19, bs22, cp23, bs26, cp27, bs30, cp31, bs34, cp35⟩ S hF hS D hp K hK
          try dsimp only at hF ⊢
          obtain ⟨hf0, hf1, hf2, hf3, hf4, hf5, hf6, hf7, hf8, hf9, hf10, hf11⟩ := hF
          have s63 := hp 63 rfl
          have s64 := hp 64 rfl
          have s65 := hp 65 rfl
          have s66 := hp 66 rfl
          refine d_need (small := [(145, (.bool false)), (146, undef), (147, undef), (148, undef)]) ⟨look_row rfl 63 rfl s63, look_row rfl 64 rfl s64, look_row rfl 65 rfl s65, look_row rfl 66 rfl s66, trivial⟩ ?_
          refine t_skip rfl rfl rfl ?_
          exact d_closes ⟨look_row rfl 63 rfl s63, look_row rfl 64 rfl s64, look_row rfl 65 rfl s65, look_row rfl 66 rfl s66, trivial⟩ 67 rfl rfl rfl hS (AgreeR.refl _) (t_sat (fun _ h => h) (hK (bs14, cp15, bs18, cp19, bs22, cp23, bs26, cp27, bs30, cp31, bs34, cp35) ⟨hf0, hf1, hf2, hf3, hf4, hf5, hf6, hf7, hf8, hf9, hf10, hf11⟩))
         · -- 68
          rintro ⟨bs14, cp15, bs18, cp19, bs22, cp23, bs26, cp27, bs30, cp31, bs34, cp35⟩ S hF hS D hp K hK
          try dsimp only at hF ⊢
          obtain ⟨hf0, hf1, hf2, hf3, hf4, hf5, hf6, hf7, hf8, hf9, hf10, hf11⟩ := hF
          have s48 := hp 48 rfl
          have s63 := hp 63 rfl
          have s67 := hp 67 rfl
          refine d_need (small := [(130, (.bool true)), (145, (.bool false)), (149, undef)]) ⟨look_row rfl 48 rfl s48, look_row rfl 63 rfl s63, look_row rfl 67 rfl s67, trivial⟩ ?_
          refine t_guard rfl rfl ?_
          refine tp rfl (lv_pick_f rfl rfl) ?_
          exact d_closes ⟨look_row rfl 48 rfl s48, look_row rfl 63 rfl s63, look_row rfl 67 rfl s67, trivial⟩ 68 rfl rfl rfl hS (AgreeR.refl _) (t_sat (fun _ h => h) (hK (bs14, cp15, bs18, cp19, bs22, cp23, bs26, cp27, bs30, cp31, bs34, cp35) ⟨hf0, hf1, hf2, hf3, hf4, hf5, hf6, hf7, hf8, hf9, hf10, hf11⟩))
         · -- 69
          rintro ⟨bs14, cp15, bs18, cp19, bs22, cp23, bs26, cp27, bs30, cp31, bs34, cp35⟩ S hF hS D hp K hK
          try dsimp only at hF ⊢
          obtain ⟨hf0, hf1, hf2, hf3, hf4, hf5, hf6, hf7, hf8, hf9, hf10, hf11⟩ := hF
          have s48 := hp 48 rfl
          have s52 := hp 52 rfl
          have s68 := hp 68 rfl
          refine d_need (small := [(130, (.bool true)), (134, (.bool (reachB M F a b))), (150, (.bool false))]) ⟨look_row rfl 48 rfl s48, look_row rfl 52 rfl s52, look_row rfl 68 rfl s68, trivial⟩ ?_
          refine t_guard rfl rfl ?_
          refine tp rfl (lv_eqb Tryd.underlying4 rfl rfl (by first | exact beq_self_eq_true _ | rw [reachB_badb (by omega)])) ?_
          exact d_closes ⟨look_row rfl 48 rfl s48, look_row rfl 52 rfl s52, look_row rfl 68 rfl s68, trivial⟩ 69 rfl rfl rfl hS (AgreeR.refl _) (t_sat (fun _ h => h) (hK (bs14, cp15, bs18, cp19, bs22, cp23, bs26, cp27, bs30, cp31, bs34, cp35) ⟨hf0, hf1, hf2, hf3, hf4, hf5, hf6, hf7, hf8, hf9, hf10, hf11⟩))
         · -- 70
          rintro ⟨bs14, cp15, bs18, cp19, bs22, cp23, bs26, cp27, bs30, cp31, bs34, cp35⟩ S hF hS D hp K hK
          try dsimp only at hF ⊢
          obtain ⟨hf0, hf1, hf2, hf3, hf4, hf5, hf6, hf7, hf8, hf9, hf10, hf11⟩ := hF
          have s48 := hp 48 rfl
          have s69 := hp 69 rfl
          refine d_need (small := [(130, (.bool true)), (151, (.bool true))]) ⟨look_row rfl 48 rfl s48, look_row rfl 69 rfl s69, trivial⟩ ?_
          refine tp rfl (lv_pick_t rfl rfl) ?_
          exact d_closes ⟨look_row rfl 48 rfl s48, look_row rfl 69 rfl s69, trivial⟩ 70 rfl rfl rfl hS (AgreeR.refl _) (t_sat (fun _ h => h) (hK (bs14, cp15, bs18, cp19, bs22, cp23, bs26, cp27, bs30, cp31, bs34, cp35) ⟨hf0, hf1, hf2, hf3, hf4, hf5, hf6, hf7, hf8, hf9, hf10, hf11⟩))
         · -- 71
          rintro ⟨bs14, cp15, bs18, cp19, bs22, cp23, bs26, cp27, bs30, cp31, bs34, cp35⟩ S hF hS D hp K hK
          try dsimp only at hF ⊢
          obtain ⟨hf0, hf1, hf2, hf3, hf4, hf5, hf6, hf7, hf8, hf9, hf10, hf11⟩ := hF
          have s70 := hp 70 rfl
          refine d_need (small := [(152, (.bool true))]) ⟨look_row rfl 70 rfl s70, trivial⟩ ?_
          refine tp rfl (lv_assign rfl) ?_
          exact d_closes ⟨look_row rfl 70 rfl s70, trivial⟩ 71 rfl rfl rfl hS (AgreeR.refl _) (t_sat (fun _ h => h) (hK (bs14, cp15, bs18, cp19, bs22, cp23, bs26, cp27, bs30, cp31, bs34, cp35) ⟨hf0, hf1, hf2, hf3, hf4, hf5, hf6, hf7, hf8, hf9, hf10, hf11⟩))
        · -- behind
         rintro ⟨bs14, cp15, bs18, cp19, bs22, cp23, bs26, cp27, bs30, cp31, bs34, cp35⟩ hF
         try dsimp only at hF ⊢
         obtain ⟨hf0, hf1, hf2, hf3, hf4, hf5, hf6, hf7, hf8, hf9, hf10, hf11⟩ := hF
         have hok16 := hf0 rfl
         have hle17 := hf1 rfl
         have hok20 := hf2 rfl
         have hle21 := hf3 rfl
         have hok24 := hf4 rfl
         have hle25 := hf5 rfl
         have hok28 := hf6 rfl
         have hle29 := hf7 rfl
         have hok32 := hf8 rfl
         have hle33 := hf9 rfl
         have hok36 := hf10 rfl
         have hle37 := hf11 rfl
         refine t_weak (E' := [(0, (.int .i64 n)), (1, (.slice bl es.length cl)), (2, (.int .i64 a)), (3, (.int .i64 b)), (8, (.bool true)), (9, (.bool true)), (10, (.pointer (some ⟨p1, 0, none⟩))), (11, (.pointer (some ⟨p2, 0, none⟩))), (12, (.int .i64 ((k : Nat) : Int))), (23, (.bool false)), (31, (.bool false))]) ⟨rfl, rfl, rfl, rfl, rfl, rfl, rfl, rfl, rfl, rfl, rfl, trivial⟩ ?_
         refine q_then_n (hK12 _ _ ?_)
         refine c_ret ?_
         refine t_drop ?_
         refine t_drop ?_
         refine t_drop ?_
         refine t_drop ?_
         refine t_drop ?_
         refine t_drop ?_
         refine t_drop ?_
         refine t_drop ?_
         refine t_drop ?_
         refine q_ret rfl rfl ?_
         exact ⟨rfl, rfl⟩
    · -- which
      by_cases hc3A : ((k : Nat) : Int) < ((es.length : Nat) : Int)
      ·
        have hc3B : ¬ (((k : Nat) : Int) < 200) := fun hh => hc3 ⟨hc3A, hh⟩
        refine tp rfl (lv_move rfl) ?_
        refine tp rfl (lv_move rfl) ?_
        refine tp rfl (lv_len Tryd.underlying22 rfl rfl) ?_
        refine tp rfl (lv_lss rfl rfl (decide_eq_true hc3A)) ?_
        refine tp rfl (lv_move rfl) ?_
        refine t_guard rfl rfl ?_
        refine tp rfl (lv_move rfl) ?_
        refine t_guard rfl rfl ?_
        refine tp rfl (lv_lss rfl rfl (decide_eq_false hc3B)) ?_
        refine tp rfl (lv_pick_t rfl rfl) ?_
        exact t_done (t_weak (by exact ⟨rfl, rfl, rfl, rfl, rfl, rfl, rfl, rfl, rfl, rfl, trivial⟩) hKK)
      ·
        refine tp rfl (lv_move rfl) ?_
        refine tp rfl (lv_move rfl) ?_
        refine tp rfl (lv_len Tryd.underlying22 rfl rfl) ?_
        refine tp rfl (lv_lss rfl rfl (decide_eq_false hc3A)) ?_
        refine tp rfl (lv_move rfl) ?_
        refine t_skip rfl rfl rfl ?_
        refine t_skip rfl rfl rfl ?_
        refine tp rfl (lv_pick_f rfl rfl) ?_
        exact t_done (t_weak (by exact ⟨rfl, rfl, rfl, rfl, rfl, rfl, rfl, rfl, rfl, rfl, trivial⟩) hKK)
end Go.Proofs.YtadhgpkpcmpmgaaDoor
