/- Contracts of prio: Of, Reached. -/
import Derived.Test.YtlkcgpcgnhdnmaaDoorRa0
import Derived.Test.YtlkcgpcgnhdnmaaDoorPro
import Derived.Test.YtlkcgpcgnhdnmaaDoorOpm2
import Derived.Test.YtlkcgpcgnhdnmaaDoorVal2
set_option maxRecDepth 100000
set_option linter.unusedVariables false
set_option linter.unusedSimpArgs false
namespace Go.Proofs.YtlkcgpcgnhdnmaaDoor
open Go Go.Proofs Sp
theorem of_ok {R : List HP} {g N nr cl : Nat} {E : Es} {bl : Option Addr} (rs : List R3) (hn : rs.length = nr) (hl : Rd R bl (recs triF rs)) (okl : SlOk bl nr) (lr : nr ≤ 1000000) (hT : Tab R) :
    Ok Tryd.prog 15 [(.pointer (some ⟨g, 0, none⟩)), (.slice bl nr cl)] ((GraphO g N E) :: R)
      (OutSl 3 1 N (ints .i64 (ofL N E rs)) (GraphO g N E :: R)) := by
  refine ok_of (N := 42) Tryd.func15 rfl rfl rfl (fun W => ?_)
  refine t_learn (fun _ h => gok_of h) (fun hgok => ?_)
  have hsmall := hgok.small
  refine c_seq (fun K1 hK1 => ?_)
  refine c_region ?_
  refine tp rfl (lv_assign rfl) ?_
  refine t_done ?_
  refine q_then_n (hK1 _ _ ?_)
  refine c_seq (fun K2 hK2 => ?_)
  refine c_region ?_
  refine tm rfl (mv_buildSlice (cs := [(.int .i64 (-1))]) Tryd.underlying38 Tryd.sizeOf3 Tryd.zeroValue3 (by decide) rfl rfl rfl rfl) ?_
  rintro _ _ ⟨bs1, cp2, hok3, hle4, rfl, rfl⟩
  refine tp rfl (lv_move rfl) ?_
  refine t_f1 ?_
  refine tc rfl (en_fn Tryd.call21 rfl) (n_ok) ?_
  rintro _ _ ⟨rfl, rfl⟩
  refine tc rfl (en_fn Tryd.call27 rfl) (repeat_ok (-1) N (by omega) (rd_sl (.tail _ (.head _))) (fun _ => (fun hz => hok3 (by first | exact hz | omega)) (by omega))) ?_
  rintro _ _ ⟨bs5, cp6, hok7, hle8, rfl, rfl⟩
  refine tp rfl (lv_assign rfl) ?_
  refine t_done ?_
  refine q_then_n (hK2 _ _ ?_)
  refine c_seq (fun K3 hK3 => ?_)
  refine c_seq (fun K4 hK4 => ?_)
  refine c_region ?_
  refine tp rfl (lv_move rfl) ?_
  refine tp rfl (lv_len Tryd.underlying23 rfl rfl) ?_
  refine tp rfl (lv_move rfl) ?_
  refine t_done ?_
  refine q_then_n (hK4 _ _ ?_)
  refine c_block ?_
  rw [show List.replicate N (-1) = ofL N E (rs.take 0) from by rw [List.take_zero, ofL_nil]]
  refine t_f2 ?_
  refine t_drop ?_
  refine c_loop (γ := (Nat)) (fun (k : Nat) => k ≤ nr) (fun (k : Nat) => [(0, (.pointer (some ⟨g, 0, none⟩))), (1, (.slice bl nr cl)), (4, (.slice none 0 0)), (5, (.slice bs5 N cp6)), (14, (.slice bl nr cl)), (15, (.int .i64 ((nr : Nat) : Int))), (16, (.int .i64 ((k : Nat) : Int)))]) (fun (k : Nat) => (SlV 3 1 (.slice bs5 N cp6) N (ints .i64 (ofL N E (rs.take k)))) :: (GraphO g N E) :: R) (fun (k : Nat) => nr - k) (0) (by omega) ⟨rfl, rfl, rfl, rfl, rfl, rfl, rfl, trivial⟩ (fun _ h => h) ?_
  rintro k K5 hF hK5
  try dsimp only at hF hK5 ⊢
  have hrl := reachL_le N E (rs.getD k R3.d).x
  refine c_seq (fun K6 hK6 => ?_)
  refine c_region ?_
  by_cases h9 : ((k : Nat) : Int) < ((nr : Nat) : Int)
  · -- yes
    refine tp rfl (lv_lss rfl rfl (decide_eq_true h9)) ?_
    refine t_done ?_
    refine q_then_n (hK6 _ _ ?_)
    refine c_seq (fun K7 hK7 => ?_)
    refine c_true rfl ?_
    refine c_skip ?_
    refine q_then_n (hK7 _ _ ?_)
    refine c_seq (fun K8 hK8 => ?_)
    refine c_block ?_
    refine c_seq (fun K9 hK9 => ?_)
    refine c_region ?_
    refine tp rfl (lv_indexAddr (k' := k * 3) Tryd.underlying23 Tryd.sizeOf47 rfl rfl okl (by omega) (by omega) (by omega)) ?_
    refine tp rfl (lv_loadAgg_ad (cs := [(.int .i64 ((rs.getD k R3.d).x)), (.int .i64 ((rs.getD k R3.d).y)), (.int .i64 ((rs.getD k R3.d).z))]) Tryd.isAgg47 Tryd.sizeOf47 rfl (gives_all3 (Rd.gives (Rd.cons (Rd.cons hl)) ((recs_get (k := k) (j := 0) triF_len (d := R3.d) (by first | omega | (simp; omega)) (Nat.le_of_ble_eq_true rfl)).trans rfl)) (Rd.gives (Rd.cons (Rd.cons hl)) ((recs_get (k := k) (j := 1) triF_len (d := R3.d) (by first | omega | (simp; omega)) (Nat.le_of_ble_eq_true rfl)).trans rfl)) (Rd.gives (Rd.cons (Rd.cons hl)) ((recs_get (k := k) (j := 2) triF_len (d := R3.d) (by first | omega | (simp; omega)) (Nat.le_of_ble_eq_true rfl)).trans rfl)))) ?_
    refine tm rfl (mv_alloc Tryd.zeroValue47 rfl) ?_
    rintro _ _ ⟨b10, rfl, rfl⟩
    refine ts (sv_blkAgg (news := [(.int .i64 ((rs.getD k R3.d).x)), (.int .i64 ((rs.getD k R3.d).y)), (.int .i64 ((rs.getD k R3.d).z))]) Tryd.sizeOf47 rfl rfl rfl rfl (Nat.le_of_ble_eq_true rfl) rfl) ?_
    refine t_done ?_
    refine q_then_n (hK9 _ _ ?_)
    refine c_seq (fun K10 hK10 => ?_)
    refine c_region ?_
    refine tp rfl (lv_move rfl) ?_
    refine tp rfl (lv_fieldAddr (o' := 0) Tryd.underlying47 rfl Tryd.sizeOf3 rfl rfl) ?_
    refine tp rfl (lv_load Tryd.isAgg3 rfl (gives_blk (.head _) rfl)) ?_
    refine t_f2 ?_
    refine tc rfl (en_fn Tryd.call28 rfl) (reach_ok (N := N) (es := E) ((rs.getD k R3.d).x) (Tab.cons (Tab.cons hT))) ?_
    rintro _ _ ⟨bs11, cp12, hok13, hle14, rfl, rfl⟩
    refine tp rfl (lv_len Tryd.underlying38 rfl rfl) ?_
    refine tp rfl (lv_move rfl) ?_
    refine t_done ?_
    refine q_then_n (hK10 _ _ ?_)
    refine c_block ?_
    refine c_loop (γ := (Nat)) (fun (j : Nat) => j ≤ (reachL N E (rs.getD k R3.d).x).length) (fun (j : Nat) => [(0, (.pointer (some ⟨g, 0, none⟩))), (1, (.slice bl nr cl)), (4, (.slice none 0 0)), (5, (.slice bs5 N cp6)), (7, (.pointer (some ⟨b10, 0, none⟩))), (14, (.slice bl nr cl)), (15, (.int .i64 ((nr : Nat) : Int))), (16, (.int .i64 ((k : Nat) : Int))), (17, (.bool true)), (23, (.slice bs11 ((reachL N E ((rs.getD k R3.d).x)).length) cp12)), (24, (.int .i64 (((reachL N E ((rs.getD k R3.d).x)).length : Nat) : Int))), (25, (.int .i64 ((j : Nat) : Int)))]) (fun (j : Nat) => (SlV 3 1 (.slice bs11 ((reachL N E ((rs.getD k R3.d).x)).length) cp12) ((reachL N E ((rs.getD k R3.d).x)).length) (ints .i64 (reachL N E ((rs.getD k R3.d).x)))) :: (GraphO g N E) :: (Blk b10 [(.int .i64 ((rs.getD k R3.d).x)), (.int .i64 ((rs.getD k R3.d).y)), (.int .i64 ((rs.getD k R3.d).z))] 47) :: (SlV 3 1 (.slice bs5 N cp6) N (ints .i64 (innP ((reachL N E (rs.getD k R3.d).x).take j) (rs.getD k R3.d).z (ofL N E (rs.take k))))) :: R) (fun (j : Nat) => (reachL N E (rs.getD k R3.d).x).length - j) (0) (by omega) ⟨rfl, rfl, rfl, rfl, rfl, rfl, rfl, rfl, rfl, rfl, rfl, rfl, trivial⟩ (fun _ h => h) ?_
    rintro j K11 hF hK11
    try dsimp only at hF hK11 ⊢
    have hil : (innP ((reachL N E (rs.getD k R3.d).x).take j) (rs.getD k R3.d).z (ofL N E (rs.take k))).length = N := by rw [innP_len, ofL_len]
    refine c_seq (fun K12 hK12 => ?_)
    refine c_region ?_
    by_cases h15 : ((j : Nat) : Int) < (((reachL N E ((rs.getD k R3.d).x)).length : Nat) : Int)
    · -- yes
      refine tp rfl (lv_lss rfl rfl (decide_eq_true h15)) ?_
      refine t_done ?_
      refine q_then_n (hK12 _ _ ?_)
      refine c_seq (fun K13 hK13 => ?_)
      refine c_true rfl ?_
      refine c_skip ?_
      refine q_then_n (hK13 _ _ ?_)
      refine c_seq (fun K14 hK14 => ?_)
      refine c_block ?_
      refine c_seq (fun K15 hK15 => ?_)
      refine c_region ?_
      refine tp rfl (lv_indexAddr (k' := j) Tryd.underlying38 Tryd.sizeOf3 rfl rfl hok13 (by omega) (by omega) (by omega)) ?_
      refine tp rfl (lv_load Tryd.isAgg3 rfl (gives_sl (.head _) (ints_get (by first | omega | (simp; omega))))) ?_
      refine tp rfl (lv_assign rfl) ?_
      refine t_done ?_
      refine q_then_n (hK15 _ _ ?_)
      have hat := reachL_at (k := j) (show j < (reachL N E (rs.getD k R3.d).x).length by omega)
      refine c_draw (γ := Unit) (n := 11) Tryd.mixed rfl rfl (fun _ S => True) (fun _ => [(0, 29, (.slice bs5 N cp6)), (1, 30, (.int .i64 ((reachL N E ((rs.getD k R3.d).x)).getD j 0))), (2, 31, (.slice bs5 N cp6)), (3, 32, (.int .i64 ((reachL N E ((rs.getD k R3.d).x)).getD j 0))), (4, 33, (.pointer (some (ad bs5 (((reachL N E ((rs.getD k R3.d).x)).getD j 0).toNat))))), (5, 34, (.int .i64 ((innP ((reachL N E (rs.getD k R3.d).x).take j) (rs.getD k R3.d).z (ofL N E (rs.take k))).getD (((reachL N E ((rs.getD k R3.d).x)).getD j 0).toNat) 0))), (6, 35, (.pointer (some ⟨b10, 2, none⟩))), (7, 36, (.int .i64 ((rs.getD k R3.d).z))), (8, 37, (.int .i64 (max ((innP ((reachL N E (rs.getD k R3.d).x).take j) (rs.getD k R3.d).z (ofL N E (rs.take k))).getD (((reachL N E ((rs.getD k R3.d).x)).getD j 0).toNat) 0) ((rs.getD k R3.d).z)))), (9, 38, (.pointer (some (ad bs5 (((reachL N E ((rs.getD k R3.d).x)).getD j 0).toNat)))))]) (fun _ S => (SlV 3 1 (.slice bs11 ((reachL N E ((rs.getD k R3.d).x)).length) cp12) ((reachL N E ((rs.getD k R3.d).x)).length) (ints .i64 (reachL N E ((rs.getD k R3.d).x)))) :: (GraphO g N E) :: (Blk b10 [(.int .i64 ((rs.getD k R3.d).x)), (.int .i64 ((rs.getD k R3.d).y)), (.int .i64 ((rs.getD k R3.d).z))] 47) :: (bif S 10 then (SlV 3 1 (.slice bs5 N cp6) N (ints .i64 (((innP ((reachL N E (rs.getD k R3.d).x).take j) (rs.getD k R3.d).z (ofL N E (rs.take k)))).set (((reachL N E ((rs.getD k R3.d).x)).getD j 0).toNat) (max ((innP ((reachL N E (rs.getD k R3.d).x).take j) (rs.getD k R3.d).z (ofL N E (rs.take k))).getD (((reachL N E ((rs.getD k R3.d).x)).getD j 0).toNat) 0) ((rs.getD k R3.d).z))))) else (SlV 3 1 (.slice bs5 N cp6) N (ints .i64 (innP ((reachL N E (rs.getD k R3.d).x).take j) (rs.getD k R3.d).z (ofL N E (rs.take k)))))) :: R) (()) trivial (fun _ h => h) (fun _ _ h => h) ?_ ?_
      · -- steps
        refine ⟨?_, ?_, ?_, ?_, ?_, ?_, ?_, ?_, ?_, ?_, ?_, trivial⟩
        · -- 0
         rintro _ S hF hS D hp K hK
         try dsimp only at hF ⊢
         refine d_need (small := [(5, (.slice bs5 N cp6))]) ⟨look_b rfl rfl, trivial⟩ ?_
         refine tp rfl (lv_move rfl) ?_
         exact d_closes ⟨look_b rfl rfl, trivial⟩ 0 rfl rfl rfl hS (AgreeR.refl _) (t_sat (fun _ h => h) (hK () trivial))
        · -- 1
         rintro _ S hF hS D hp K hK
         try dsimp only at hF ⊢
         refine d_need (small := [(9, (.int .i64 ((reachL N E ((rs.getD k R3.d).x)).getD j 0)))]) ⟨look_b rfl rfl, trivial⟩ ?_
         refine tp rfl (lv_move rfl) ?_
         exact d_closes ⟨look_b rfl rfl, trivial⟩ 1 rfl rfl rfl hS (AgreeR.refl _) (t_sat (fun _ h => h) (hK () trivial))
        · -- 2
         rintro _ S hF hS D hp K hK
         try dsimp only at hF ⊢
         refine d_need (small := [(5, (.slice bs5 N cp6))]) ⟨look_b rfl rfl, trivial⟩ ?_
         refine tp rfl (lv_move rfl) ?_
         exact d_closes ⟨look_b rfl rfl, trivial⟩ 2 rfl rfl rfl hS (AgreeR.refl _) (t_sat (fun _ h => h) (hK () trivial))
        · -- 3
         rintro _ S hF hS D hp K hK
         try dsimp only at hF ⊢
         refine d_need (small := [(9, (.int .i64 ((reachL N E ((rs.getD k R3.d).x)).getD j 0)))]) ⟨look_b rfl rfl, trivial⟩ ?_
         refine tp rfl (lv_move rfl) ?_
         exact d_closes ⟨look_b rfl rfl, trivial⟩ 3 rfl rfl rfl hS (AgreeR.refl _) (t_sat (fun _ h => h) (hK () trivial))
        · -- 4
         rintro _ S hF hS D hp K hK
         try dsimp only at hF ⊢
         have s2 := hp 2 rfl
         have s3 := hp 3 rfl
         refine d_need (small := [(31, (.slice bs5 N cp6)), (32, (.int .i64 ((reachL N E ((rs.getD k R3.d).x)).getD j 0)))]) ⟨look_row rfl 2 rfl s2, look_row rfl 3 rfl s3, trivial⟩ ?_
         refine tp rfl (lv_indexAddr (k' := ((reachL N E ((rs.getD k R3.d).x)).getD j 0).toNat) Tryd.underlying38 Tryd.sizeOf3 rfl rfl hok7 (by omega) (by omega) (by omega)) ?_
         exact d_closes ⟨look_row rfl 2 rfl s2, look_row rfl 3 rfl s3, trivial⟩ 4 rfl rfl rfl hS (AgreeR.refl _) (t_sat (fun _ h => h) (hK () trivial))
        · -- 5
         rintro _ S hF hS D hp K hK
         try dsimp only at hF ⊢
         have s4 := hp 4 rfl
         refine d_need (small := [(33, (.pointer (some (ad bs5 (((reachL N E ((rs.getD k R3.d).x)).getD j 0).toNat)))))]) ⟨look_row rfl 4 rfl s4, trivial⟩ ?_
         refine tp rfl (lv_load Tryd.isAgg3 rfl (gives_sl (mem_cF (nf hS D (k := 10) (i := 5) rfl) (.tail _ (.tail _ (.tail _ (.head _))))) (ints_get (by omega)))) ?_
         exact d_closes ⟨look_row rfl 4 rfl s4, trivial⟩ 5 rfl rfl rfl hS (AgreeR.refl _) (t_sat (fun _ h => h) (hK () trivial))
        · -- 6
         rintro _ S hF hS D hp K hK
         try dsimp only at hF ⊢
         refine d_need (small := [(7, (.pointer (some ⟨b10, 0, none⟩)))]) ⟨look_b rfl rfl, trivial⟩ ?_
         refine tp rfl (lv_fieldAddr (o' := 2) Tryd.underlying47 rfl Tryd.sizeOf3 rfl rfl) ?_
         exact d_closes ⟨look_b rfl rfl, trivial⟩ 6 rfl rfl rfl hS (AgreeR.refl _) (t_sat (fun _ h => h) (hK () trivial))
        · -- 7
         rintro _ S hF hS D hp K hK
         try dsimp only at hF ⊢
         have s6 := hp 6 rfl
         refine d_need (small := [(35, (.pointer (some ⟨b10, 2, none⟩)))]) ⟨look_row rfl 6 rfl s6, trivial⟩ ?_
         refine tp rfl (lv_load Tryd.isAgg3 rfl (gives_blk (.tail _ (.tail _ (.head _))) rfl)) ?_
         exact d_closes ⟨look_row rfl 6 rfl s6, trivial⟩ 7 rfl rfl rfl hS (AgreeR.refl _) (t_sat (fun _ h => h) (hK () trivial))
        · -- 8
         rintro _ S hF hS D hp K hK
         try dsimp only at hF ⊢
         have s5 := hp 5 rfl
         have s7 := hp 7 rfl
         refine d_need (small := [(34, (.int .i64 ((innP ((reachL N E (rs.getD k R3.d).x).take j) (rs.getD k R3.d).z (ofL N E (rs.take k))).getD (((reachL N E ((rs.getD k R3.d).x)).getD j 0).toNat) 0))), (36, (.int .i64 ((rs.getD k R3.d).z)))]) ⟨look_row rfl 5 rfl s5, look_row rfl 7 rfl s7, trivial⟩ ?_
         refine tp rfl (lv_max (c := max ((innP ((reachL N E (rs.getD k R3.d).x).take j) (rs.getD k R3.d).z (ofL N E (rs.take k))).getD (((reachL N E ((rs.getD k R3.d).x)).getD j 0).toNat) 0) ((rs.getD k R3.d).z)) rfl rfl rfl) ?_
         exact d_closes ⟨look_row rfl 5 rfl s5, look_row rfl 7 rfl s7, trivial⟩ 8 rfl rfl rfl hS (AgreeR.refl _) (t_sat (fun _ h => h) (hK () trivial))
        · -- 9
         rintro _ S hF hS D hp K hK
         try dsimp only at hF ⊢
         have s0 := hp 0 rfl
         have s1 := hp 1 rfl
         refine d_need (small := [(29, (.slice bs5 N cp6)), (30, (.int .i64 ((reachL N E ((rs.getD k R3.d).x)).getD j 0)))]) ⟨look_row rfl 0 rfl s0, look_row rfl 1 rfl s1, trivial⟩ ?_
         refine tp rfl (lv_indexAddr (k' := ((reachL N E ((rs.getD k R3.d).x)).getD j 0).toNat) Tryd.underlying38 Tryd.sizeOf3 rfl rfl hok7 (by omega) (by omega) (by omega)) ?_
         exact d_closes ⟨look_row rfl 0 rfl s0, look_row rfl 1 rfl s1, trivial⟩ 9 rfl rfl rfl hS (AgreeR.refl _) (t_sat (fun _ h => h) (hK () trivial))
        · -- 10
         rintro _ S hF hS D hp K hK
         try dsimp only at hF ⊢
         have s8 := hp 8 rfl
         have s9 := hp 9 rfl
         refine d_need (small := [(37, (.int .i64 (max ((innP ((reachL N E (rs.getD k R3.d).x).take j) (rs.getD k R3.d).z (ofL N E (rs.take k))).getD (((reachL N E ((rs.getD k R3.d).x)).getD j 0).toNat) 0) ((rs.getD k R3.d).z)))), (38, (.pointer (some (ad bs5 (((reachL N E ((rs.getD k R3.d).x)).getD j 0).toNat)))))]) ⟨look_row rfl 8 rfl s8, look_row rfl 9 rfl s9, trivial⟩ ?_
         refine t_f3 ?_
         refine t_cF hS ?_
         refine ts (sv_sl Tryd.sizeOf3 rfl rfl rfl (by rw [ints_length]; omega) ints_set) ?_
         refine t_f3 ?_
         refine t_f3 ?_
         refine t_f3 ?_
         exact d_closes0 ⟨look_row rfl 8 rfl s8, look_row rfl 9 rfl s9, trivial⟩ rfl (t_sat (fun _ h => h) (hK () trivial))
      · -- behind
        rintro _ hF
        try dsimp only at hF ⊢
        refine t_weak (E' := [(0, (.pointer (some ⟨g, 0, none⟩))), (1, (.slice bl nr cl)), (4, (.slice none 0 0)), (5, (.slice bs5 N cp6)), (7, (.pointer (some ⟨b10, 0, none⟩))), (9, (.int .i64 ((reachL N E ((rs.getD k R3.d).x)).getD j 0))), (14, (.slice bl nr cl)), (15, (.int .i64 ((nr : Nat) : Int))), (16, (.int .i64 ((k : Nat) : Int))), (17, (.bool true)), (23, (.slice bs11 ((reachL N E ((rs.getD k R3.d).x)).length) cp12)), (24, (.int .i64 (((reachL N E ((rs.getD k R3.d).x)).length : Nat) : Int))), (25, (.int .i64 ((j : Nat) : Int))), (26, (.bool true))]) ⟨rfl, rfl, rfl, rfl, rfl, rfl, rfl, rfl, rfl, rfl, rfl, rfl, rfl, rfl, trivial⟩ ?_
        refine q_in_n ?_
        refine q_then_n (hK14 _ _ ?_)
        refine c_region ?_
        refine tp rfl (lv_add (c := ((j + 1 : Nat) : Int)) rfl rfl (wr_i64_succ (by omega))) ?_
        refine tp rfl (lv_move rfl) ?_
        refine t_done ?_
        refine q_then_n ?_
        rw [show ((innP ((reachL N E (rs.getD k R3.d).x).take j) (rs.getD k R3.d).z (ofL N E (rs.take k)))).set (((reachL N E ((rs.getD k R3.d).x)).getD j 0).toNat) (max ((innP ((reachL N E (rs.getD k R3.d).x).take j) (rs.getD k R3.d).z (ofL N E (rs.take k))).getD (((reachL N E ((rs.getD k R3.d).x)).getD j 0).toNat) 0) ((rs.getD k R3.d).z)) = innP ((reachL N E (rs.getD k R3.d).x).take (j + 1)) (rs.getD k R3.d).z (ofL N E (rs.take k)) from (innP_succ (by omega) _ _).symm]
        exact t_weak (by exact ⟨rfl, rfl, rfl, rfl, rfl, rfl, rfl, rfl, rfl, rfl, rfl, rfl, trivial⟩) ((hK11 (j + 1) (by omega) (by omega)))
    · -- no
      refine tp rfl (lv_lss rfl rfl (decide_eq_false h15)) ?_
      refine t_done ?_
      refine q_then_n (hK12 _ _ ?_)
      refine c_seq (fun K13 hK13 => ?_)
      refine c_false rfl ?_
      refine c_exit ?_
      refine q_then_x ?_
      refine q_then_x ?_
      refine q_in_x ?_
      refine q_in_n ?_
      refine q_then_n (hK8 _ _ ?_)
      refine c_region ?_
      refine tp rfl (lv_add (c := ((k + 1 : Nat) : Int)) rfl rfl (wr_i64_succ (by omega))) ?_
      refine tp rfl (lv_move rfl) ?_
      refine t_done ?_
      refine q_then_n ?_
      refine t_drop ?_
      refine t_f1 ?_
      refine t_drop ?_
      refine t_f1 ?_
      rw [show (reachL N E (rs.getD k R3.d).x).take j = reachL N E (rs.getD k R3.d).x from List.take_of_length_le (by omega), show innP (reachL N E (rs.getD k R3.d).x) (rs.getD k R3.d).z (ofL N E (rs.take k)) = ofL N E (rs.take (k + 1)) from of_next (by omega)]
      exact t_weak (by exact ⟨rfl, rfl, rfl, rfl, rfl, rfl, rfl, trivial⟩) ((hK5 (k + 1) (by omega) (by omega)))
  · -- no
    refine tp rfl (lv_lss rfl rfl (decide_eq_false h9)) ?_
    refine t_done ?_
    refine q_then_n (hK6 _ _ ?_)
    refine c_seq (fun K7 hK7 => ?_)
    refine c_false rfl ?_
    refine c_exit ?_
    refine q_then_x ?_
    refine q_then_x ?_
    refine q_in_x ?_
    refine q_then_n (hK3 _ _ ?_)
    refine c_seq (fun K8 hK8 => ?_)
    refine c_region ?_
    refine tp rfl (lv_move rfl) ?_
    refine tp rfl (lv_assign rfl) ?_
    refine t_done ?_
    refine q_then_n (hK8 _ _ ?_)
    refine c_ret ?_
    refine q_ret rfl rfl ?_
    rw [show rs.take k = rs from List.take_of_length_le (by omega)]
    exact ⟨_, _, hok7, hle8, rfl, rfl⟩

theorem reached_ok {R : List HP} {g N nr cl : Nat} {E : Es} {bl : Option Addr} (rs : List R3) (t : Int) (hn : rs.length = nr) (hl : Rd R bl (recs triF rs)) (okl : SlOk bl nr) (lr : nr ≤ 1000000) (hT : Tab R) :
    Ok Tryd.prog 13 [(.pointer (some ⟨g, 0, none⟩)), (.slice bl nr cl), (.int .i64 t)] ((GraphO g N E) :: R)
      (OutSl 3 1 ((rchN N E rs t nr).length) (ints .i64 (rchN N E rs t nr)) (GraphO g N E :: R)) := by
  refine ok_of (N := 27) Tryd.func13 rfl rfl rfl (fun W => ?_)
  refine c_seq (fun K1 hK1 => ?_)
  refine c_region ?_
  refine tp rfl (lv_assign rfl) ?_
  refine t_done ?_
  refine q_then_n (hK1 _ _ ?_)
  refine c_seq (fun K2 hK2 => ?_)
  refine c_seq (fun K3 hK3 => ?_)
  refine c_region ?_
  refine tp rfl (lv_move rfl) ?_
  refine tp rfl (lv_len Tryd.underlying23 rfl rfl) ?_
  refine tp rfl (lv_move rfl) ?_
  refine t_done ?_
  refine q_then_n (hK3 _ _ ?_)
  refine c_block ?_
  refine t_sat (fun _ h => sat_nilsl 3 1 h) ?_
  refine c_loop (γ := (Nat) × (List Int) × (Option Addr) × (Nat)) (fun (k, qs, bt, ct) => k ≤ nr ∧ rchN N E rs t k = qs ∧ SlOk bt qs.length ∧ qs.length ≤ ct) (fun (k, qs, bt, ct) => [(0, (.pointer (some ⟨g, 0, none⟩))), (1, (.slice bl nr cl)), (2, (.int .i64 t)), (6, (.slice bt qs.length ct)), (9, (.slice bl nr cl)), (10, (.int .i64 ((nr : Nat) : Int))), (11, (.int .i64 ((k : Nat) : Int)))]) (fun (k, qs, bt, ct) => (SlV 3 1 (.slice bt qs.length ct) qs.length (ints .i64 qs)) :: (GraphO g N E) :: R) (fun (k, qs, bt, ct) => nr - k) (0, [], none, 0) ⟨by omega, rfl, slok_none, Nat.le_refl _⟩ ⟨rfl, rfl, rfl, rfl, rfl, rfl, rfl, trivial⟩ (fun _ h => h) ?_
  rintro ⟨k, qs, bt, ct⟩ K4 hF hK4
  try dsimp only at hF hK4 ⊢
  obtain ⟨hk, hq, hok, hle⟩ := hF
  have hql := rchN_len N E rs t k
  rw [hq] at hql
  refine c_seq (fun K5 hK5 => ?_)
  refine c_region ?_
  by_cases h1 : ((k : Nat) : Int) < ((nr : Nat) : Int)
  · -- yes
    refine tp rfl (lv_lss rfl rfl (decide_eq_true h1)) ?_
    refine t_done ?_
    refine q_then_n (hK5 _ _ ?_)
    refine c_seq (fun K6 hK6 => ?_)
    refine c_true rfl ?_
    refine c_skip ?_
    refine q_then_n (hK6 _ _ ?_)
    refine c_seq (fun K7 hK7 => ?_)
    refine c_block ?_
    refine c_seq (fun K8 hK8 => ?_)
    refine c_region ?_
    refine tp rfl (lv_move rfl) ?_
    refine tp rfl (lv_indexAddr (k' := k * 3) Tryd.underlying23 Tryd.sizeOf47 rfl rfl okl (by omega) (by omega) (by omega)) ?_
    refine tp rfl (lv_loadAgg_ad (cs := [(.int .i64 ((rs.getD k R3.d).x)), (.int .i64 ((rs.getD k R3.d).y)), (.int .i64 ((rs.getD k R3.d).z))]) Tryd.isAgg47 Tryd.sizeOf47 rfl (gives_all3 (Rd.gives (Rd.cons (Rd.cons hl)) ((recs_get (k := k) (j := 0) triF_len (d := R3.d) (by first | omega | (simp; omega)) (Nat.le_of_ble_eq_true rfl)).trans rfl)) (Rd.gives (Rd.cons (Rd.cons hl)) ((recs_get (k := k) (j := 1) triF_len (d := R3.d) (by first | omega | (simp; omega)) (Nat.le_of_ble_eq_true rfl)).trans rfl)) (Rd.gives (Rd.cons (Rd.cons hl)) ((recs_get (k := k) (j := 2) triF_len (d := R3.d) (by first | omega | (simp; omega)) (Nat.le_of_ble_eq_true rfl)).trans rfl)))) ?_
    refine tm rfl (mv_alloc Tryd.zeroValue47 rfl) ?_
    rintro _ _ ⟨b2, rfl, rfl⟩
    refine tp rfl (lv_assign rfl) ?_
    refine ts (sv_blkAgg (news := [(.int .i64 ((rs.getD k R3.d).x)), (.int .i64 ((rs.getD k R3.d).y)), (.int .i64 ((rs.getD k R3.d).z))]) Tryd.sizeOf47 rfl rfl rfl rfl (Nat.le_of_ble_eq_true rfl) rfl) ?_
    refine t_done ?_
    refine q_then_n (hK8 _ _ ?_)
    refine c_seq (fun K9 hK9 => ?_)
    refine c_region ?_
    refine tp rfl (lv_move rfl) ?_
    refine tp rfl (lv_fieldAddr (o' := 0) Tryd.underlying47 rfl Tryd.sizeOf3 rfl rfl) ?_
    refine tp rfl (lv_load Tryd.isAgg3 rfl (gives_blk (.head _) rfl)) ?_
    refine tp rfl (lv_move rfl) ?_
    refine t_f2 ?_
    refine tc rfl (en_fn Tryd.call20 rfl) (reaches_ok (N := N) (es := E) ((rs.getD k R3.d).x) t (Tab.cons (Tab.cons hT))) ?_
    rintro _ _ ⟨rfl, rfl⟩
    refine t_done ?_
    refine q_then_n (hK9 _ _ ?_)
    refine c_split rfl (fun c3 => ?_) (fun c3 => ?_)
    · -- true
      refine c_region ?_
      refine tp rfl (lv_move rfl) ?_
      refine tp rfl (lv_move rfl) ?_
      refine tm rfl (mv_buildSlice (cs := [(.int .i64 ((k : Nat) : Int))]) Tryd.underlying38 Tryd.sizeOf3 Tryd.zeroValue3 (by decide) rfl rfl rfl rfl) ?_
      rintro _ _ ⟨bs4, cp5, hok6, hle7, rfl, rfl⟩
      refine t_f3 ?_
      refine tm rfl (mv_append (i := Tryd.t3) Tryd.underlying38 Tryd.type3 rfl rfl rfl (by decide) rfl rfl hok6 (by first | (simp; done) | (simp; omega)) (rd_sl (.tail _ (.head _))) (by simp [Value.oneCell']) (by rw [show Tryd.t3.bytes = 8 from rfl]; omega)) ?_
      rintro _ _ ⟨bs8, cp9, hok10, hle11, rfl, rfl⟩
      rw [show ints .i64 qs ++ [(.int .i64 ((k : Nat) : Int))] = ints .i64 (qs ++ [((k : Nat) : Int)]) from ints_snoc _ _ _]
      rw [show qs.length + 1 = (qs ++ [((k : Nat) : Int)]).length from by simp] at hok10 hle11 ⊢
      refine tp rfl (lv_assign rfl) ?_
      refine t_done ?_
      refine q_in_n ?_
      refine q_then_n (hK7 _ _ ?_)
      refine c_region ?_
      refine tp rfl (lv_add (c := ((k + 1 : Nat) : Int)) rfl rfl (wr_i64_succ (by omega))) ?_
      refine tp rfl (lv_move rfl) ?_
      refine t_done ?_
      refine q_then_n ?_
      refine t_f1 ?_
      refine t_drop ?_
      refine t_f2 ?_
      refine t_drop ?_
      exact t_weak (by exact ⟨rfl, rfl, rfl, rfl, rfl, rfl, rfl, trivial⟩) ((hK4 (k + 1, qs ++ [((k : Nat) : Int)], bs8, cp9) ⟨by omega, rch_yes hq ‹reachB N E (rs.getD k R3.d).x t = true›, hok10, hle11⟩ (by dsimp only; omega)))
    · -- false
      refine c_skip ?_
      refine q_in_n ?_
      refine q_then_n (hK7 _ _ ?_)
      refine c_region ?_
      refine tp rfl (lv_add (c := ((k + 1 : Nat) : Int)) rfl rfl (wr_i64_succ (by omega))) ?_
      refine tp rfl (lv_move rfl) ?_
      refine t_done ?_
      refine q_then_n ?_
      refine t_f1 ?_
      refine t_drop ?_
      refine t_f1 ?_
      exact t_weak (by exact ⟨rfl, rfl, rfl, rfl, rfl, rfl, rfl, trivial⟩) ((hK4 (k + 1, qs, bt, ct) ⟨by omega, rch_no hq ‹reachB N E (rs.getD k R3.d).x t = false›, hok, hle⟩ (by dsimp only; omega)))
  · -- no
    refine tp rfl (lv_lss rfl rfl (decide_eq_false h1)) ?_
    refine t_done ?_
    refine q_then_n (hK5 _ _ ?_)
    refine c_seq (fun K6 hK6 => ?_)
    refine c_false rfl ?_
    refine c_exit ?_
    refine q_then_x ?_
    refine q_then_x ?_
    refine q_in_x ?_
    refine q_then_n (hK2 _ _ ?_)
    refine c_seq (fun K7 hK7 => ?_)
    refine c_region ?_
    refine tp rfl (lv_move rfl) ?_
    refine tp rfl (lv_assign rfl) ?_
    refine t_done ?_
    refine q_then_n (hK7 _ _ ?_)
    refine c_ret ?_
    refine q_ret rfl rfl ?_
    have e : k = nr := by omega
    subst e
    rw [hq]
    exact ⟨bt, ct, hok, hle, rfl, rfl⟩
end Go.Proofs.YtlkcgpcgnhdnmaaDoor
