/- HeapPlays: the law's walk. -/
import Derived.Test.YtchnphachgcjmaaLa
import Derived.Test.YtchnphachgcjmaaRs
set_option maxRecDepth 100000
set_option linter.unusedVariables false
set_option linter.unusedSimpArgs false
namespace Go.Proofs.Ytchnphachgcjmaa
open Go Go.Proofs Sp
set_option maxHeartbeats 20000000 in
theorem plays_law {R : List HP} (n : Int) {bsb : Option Addr} {csb : Nat} (xs : List R3) (hsb : Rd R bsb (recs triF xs)) (oksb : SlOk bsb xs.length) (lsb : xs.length ≤ 9223372036854775807) :
    Ok Try.prog 8 [(.int .i64 n), (.slice bsb xs.length csb)] R
      (fun v M => v = .bool true ∧ M = R) := by
 refine ok_of (N := 209) Try.func8 rfl rfl rfl (fun W => ?_)
 refine c_seq (fun K1 hK1 => ?_)
 refine c_region ?_
 refine tp rfl (lv_assign rfl) ?_
 refine t_done ?_
 refine q_then_n (hK1 _ _ ?_)
 refine c_seq (fun K2 hK2 => ?_)
 refine c_region ?_
 refine tc rfl (en_fn Try.call11 rfl) (shown_ok) ?_
 rintro _ _ ⟨rfl, hMR⟩
 rw [hMR]; clear hMR
 refine tp rfl (lv_assign rfl) ?_
 refine t_done ?_
 refine q_then_n (hK2 _ _ ?_)
 refine c_seq (fun K3 hK3 => ?_)
 refine c_region ?_
 refine tp rfl (lv_move rfl) ?_
 refine tc rfl (en_fn Try.call12 rfl) (hnew_ok n) ?_
 rintro _ _ ⟨p1, rfl, rfl⟩
 refine tp rfl (lv_assign rfl) ?_
 refine t_done ?_
 refine q_then_n (hK3 _ _ ?_)
 refine c_seq (fun K4 hK4 => ?_)
 refine c_region ?_
 refine tp rfl (lv_move rfl) ?_
 refine tp rfl (lv_build (cs := [(.int .i64 n), (.slice none 0 0)]) (pl := [(0, 1), (1, 1)]) Try.underlying52 Try.zeroValue52 (fun _ => by simp) rfl rfl) ?_
 refine tm rfl (mv_box rfl rfl) ?_
 rintro _ _ ⟨b2, rfl, rfl⟩
 refine tp rfl (lv_assign rfl) ?_
 refine t_done ?_
 refine q_then_n (hK4 _ _ ?_)
 refine c_seq (fun K5 hK5 => ?_)
 refine c_seq (fun K6 hK6 => ?_)
 refine c_region ?_
 refine t_sat (fun _ h => sat_nilsl 54 2 h) ?_
 refine t_shutQV (N := n) (es := []) slok_none (Nat.le_refl _) ?_
 refine tp rfl (lv_move rfl) ?_
 refine tp rfl (lv_eqnil Try.underlying25 rfl rfl) ?_
 refine t_done ?_
 refine q_then_n (hK6 _ _ ?_)
 refine c_false rfl ?_
 refine c_skip ?_
 refine q_then_n (hK5 _ _ ?_)
 refine c_seq (fun K7 hK7 => ?_)
 refine c_seq (fun K8 hK8 => ?_)
 refine c_region ?_
 refine tp rfl (lv_assign rfl) ?_
 refine t_done ?_
 refine q_then_n (hK8 _ _ ?_)
 refine c_block ?_
 refine c_loop (γ := (Nat) × (Ks) × (List (Int × Int))) (fun (i, ks, es) => i ≤ xs.length ∧ i ≤ 200 ∧ PRow es ks ∧ ks.length = hclamp n) (fun (i, ks, es) => [(0, (.int .i64 n)), (1, (.slice bsb xs.length csb)), (5, (.bool true)), (6, (.pointer (some ⟨p1, 0, none⟩))), (7, (.pointer (some ⟨b2, 0, none⟩))), (8, (.int .i64 ((i : Nat) : Int))), (36, (.bool false))]) (fun (i, ks, es) => (RowQ 52 54 b2 n es) :: (HeapO p1 (hclamp n) ks) :: R) (fun (i, ks, es) => xs.length - i) (0, List.replicate (hclamp n) none, ([] : List (Int × Int))) ⟨by omega, by omega, PRow.nil _, List.length_replicate⟩ ⟨rfl, rfl, rfl, rfl, rfl, rfl, rfl, trivial⟩ (fun _ h => h) ?_
 rintro ⟨i, ks, es⟩ K9 hF hK9
 try dsimp only at hF hK9 ⊢
 obtain ⟨hi, hi2, hrow, hkl⟩ := hF
 have hrl := hrow.le
 have hhc := hclamp_le n
 have hes : es.length ≤ 65536 := by omega
 refine c_seq (fun K10 hK10 => ?_)
 refine c_seq (fun K11 hK11 => ?_)
 refine c_region ?_
 by_cases hc3 : ((i : Nat) : Int) < ((xs.length : Nat) : Int) ∧ ((i : Nat) : Int) < 200
 · -- both
  have hc3a := hc3.1
  have hc3b := hc3.2
  refine tp rfl (lv_move rfl) ?_
  refine tp rfl (lv_move rfl) ?_
  refine tp rfl (lv_len Try.underlying42 rfl rfl) ?_
  refine tp rfl (lv_lss rfl rfl (decide_eq_true hc3.1)) ?_
  refine tp rfl (lv_move rfl) ?_
  refine t_guard rfl rfl ?_
  refine tp rfl (lv_move rfl) ?_
  refine t_guard rfl rfl ?_
  refine tp rfl (lv_lss rfl rfl (decide_eq_true hc3.2)) ?_
  refine tp rfl (lv_pick_t rfl rfl) ?_
  refine t_done ?_
  refine q_then_n (hK11 _ _ ?_)
  refine c_true rfl ?_
  refine c_skip ?_
  refine q_then_n (hK10 _ _ ?_)
  refine c_seq (fun K12 hK12 => ?_)
  refine c_block ?_
  refine c_seq (fun K13 hK13 => ?_)
  refine c_region ?_
  refine tp rfl (lv_move rfl) ?_
  refine tp rfl (lv_move rfl) ?_
  refine tp rfl (lv_indexAddr (k' := i * 3) Try.underlying42 Try.sizeOf47 rfl rfl oksb (by omega) (by omega) (by omega)) ?_
  refine tp rfl (lv_loadAgg_ad (cs := [(.int .i64 ((xs.getD i R3.d).x)), (.int .i64 ((xs.getD i R3.d).y)), (.int .i64 ((xs.getD i R3.d).z))]) Try.isAgg47 Try.sizeOf47 rfl (gives_all3 (Rd.gives (Rd.cons (Rd.cons hsb)) ((recs_get (k := i) (j := 0) triF_len (d := R3.d) (by omega) (Nat.le_of_ble_eq_true rfl)).trans rfl)) (Rd.gives (Rd.cons (Rd.cons hsb)) ((recs_get (k := i) (j := 1) triF_len (d := R3.d) (by omega) (Nat.le_of_ble_eq_true rfl)).trans rfl)) (Rd.gives (Rd.cons (Rd.cons hsb)) ((recs_get (k := i) (j := 2) triF_len (d := R3.d) (by omega) (Nat.le_of_ble_eq_true rfl)).trans rfl)))) ?_
  refine tm rfl (mv_alloc Try.zeroValue47 rfl) ?_
  rintro _ _ ⟨b4, rfl, rfl⟩
  refine ts (sv_blkAgg (news := [(.int .i64 ((xs.getD i R3.d).x)), (.int .i64 ((xs.getD i R3.d).y)), (.int .i64 ((xs.getD i R3.d).z))]) Try.sizeOf47 rfl rfl rfl rfl (Nat.le_of_ble_eq_true rfl) rfl) ?_
  refine t_done ?_
  refine q_then_n (hK13 _ _ ?_)
  refine c_seq (fun K14 hK14 => ?_)
  refine c_region ?_
  obtain ⟨xx, hxx⟩ : ∃ x9, (xs.getD i R3.d).x = x9 := ⟨_, rfl⟩
  rw [hxx]
  obtain ⟨xy, hxy⟩ : ∃ x9, (xs.getD i R3.d).y = x9 := ⟨_, rfl⟩
  rw [hxy]
  obtain ⟨xz, hxz⟩ : ∃ x9, (xs.getD i R3.d).z = x9 := ⟨_, rfl⟩
  rw [hxz]
  refine tp rfl (lv_assign rfl) ?_
  refine t_done ?_
  refine q_then_n (hK14 _ _ ?_)
  refine c_seq (fun K15 hK15 => ?_)
  have hM15 : ∀ (k2 : Ks) (e2 : List (Int × Int)), PRow e2 k2 ∧ k2.length = hclamp n → Tri K15 W 209 [(0, (.int .i64 n)), (1, (.slice bsb xs.length csb)), (5, (.bool true)), (6, (.pointer (some ⟨p1, 0, none⟩))), (7, (.pointer (some ⟨b2, 0, none⟩))), (8, (.int .i64 ((i : Nat) : Int))), (9, (.pointer (some ⟨b4, 0, none⟩))), (10, (.bool true)), (36, (.bool false)), (44, (.bool true))] ((Blk b4 [(.int .i64 xx), (.int .i64 xy), (.int .i64 xz)] 47) :: (RowQ 52 54 b2 n e2) :: (HeapO p1 (hclamp n) k2) :: R) := by
   rintro k2 e2 hF
   obtain ⟨hrow2, hkl2⟩ := hF
   have hrl2 := hrow2.le
   have hes2 : e2.length ≤ 65536 := by omega
   have hlen : ((cntK k2 : Nat) : Int) = ((e2.length : Nat) : Int) := congrArg _ hrow2.len.symm
   refine hK15 _ _ ?_
   refine c_seq (fun K16 hK16 => ?_)
   refine c_region ?_
   refine tp rfl (lv_move rfl) ?_
   refine t_f2 ?_
   refine tc rfl (en_fn Try.call19 rfl) (hfst_ok (n := hclamp n) (ks := k2) ) ?_
   rintro _ _ ⟨rfl, rfl⟩
   refine tp rfl (lv_move rfl) ?_
   refine tp rfl (lv_extract rfl rfl) ?_
   refine tp rfl (lv_extract rfl rfl) ?_
   refine tp rfl (lv_extract rfl rfl) ?_
   refine tp rfl (lv_assign rfl) ?_
   refine tp rfl (lv_assign rfl) ?_
   refine tp rfl (lv_assign rfl) ?_
   refine t_done ?_
   refine q_then_n (hK16 _ _ ?_)
   refine c_seq (fun K17 hK17 => ?_)
   refine c_region ?_
   refine tp rfl (lv_move rfl) ?_
   refine t_f2 ?_
   refine tc rfl (en_fn Try.call24 rfl) (rfirst_all hes2 hrow2 ) ?_
   rintro _ _ ⟨rfl, rfl⟩
   refine tp rfl (lv_move rfl) ?_
   refine tp rfl (lv_extract rfl rfl) ?_
   refine tp rfl (lv_extract rfl rfl) ?_
   refine tm rfl (mv_alloc Try.zeroValue54 rfl) ?_
   rintro _ _ ⟨b5, rfl, rfl⟩
   refine ts (sv_blkAgg (news := [(.int .i64 (fstI k2)), (.int .i64 (fstV k2))]) Try.sizeOf54 rfl rfl rfl rfl (Nat.le_of_ble_eq_true rfl) rfl) ?_
   refine tp rfl (lv_assign rfl) ?_
   refine t_done ?_
   refine q_then_n (hK17 _ _ ?_)
   refine c_seq (fun K18 hK18 => ?_)
   refine c_region ?_
   refine tp rfl (lv_move rfl) ?_
   refine tp rfl (lv_fieldAddr (o' := 1) Try.underlying47 rfl Try.sizeOf3 rfl rfl) ?_
   refine tp rfl (lv_load Try.isAgg3 rfl (gives_blk (.tail _ (.tail _ (.tail _ (.head _)))) rfl)) ?_
   refine t_f2 ?_
   refine tc rfl (en_fn Try.call25 rfl) (hkey_ok (n := hclamp n) (ks := k2) xy) ?_
   rintro _ _ ⟨rfl, rfl⟩
   refine tp rfl (lv_move rfl) ?_
   refine tp rfl (lv_extract rfl rfl) ?_
   refine tp rfl (lv_extract rfl rfl) ?_
   refine tp rfl (lv_assign rfl) ?_
   refine tp rfl (lv_assign rfl) ?_
   refine t_done ?_
   refine q_then_n (hK18 _ _ ?_)
   refine c_seq (fun K19 hK19 => ?_)
   refine c_region ?_
   refine tp rfl (lv_move rfl) ?_
   refine tp rfl (lv_fieldAddr (o' := 1) Try.underlying47 rfl Try.sizeOf3 rfl rfl) ?_
   refine tp rfl (lv_load Try.isAgg3 rfl (gives_blk (.tail _ (.tail _ (.tail _ (.head _)))) rfl)) ?_
   refine t_f2 ?_
   refine tc rfl (en_fn Try.call26 rfl) (rkey_all hes2 hrow2 xy) ?_
   rintro _ _ ⟨rfl, rfl⟩
   refine tp rfl (lv_move rfl) ?_
   refine tp rfl (lv_extract rfl rfl) ?_
   refine tp rfl (lv_extract rfl rfl) ?_
   refine tp rfl (lv_assign rfl) ?_
   refine tp rfl (lv_assign rfl) ?_
   refine t_done ?_
   refine q_then_n (hK19 _ _ ?_)
   refine c_seq (fun K20 hK20 => ?_)
   refine t_openQ (fun bs6 cp7 hok8 hle9 => ?_)
   refine c_draw (γ := Unit) (n := 47) Try.mixed rfl rfl (fun _ S => True) (fun _ => [(0, 161, (.bool true)), (1, 162, (.bool false)), (2, 163, (.bool false)), (3, 164, (.int .i64 (fstI k2))), (4, 165, (.pointer (some ⟨b5, 0, none⟩))), (5, 166, (.int .i64 (fstI k2))), (6, 167, (.bool false)), (7, 168, (.bool false)), (8, 169, (.bool false)), (9, 170, (.int .i64 (fstV k2))), (10, 171, (.pointer (some ⟨b5, 1, none⟩))), (11, 172, (.int .i64 (fstV k2))), (12, 173, (.bool false)), (13, 174, (.bool false)), (14, 175, (.bool false)), (15, 176, (.bool (fstB k2))), (16, 177, (.bool (fstB k2))), (17, 178, (.bool false)), (18, 179, (.bool false)), (19, 180, (.bool false)), (20, 181, (.int .i64 (keyK k2 xy))), (21, 182, (.int .i64 (keyK k2 xy))), (22, 183, (.bool false)), (23, 184, (.bool false)), (24, 185, (.bool false)), (25, 186, (.bool (hasK k2 xy))), (26, 187, (.bool (hasK k2 xy))), (27, 188, (.bool false)), (28, 189, (.bool false)), (29, 190, (.bool false)), (30, 191, (.pointer (some ⟨p1, 0, none⟩))), (31, 192, (.pointer (some ⟨b4, 1, none⟩))), (32, 193, (.int .i64 xy)), (33, 194, (.bool (hasK k2 xy))), (34, 195, (.bool (hasK k2 xy))), (35, 196, (.bool false)), (36, 197, (.bool false)), (37, 198, (.bool false)), (38, 199, (.pointer (some ⟨p1, 0, none⟩))), (39, 200, (.int .i64 ((cntK k2 : Nat) : Int))), (40, 201, (.pointer (some ⟨b2, 0, none⟩))), (41, 202, (.pointer (some ⟨b2, 0, none⟩))), (42, 203, (.pointer (some ⟨b2, 1, none⟩))), (43, 204, (.slice bs6 e2.length cp7)), (44, 205, (.int .i64 ((e2.length : Nat) : Int))), (45, 206, (.bool false)), (46, 207, (.bool false))]) (fun _ S => (Blk b2 [(.int .i64 n), (.slice bs6 e2.length cp7)] 52) :: (SlV 54 2 (.slice bs6 e2.length cp7) e2.length (recs pairQ e2)) :: (HeapO p1 (hclamp n) k2) :: (Blk b5 [(.int .i64 (fstI k2)), (.int .i64 (fstV k2))] 54) :: (Blk b4 [(.int .i64 xx), (.int .i64 xy), (.int .i64 xz)] 47) :: R) (()) trivial (fun _ h => h) (fun _ _ h => h) ?_ ?_
   · -- steps
    refine ⟨?_, ?_, ?_, ?_, ?_, ?_, ?_, ?_, ?_, ?_, ?_, ?_, ?_, ?_, ?_, ?_, ?_, ?_, ?_, ?_, ?_, ?_, ?_, ?_, ?_, ?_, ?_, ?_, ?_, ?_, ?_, ?_, ?_, ?_, ?_, ?_, ?_, ?_, ?_, ?_, ?_, ?_, ?_, ?_, ?_, ?_, ?_, trivial⟩
    · -- 0
     rintro _ S hF hS D hp K hK
     try dsimp only at hF ⊢
     refine d_need (small := [(10, (.bool true))]) ⟨look_b rfl rfl, trivial⟩ ?_
     refine tp rfl (lv_move rfl) ?_
     exact d_closes ⟨look_b rfl rfl, trivial⟩ 0 rfl rfl rfl hS (AgreeR.refl _) (t_sat (fun _ h => h) (hK () trivial))
    · -- 1
     rintro _ S hF hS D hp K hK
     try dsimp only at hF ⊢
     have s0 := hp 0 rfl
     refine d_need (small := [(161, (.bool true))]) ⟨look_row rfl 0 rfl s0, trivial⟩ ?_
     refine tp rfl (lv_not (c := false) rfl rfl) ?_
     exact d_closes ⟨look_row rfl 0 rfl s0, trivial⟩ 1 rfl rfl rfl hS (AgreeR.refl _) (t_sat (fun _ h => h) (hK () trivial))
    · -- 2
     rintro _ S hF hS D hp K hK
     try dsimp only at hF ⊢
     have s1 := hp 1 rfl
     refine d_need (small := [(162, (.bool false))]) ⟨look_row rfl 1 rfl s1, trivial⟩ ?_
     refine tp rfl (lv_move rfl) ?_
     exact d_closes ⟨look_row rfl 1 rfl s1, trivial⟩ 2 rfl rfl rfl hS (AgreeR.refl _) (t_sat (fun _ h => h) (hK () trivial))
    · -- 3
     rintro _ S hF hS D hp K hK
     try dsimp only at hF ⊢
     have s2 := hp 2 rfl
     refine d_need (small := [(20, (.int .i64 (fstI k2))), (163, (.bool false))]) ⟨look_b rfl rfl, look_row rfl 2 rfl s2, trivial⟩ ?_
     refine t_guard rfl rfl ?_
     refine tp rfl (lv_move rfl) ?_
     exact d_closes ⟨look_b rfl rfl, look_row rfl 2 rfl s2, trivial⟩ 3 rfl rfl rfl hS (AgreeR.refl _) (t_sat (fun _ h => h) (hK () trivial))
    · -- 4
     rintro _ S hF hS D hp K hK
     try dsimp only at hF ⊢
     have s2 := hp 2 rfl
     refine d_need (small := [(23, (.pointer (some ⟨b5, 0, none⟩))), (163, (.bool false))]) ⟨look_b rfl rfl, look_row rfl 2 rfl s2, trivial⟩ ?_
     refine t_guard rfl rfl ?_
     refine tp rfl (lv_fieldAddr (o' := 0) Try.underlying54 rfl Try.sizeOf3 rfl rfl) ?_
     exact d_closes ⟨look_b rfl rfl, look_row rfl 2 rfl s2, trivial⟩ 4 rfl rfl rfl hS (AgreeR.refl _) (t_sat (fun _ h => h) (hK () trivial))
    · -- 5
     rintro _ S hF hS D hp K hK
     try dsimp only at hF ⊢
     have s2 := hp 2 rfl
     have s4 := hp 4 rfl
     refine d_need (small := [(163, (.bool false)), (165, (.pointer (some ⟨b5, 0, none⟩)))]) ⟨look_row rfl 2 rfl s2, look_row rfl 4 rfl s4, trivial⟩ ?_
     refine t_guard rfl rfl ?_
     refine tp rfl (lv_load Try.isAgg3 rfl (gives_blk (.tail _ (.tail _ (.tail _ (.head _)))) rfl)) ?_
     exact d_closes ⟨look_row rfl 2 rfl s2, look_row rfl 4 rfl s4, trivial⟩ 5 rfl rfl rfl hS (AgreeR.refl _) (t_sat (fun _ h => h) (hK () trivial))
    · -- 6
     rintro _ S hF hS D hp K hK
     try dsimp only at hF ⊢
     have s2 := hp 2 rfl
     have s3 := hp 3 rfl
     have s5 := hp 5 rfl
     refine d_need (small := [(163, (.bool false)), (164, (.int .i64 (fstI k2))), (166, (.int .i64 (fstI k2)))]) ⟨look_row rfl 2 rfl s2, look_row rfl 3 rfl s3, look_row rfl 5 rfl s5, trivial⟩ ?_
     refine t_guard rfl rfl ?_
     refine tp rfl (lv_neq rfl rfl (bne_eq_false_iff_eq.2 rfl)) ?_
     exact d_closes ⟨look_row rfl 2 rfl s2, look_row rfl 3 rfl s3, look_row rfl 5 rfl s5, trivial⟩ 6 rfl rfl rfl hS (AgreeR.refl _) (t_sat (fun _ h => h) (hK () trivial))
    · -- 7
     rintro _ S hF hS D hp K hK
     try dsimp only at hF ⊢
     have s2 := hp 2 rfl
     have s6 := hp 6 rfl
     refine d_need (small := [(163, (.bool false)), (167, (.bool false))]) ⟨look_row rfl 2 rfl s2, look_row rfl 6 rfl s6, trivial⟩ ?_
     refine tp rfl (lv_pick_f rfl rfl) ?_
     exact d_closes ⟨look_row rfl 2 rfl s2, look_row rfl 6 rfl s6, trivial⟩ 7 rfl rfl rfl hS (AgreeR.refl _) (t_sat (fun _ h => h) (hK () trivial))
    · -- 8
     rintro _ S hF hS D hp K hK
     try dsimp only at hF ⊢
     have s7 := hp 7 rfl
     refine d_need (small := [(168, (.bool false))]) ⟨look_row rfl 7 rfl s7, trivial⟩ ?_
     refine tp rfl (lv_move rfl) ?_
     exact d_closes ⟨look_row rfl 7 rfl s7, trivial⟩ 8 rfl rfl rfl hS (AgreeR.refl _) (t_sat (fun _ h => h) (hK () trivial))
    · -- 9
     rintro _ S hF hS D hp K hK
     try dsimp only at hF ⊢
     have s8 := hp 8 rfl
     refine d_need (small := [(21, (.int .i64 (fstV k2))), (169, (.bool false))]) ⟨look_b rfl rfl, look_row rfl 8 rfl s8, trivial⟩ ?_
     refine t_guard rfl rfl ?_
     refine tp rfl (lv_move rfl) ?_
     exact d_closes ⟨look_b rfl rfl, look_row rfl 8 rfl s8, trivial⟩ 9 rfl rfl rfl hS (AgreeR.refl _) (t_sat (fun _ h => h) (hK () trivial))
    · -- 10
     rintro _ S hF hS D hp K hK
     try dsimp only at hF ⊢
     have s8 := hp 8 rfl
     refine d_need (small := [(23, (.pointer (some ⟨b5, 0, none⟩))), (169, (.bool false))]) ⟨look_b rfl rfl, look_row rfl 8 rfl s8, trivial⟩ ?_
     refine t_guard rfl rfl ?_
     refine tp rfl (lv_fieldAddr (o' := 1) Try.underlying54 rfl Try.sizeOf3 rfl rfl) ?_
     exact d_closes ⟨look_b rfl rfl, look_row rfl 8 rfl s8, trivial⟩ 10 rfl rfl rfl hS (AgreeR.refl _) (t_sat (fun _ h => h) (hK () trivial))
    · -- 11
     rintro _ S hF hS D hp K hK
     try dsimp only at hF ⊢
     have s8 := hp 8 rfl
     have s10 := hp 10 rfl
     refine d_need (small := [(169, (.bool false)), (171, (.pointer (some ⟨b5, 1, none⟩)))]) ⟨look_row rfl 8 rfl s8, look_row rfl 10 rfl s10, trivial⟩ ?_
     refine t_guard rfl rfl ?_
     refine tp rfl (lv_load Try.isAgg3 rfl (gives_blk (.tail _ (.tail _ (.tail _ (.head _)))) rfl)) ?_
     exact d_closes ⟨look_row rfl 8 rfl s8, look_row rfl 10 rfl s10, trivial⟩ 11 rfl rfl rfl hS (AgreeR.refl _) (t_sat (fun _ h => h) (hK () trivial))
    · -- 12
     rintro _ S hF hS D hp K hK
     try dsimp only at hF ⊢
     have s8 := hp 8 rfl
     have s9 := hp 9 rfl
     have s11 := hp 11 rfl
     refine d_need (small := [(169, (.bool false)), (170, (.int .i64 (fstV k2))), (172, (.int .i64 (fstV k2)))]) ⟨look_row rfl 8 rfl s8, look_row rfl 9 rfl s9, look_row rfl 11 rfl s11, trivial⟩ ?_
     refine t_guard rfl rfl ?_
     refine tp rfl (lv_neq rfl rfl (bne_eq_false_iff_eq.2 rfl)) ?_
     exact d_closes ⟨look_row rfl 8 rfl s8, look_row rfl 9 rfl s9, look_row rfl 11 rfl s11, trivial⟩ 12 rfl rfl rfl hS (AgreeR.refl _) (t_sat (fun _ h => h) (hK () trivial))
    · -- 13
     rintro _ S hF hS D hp K hK
     try dsimp only at hF ⊢
     have s8 := hp 8 rfl
     have s12 := hp 12 rfl
     refine d_need (small := [(169, (.bool false)), (173, (.bool false))]) ⟨look_row rfl 8 rfl s8, look_row rfl 12 rfl s12, trivial⟩ ?_
     refine tp rfl (lv_pick_f rfl rfl) ?_
     exact d_closes ⟨look_row rfl 8 rfl s8, look_row rfl 12 rfl s12, trivial⟩ 13 rfl rfl rfl hS (AgreeR.refl _) (t_sat (fun _ h => h) (hK () trivial))
    · -- 14
     rintro _ S hF hS D hp K hK
     try dsimp only at hF ⊢
     have s13 := hp 13 rfl
     refine d_need (small := [(174, (.bool false))]) ⟨look_row rfl 13 rfl s13, trivial⟩ ?_
     refine tp rfl (lv_move rfl) ?_
     exact d_closes ⟨look_row rfl 13 rfl s13, trivial⟩ 14 rfl rfl rfl hS (AgreeR.refl _) (t_sat (fun _ h => h) (hK () trivial))
    · -- 15
     rintro _ S hF hS D hp K hK
     try dsimp only at hF ⊢
     have s14 := hp 14 rfl
     refine d_need (small := [(22, (.bool (fstB k2))), (175, (.bool false))]) ⟨look_b rfl rfl, look_row rfl 14 rfl s14, trivial⟩ ?_
     refine t_guard rfl rfl ?_
     refine tp rfl (lv_move rfl) ?_
     exact d_closes ⟨look_b rfl rfl, look_row rfl 14 rfl s14, trivial⟩ 15 rfl rfl rfl hS (AgreeR.refl _) (t_sat (fun _ h => h) (hK () trivial))
    · -- 16
     rintro _ S hF hS D hp K hK
     try dsimp only at hF ⊢
     have s14 := hp 14 rfl
     refine d_need (small := [(24, (.bool (fstB k2))), (175, (.bool false))]) ⟨look_b rfl rfl, look_row rfl 14 rfl s14, trivial⟩ ?_
     refine t_guard rfl rfl ?_
     refine tp rfl (lv_move rfl) ?_
     exact d_closes ⟨look_b rfl rfl, look_row rfl 14 rfl s14, trivial⟩ 16 rfl rfl rfl hS (AgreeR.refl _) (t_sat (fun _ h => h) (hK () trivial))
    · -- 17
     rintro _ S hF hS D hp K hK
     try dsimp only at hF ⊢
     have s14 := hp 14 rfl
     have s15 := hp 15 rfl
     have s16 := hp 16 rfl
     refine d_need (small := [(175, (.bool false)), (176, (.bool (fstB k2))), (177, (.bool (fstB k2)))]) ⟨look_row rfl 14 rfl s14, look_row rfl 15 rfl s15, look_row rfl 16 rfl s16, trivial⟩ ?_
     refine t_guard rfl rfl ?_
     refine tp rfl (lv_neb Try.underlying4 rfl rfl (bne_self_eq_false _)) ?_
     exact d_closes ⟨look_row rfl 14 rfl s14, look_row rfl 15 rfl s15, look_row rfl 16 rfl s16, trivial⟩ 17 rfl rfl rfl hS (AgreeR.refl _) (t_sat (fun _ h => h) (hK () trivial))
    · -- 18
     rintro _ S hF hS D hp K hK
     try dsimp only at hF ⊢
     have s14 := hp 14 rfl
     have s17 := hp 17 rfl
     refine d_need (small := [(175, (.bool false)), (178, (.bool false))]) ⟨look_row rfl 14 rfl s14, look_row rfl 17 rfl s17, trivial⟩ ?_
     refine tp rfl (lv_pick_f rfl rfl) ?_
     exact d_closes ⟨look_row rfl 14 rfl s14, look_row rfl 17 rfl s17, trivial⟩ 18 rfl rfl rfl hS (AgreeR.refl _) (t_sat (fun _ h => h) (hK () trivial))
    · -- 19
     rintro _ S hF hS D hp K hK
     try dsimp only at hF ⊢
     have s18 := hp 18 rfl
     refine d_need (small := [(179, (.bool false))]) ⟨look_row rfl 18 rfl s18, trivial⟩ ?_
     refine tp rfl (lv_move rfl) ?_
     exact d_closes ⟨look_row rfl 18 rfl s18, trivial⟩ 19 rfl rfl rfl hS (AgreeR.refl _) (t_sat (fun _ h => h) (hK () trivial))
    · -- 20
     rintro _ S hF hS D hp K hK
     try dsimp only at hF ⊢
     have s19 := hp 19 rfl
     refine d_need (small := [(25, (.int .i64 (keyK k2 xy))), (180, (.bool false))]) ⟨look_b rfl rfl, look_row rfl 19 rfl s19, trivial⟩ ?_
     refine t_guard rfl rfl ?_
     refine tp rfl (lv_move rfl) ?_
     exact d_closes ⟨look_b rfl rfl, look_row rfl 19 rfl s19, trivial⟩ 20 rfl rfl rfl hS (AgreeR.refl _) (t_sat (fun _ h => h) (hK () trivial))
    · -- 21
     rintro _ S hF hS D hp K hK
     try dsimp only at hF ⊢
     have s19 := hp 19 rfl
     refine d_need (small := [(27, (.int .i64 (keyK k2 xy))), (180, (.bool false))]) ⟨look_b rfl rfl, look_row rfl 19 rfl s19, trivial⟩ ?_
     refine t_guard rfl rfl ?_
     refine tp rfl (lv_move rfl) ?_
     exact d_closes ⟨look_b rfl rfl, look_row rfl 19 rfl s19, trivial⟩ 21 rfl rfl rfl hS (AgreeR.refl _) (t_sat (fun _ h => h) (hK () trivial))
    · -- 22
     rintro _ S hF hS D hp K hK
     try dsimp only at hF ⊢
     have s19 := hp 19 rfl
     have s20 := hp 20 rfl
     have s21 := hp 21 rfl
     refine d_need (small := [(180, (.bool false)), (181, (.int .i64 (keyK k2 xy))), (182, (.int .i64 (keyK k2 xy)))]) ⟨look_row rfl 19 rfl s19, look_row rfl 20 rfl s20, look_row rfl 21 rfl s21, trivial⟩ ?_
     refine t_guard rfl rfl ?_
     refine tp rfl (lv_neq rfl rfl (bne_eq_false_iff_eq.2 rfl)) ?_
     exact d_closes ⟨look_row rfl 19 rfl s19, look_row rfl 20 rfl s20, look_row rfl 21 rfl s21, trivial⟩ 22 rfl rfl rfl hS (AgreeR.refl _) (t_sat (fun _ h => h) (hK () trivial))
    · -- 23
     rintro _ S hF hS D hp K hK
     try dsimp only at hF ⊢
     have s19 := hp 19 rfl
     have s22 := hp 22 rfl
     refine d_need (small := [(180, (.bool false)), (183, (.bool false))]) ⟨look_row rfl 19 rfl s19, look_row rfl 22 rfl s22, trivial⟩ ?_
     refine tp rfl (lv_pick_f rfl rfl) ?_
     exact d_closes ⟨look_row rfl 19 rfl s19, look_row rfl 22 rfl s22, trivial⟩ 23 rfl rfl rfl hS (AgreeR.refl _) (t_sat (fun _ h => h) (hK () trivial))
    · -- 24
     rintro _ S hF hS D hp K hK
     try dsimp only at hF ⊢
     have s23 := hp 23 rfl
     refine d_need (small := [(184, (.bool false))]) ⟨look_row rfl 23 rfl s23, trivial⟩ ?_
     refine tp rfl (lv_move rfl) ?_
     exact d_closes ⟨look_row rfl 23 rfl s23, trivial⟩ 24 rfl rfl rfl hS (AgreeR.refl _) (t_sat (fun _ h => h) (hK () trivial))
    · -- 25
     rintro _ S hF hS D hp K hK
     try dsimp only at hF ⊢
     have s24 := hp 24 rfl
     refine d_need (small := [(26, (.bool (hasK k2 xy))), (185, (.bool false))]) ⟨look_b rfl rfl, look_row rfl 24 rfl s24, trivial⟩ ?_
     refine t_guard rfl rfl ?_
     refine tp rfl (lv_move rfl) ?_
     exact d_closes ⟨look_b rfl rfl, look_row rfl 24 rfl s24, trivial⟩ 25 rfl rfl rfl hS (AgreeR.refl _) (t_sat (fun _ h => h) (hK () trivial))
    · -- 26
     rintro _ S hF hS D hp K hK
     try dsimp only at hF ⊢
     have s24 := hp 24 rfl
     refine d_need (small := [(28, (.bool (hasK k2 xy))), (185, (.bool false))]) ⟨look_b rfl rfl, look_row rfl 24 rfl s24, trivial⟩ ?_
     refine t_guard rfl rfl ?_
     refine tp rfl (lv_move rfl) ?_
     exact d_closes ⟨look_b rfl rfl, look_row rfl 24 rfl s24, trivial⟩ 26 rfl rfl rfl hS (AgreeR.refl _) (t_sat (fun _ h => h) (hK () trivial))
    · -- 27
     rintro _ S hF hS D hp K hK
     try dsimp only at hF ⊢
     have s24 := hp 24 rfl
     have s25 := hp 25 rfl
     have s26 := hp 26 rfl
     refine d_need (small := [(185, (.bool false)), (186, (.bool (hasK k2 xy))), (187, (.bool (hasK k2 xy)))]) ⟨look_row rfl 24 rfl s24, look_row rfl 25 rfl s25, look_row rfl 26 rfl s26, trivial⟩ ?_
     refine t_guard rfl rfl ?_
     refine tp rfl (lv_neb Try.underlying4 rfl rfl (bne_self_eq_false _)) ?_
     exact d_closes ⟨look_row rfl 24 rfl s24, look_row rfl 25 rfl s25, look_row rfl 26 rfl s26, trivial⟩ 27 rfl rfl rfl hS (AgreeR.refl _) (t_sat (fun _ h => h) (hK () trivial))
    · -- 28
     rintro _ S hF hS D hp K hK
     try dsimp only at hF ⊢
     have s24 := hp 24 rfl
     have s27 := hp 27 rfl
     refine d_need (small := [(185, (.bool false)), (188, (.bool false))]) ⟨look_row rfl 24 rfl s24, look_row rfl 27 rfl s27, trivial⟩ ?_
     refine tp rfl (lv_pick_f rfl rfl) ?_
     exact d_closes ⟨look_row rfl 24 rfl s24, look_row rfl 27 rfl s27, trivial⟩ 28 rfl rfl rfl hS (AgreeR.refl _) (t_sat (fun _ h => h) (hK () trivial))
    · -- 29
     rintro _ S hF hS D hp K hK
     try dsimp only at hF ⊢
     have s28 := hp 28 rfl
     refine d_need (small := [(189, (.bool false))]) ⟨look_row rfl 28 rfl s28, trivial⟩ ?_
     refine tp rfl (lv_move rfl) ?_
     exact d_closes ⟨look_row rfl 28 rfl s28, trivial⟩ 29 rfl rfl rfl hS (AgreeR.refl _) (t_sat (fun _ h => h) (hK () trivial))
    · -- 30
     rintro _ S hF hS D hp K hK
     try dsimp only at hF ⊢
     have s29 := hp 29 rfl
     refine d_need (small := [(6, (.pointer (some ⟨p1, 0, none⟩))), (190, (.bool false))]) ⟨look_b rfl rfl, look_row rfl 29 rfl s29, trivial⟩ ?_
     refine t_guard rfl rfl ?_
     refine tp rfl (lv_move rfl) ?_
     exact d_closes ⟨look_b rfl rfl, look_row rfl 29 rfl s29, trivial⟩ 30 rfl rfl rfl hS (AgreeR.refl _) (t_sat (fun _ h => h) (hK () trivial))
    · -- 31
     rintro _ S hF hS D hp K hK
     try dsimp only at hF ⊢
     have s29 := hp 29 rfl
     refine d_need (small := [(9, (.pointer (some ⟨b4, 0, none⟩))), (190, (.bool false))]) ⟨look_b rfl rfl, look_row rfl 29 rfl s29, trivial⟩ ?_
     refine t_guard rfl rfl ?_
     refine tp rfl (lv_fieldAddr (o' := 1) Try.underlying47 rfl Try.sizeOf3 rfl rfl) ?_
     exact d_closes ⟨look_b rfl rfl, look_row rfl 29 rfl s29, trivial⟩ 31 rfl rfl rfl hS (AgreeR.refl _) (t_sat (fun _ h => h) (hK () trivial))
    · -- 32
     rintro _ S hF hS D hp K hK
     try dsimp only at hF ⊢
     have s29 := hp 29 rfl
     have s31 := hp 31 rfl
     refine d_need (small := [(190, (.bool false)), (192, (.pointer (some ⟨b4, 1, none⟩)))]) ⟨look_row rfl 29 rfl s29, look_row rfl 31 rfl s31, trivial⟩ ?_
     refine t_guard rfl rfl ?_
     refine tp rfl (lv_load Try.isAgg3 rfl (gives_blk (.tail _ (.tail _ (.tail _ (.tail _ (.head _))))) rfl)) ?_
     exact d_closes ⟨look_row rfl 29 rfl s29, look_row rfl 31 rfl s31, trivial⟩ 32 rfl rfl rfl hS (AgreeR.refl _) (t_sat (fun _ h => h) (hK () trivial))
    · -- 33
     rintro _ S hF hS D hp K hK
     try dsimp only at hF ⊢
     have s29 := hp 29 rfl
     have s30 := hp 30 rfl
     have s32 := hp 32 rfl
     refine d_need (small := [(190, (.bool false)), (191, (.pointer (some ⟨p1, 0, none⟩))), (193, (.int .i64 xy))]) ⟨look_row rfl 29 rfl s29, look_row rfl 30 rfl s30, look_row rfl 32 rfl s32, trivial⟩ ?_
     refine t_guard rfl rfl ?_
     refine t_f2 ?_
     refine tc rfl (en_fn Try.call18 rfl) (hasK_ok (n := hclamp n) (ks := k2) xy) ?_
     rintro _ _ ⟨rfl, rfl⟩
     refine t_f2 ?_
     refine t_f2 ?_
     exact d_closes ⟨look_row rfl 29 rfl s29, look_row rfl 30 rfl s30, look_row rfl 32 rfl s32, trivial⟩ 33 rfl rfl rfl hS (AgreeR.refl _) (t_sat (fun _ h => h) (hK () trivial))
    · -- 34
     rintro _ S hF hS D hp K hK
     try dsimp only at hF ⊢
     have s29 := hp 29 rfl
     refine d_need (small := [(28, (.bool (hasK k2 xy))), (190, (.bool false))]) ⟨look_b rfl rfl, look_row rfl 29 rfl s29, trivial⟩ ?_
     refine t_guard rfl rfl ?_
     refine tp rfl (lv_move rfl) ?_
     exact d_closes ⟨look_b rfl rfl, look_row rfl 29 rfl s29, trivial⟩ 34 rfl rfl rfl hS (AgreeR.refl _) (t_sat (fun _ h => h) (hK () trivial))
    · -- 35
     rintro _ S hF hS D hp K hK
     try dsimp only at hF ⊢
     have s29 := hp 29 rfl
     have s33 := hp 33 rfl
     have s34 := hp 34 rfl
     refine d_need (small := [(190, (.bool false)), (194, (.bool (hasK k2 xy))), (195, (.bool (hasK k2 xy)))]) ⟨look_row rfl 29 rfl s29, look_row rfl 33 rfl s33, look_row rfl 34 rfl s34, trivial⟩ ?_
     refine t_guard rfl rfl ?_
     refine tp rfl (lv_neb Try.underlying4 rfl rfl (bne_self_eq_false _)) ?_
     exact d_closes ⟨look_row rfl 29 rfl s29, look_row rfl 33 rfl s33, look_row rfl 34 rfl s34, trivial⟩ 35 rfl rfl rfl hS (AgreeR.refl _) (t_sat (fun _ h => h) (hK () trivial))
    · -- 36
     rintro _ S hF hS D hp K hK
     try dsimp only at hF ⊢
     have s29 := hp 29 rfl
     have s35 := hp 35 rfl
     refine d_need (small := [(190, (.bool false)), (196, (.bool false))]) ⟨look_row rfl 29 rfl s29, look_row rfl 35 rfl s35, trivial⟩ ?_
     refine tp rfl (lv_pick_f rfl rfl) ?_
     exact d_closes ⟨look_row rfl 29 rfl s29, look_row rfl 35 rfl s35, trivial⟩ 36 rfl rfl rfl hS (AgreeR.refl _) (t_sat (fun _ h => h) (hK () trivial))
    · -- 37
     rintro _ S hF hS D hp K hK
     try dsimp only at hF ⊢
     have s36 := hp 36 rfl
     refine d_need (small := [(197, (.bool false))]) ⟨look_row rfl 36 rfl s36, trivial⟩ ?_
     refine tp rfl (lv_move rfl) ?_
     exact d_closes ⟨look_row rfl 36 rfl s36, trivial⟩ 37 rfl rfl rfl hS (AgreeR.refl _) (t_sat (fun _ h => h) (hK () trivial))
    · -- 38
     rintro _ S hF hS D hp K hK
     try dsimp only at hF ⊢
     have s37 := hp 37 rfl
     refine d_need (small := [(6, (.pointer (some ⟨p1, 0, none⟩))), (198, (.bool false))]) ⟨look_b rfl rfl, look_row rfl 37 rfl s37, trivial⟩ ?_
     refine t_guard rfl rfl ?_
     refine tp rfl (lv_move rfl) ?_
     exact d_closes ⟨look_b rfl rfl, look_row rfl 37 rfl s37, trivial⟩ 38 rfl rfl rfl hS (AgreeR.refl _) (t_sat (fun _ h => h) (hK () trivial))
    · -- 39
     rintro _ S hF hS D hp K hK
     try dsimp only at hF ⊢
     have s37 := hp 37 rfl
     have s38 := hp 38 rfl
     refine d_need (small := [(198, (.bool false)), (199, (.pointer (some ⟨p1, 0, none⟩)))]) ⟨look_row rfl 37 rfl s37, look_row rfl 38 rfl s38, trivial⟩ ?_
     refine t_guard rfl rfl ?_
     refine t_f2 ?_
     refine tc rfl (en_fn Try.call15 rfl) (hlen_ok (n := hclamp n) (ks := k2) ) ?_
     rintro _ _ ⟨rfl, rfl⟩
     refine t_f2 ?_
     refine t_f2 ?_
     exact d_closes ⟨look_row rfl 37 rfl s37, look_row rfl 38 rfl s38, trivial⟩ 39 rfl rfl rfl hS (AgreeR.refl _) (t_sat (fun _ h => h) (hK () trivial))
    · -- 40
     rintro _ S hF hS D hp K hK
     try dsimp only at hF ⊢
     have s37 := hp 37 rfl
     refine d_need (small := [(7, (.pointer (some ⟨b2, 0, none⟩))), (198, (.bool false))]) ⟨look_b rfl rfl, look_row rfl 37 rfl s37, trivial⟩ ?_
     refine t_guard rfl rfl ?_
     refine tp rfl (lv_move rfl) ?_
     exact d_closes ⟨look_b rfl rfl, look_row rfl 37 rfl s37, trivial⟩ 40 rfl rfl rfl hS (AgreeR.refl _) (t_sat (fun _ h => h) (hK () trivial))
    · -- 41
     rintro _ S hF hS D hp K hK
     try dsimp only at hF ⊢
     have s37 := hp 37 rfl
     have s40 := hp 40 rfl
     refine d_need (small := [(198, (.bool false)), (201, (.pointer (some ⟨b2, 0, none⟩)))]) ⟨look_row rfl 37 rfl s37, look_row rfl 40 rfl s40, trivial⟩ ?_
     refine t_guard rfl rfl ?_
     refine tp rfl (lv_nilCheck rfl) ?_
     exact d_closes ⟨look_row rfl 37 rfl s37, look_row rfl 40 rfl s40, trivial⟩ 41 rfl rfl rfl hS (AgreeR.refl _) (t_sat (fun _ h => h) (hK () trivial))
    · -- 42
     rintro _ S hF hS D hp K hK
     try dsimp only at hF ⊢
     have s37 := hp 37 rfl
     have s41 := hp 41 rfl
     refine d_need (small := [(198, (.bool false)), (202, (.pointer (some ⟨b2, 0, none⟩)))]) ⟨look_row rfl 37 rfl s37, look_row rfl 41 rfl s41, trivial⟩ ?_
     refine t_guard rfl rfl ?_
     refine tp rfl (lv_fieldAddr (o' := 1) Try.underlying52 rfl Try.sizeOf50 rfl rfl) ?_
     exact d_closes ⟨look_row rfl 37 rfl s37, look_row rfl 41 rfl s41, trivial⟩ 42 rfl rfl rfl hS (AgreeR.refl _) (t_sat (fun _ h => h) (hK () trivial))
    · -- 43
     rintro _ S hF hS D hp K hK
     try dsimp only at hF ⊢
     have s37 := hp 37 rfl
     have s42 := hp 42 rfl
     refine d_need (small := [(198, (.bool false)), (203, (.pointer (some ⟨b2, 1, none⟩)))]) ⟨look_row rfl 37 rfl s37, look_row rfl 42 rfl s42, trivial⟩ ?_
     refine t_guard rfl rfl ?_
     refine tp rfl (lv_load Try.isAgg50 rfl (gives_blk (.head _) rfl)) ?_
     exact d_closes ⟨look_row rfl 37 rfl s37, look_row rfl 42 rfl s42, trivial⟩ 43 rfl rfl rfl hS (AgreeR.refl _) (t_sat (fun _ h => h) (hK () trivial))
    · -- 44
     rintro _ S hF hS D hp K hK
     try dsimp only at hF ⊢
     have s37 := hp 37 rfl
     have s43 := hp 43 rfl
     refine d_need (small := [(198, (.bool false)), (204, (.slice bs6 e2.length cp7))]) ⟨look_row rfl 37 rfl s37, look_row rfl 43 rfl s43, trivial⟩ ?_
     refine t_guard rfl rfl ?_
     refine tp rfl (lv_len Try.underlying50 rfl rfl) ?_
     exact d_closes ⟨look_row rfl 37 rfl s37, look_row rfl 43 rfl s43, trivial⟩ 44 rfl rfl rfl hS (AgreeR.refl _) (t_sat (fun _ h => h) (hK () trivial))
    · -- 45
     rintro _ S hF hS D hp K hK
     try dsimp only at hF ⊢
     have s37 := hp 37 rfl
     have s39 := hp 39 rfl
     have s44 := hp 44 rfl
     refine d_need (small := [(198, (.bool false)), (200, (.int .i64 ((cntK k2 : Nat) : Int))), (205, (.int .i64 ((e2.length : Nat) : Int)))]) ⟨look_row rfl 37 rfl s37, look_row rfl 39 rfl s39, look_row rfl 44 rfl s44, trivial⟩ ?_
     refine t_guard rfl rfl ?_
     refine tp rfl (lv_neq rfl rfl (bne_eq_false_iff_eq.2 hlen)) ?_
     exact d_closes ⟨look_row rfl 37 rfl s37, look_row rfl 39 rfl s39, look_row rfl 44 rfl s44, trivial⟩ 45 rfl rfl rfl hS (AgreeR.refl _) (t_sat (fun _ h => h) (hK () trivial))
    · -- 46
     rintro _ S hF hS D hp K hK
     try dsimp only at hF ⊢
     have s37 := hp 37 rfl
     have s45 := hp 45 rfl
     refine d_need (small := [(198, (.bool false)), (206, (.bool false))]) ⟨look_row rfl 37 rfl s37, look_row rfl 45 rfl s45, trivial⟩ ?_
     refine tp rfl (lv_pick_f rfl rfl) ?_
     exact d_closes ⟨look_row rfl 37 rfl s37, look_row rfl 45 rfl s45, trivial⟩ 46 rfl rfl rfl hS (AgreeR.refl _) (t_sat (fun _ h => h) (hK () trivial))
   · -- behind
    rintro _ hF
    try dsimp only at hF ⊢
    refine t_weak (E' := [(0, (.int .i64 n)), (1, (.slice bsb xs.length csb)), (5, (.bool true)), (6, (.pointer (some ⟨p1, 0, none⟩))), (7, (.pointer (some ⟨b2, 0, none⟩))), (8, (.int .i64 ((i : Nat) : Int))), (9, (.pointer (some ⟨b4, 0, none⟩))), (10, (.bool true)), (20, (.int .i64 (fstI k2))), (21, (.int .i64 (fstV k2))), (22, (.bool (fstB k2))), (23, (.pointer (some ⟨b5, 0, none⟩))), (24, (.bool (fstB k2))), (25, (.int .i64 (keyK k2 xy))), (26, (.bool (hasK k2 xy))), (27, (.int .i64 (keyK k2 xy))), (28, (.bool (hasK k2 xy))), (36, (.bool false)), (44, (.bool true)), (207, (.bool false))]) ⟨rfl, rfl, rfl, rfl, rfl, rfl, rfl, rfl, rfl, rfl, rfl, rfl, rfl, rfl, rfl, rfl, rfl, rfl, rfl, rfl, trivial⟩ ?_
    refine q_then_n (hK20 _ _ ?_)
    refine c_false rfl ?_
    refine c_skip ?_
    refine q_in_n ?_
    refine q_then_n (hK12 _ _ ?_)
    refine c_region ?_
    refine tp rfl (lv_move rfl) ?_
    refine tp rfl (lv_add (c := ((i + 1 : Nat) : Int)) rfl rfl (wr_i64_succ (by omega))) ?_
    refine tp rfl (lv_assign rfl) ?_
    refine t_done ?_
    refine q_then_n ?_
    refine t_f1 ?_
    refine t_f1 ?_
    refine t_shutQ hok8 hle9 ?_
    refine t_f2 ?_
    refine t_drop ?_
    refine t_f2 ?_
    refine t_drop ?_
    exact t_weak (by exact ⟨rfl, rfl, rfl, rfl, rfl, rfl, rfl, trivial⟩) ((hK9 (i + 1, k2, e2) ⟨by dsimp only; omega, by dsimp only; omega, hrow2, hkl2⟩ (by dsimp only; omega)))
  refine c_seq (fun K16 hK16 => ?_)
  refine c_region ?_
  refine tp rfl (lv_fieldAddr (o' := 0) Try.underlying47 rfl Try.sizeOf3 rfl rfl) ?_
  refine tp rfl (lv_load Try.isAgg3 rfl (gives_blk (.head _) rfl)) ?_
  refine t_done ?_
  refine q_then_n (hK16 _ _ ?_)
  refine c_block ?_
  refine c_seq (fun K17 hK17 => ?_)
  refine c_seq (fun K18 hK18 => ?_)
  refine c_region ?_
  by_cases h10 : xx = 1
  · -- yes
   refine tp rfl (lv_eql rfl rfl (beq_iff_eq.2 h10)) ?_
   refine tp rfl (lv_assign rfl) ?_
   refine t_done ?_
   refine q_then_n (hK18 _ _ ?_)
   refine c_true rfl ?_
   refine c_skip ?_
   refine q_then_n (hK17 _ _ ?_)
   refine c_true rfl ?_
   refine c_draw (γ := List (Int × Int)) (n := 14) Try.mixed rfl rfl (fun (pe11 : List (Int × Int)) S => (S 11 = true → PRow pe11 (pushK ks xy xz))) (fun (pe11 : List (Int × Int)) => [(0, 56, (.pointer (some ⟨p1, 0, none⟩))), (1, 57, (.pointer (some ⟨b4, 1, none⟩))), (2, 58, (.int .i64 xy)), (3, 59, (.pointer (some ⟨b4, 2, none⟩))), (4, 60, (.int .i64 xz)), (5, 61, (.int .i64 (pushE ks xy))), (6, 62, (.pointer (some ⟨b2, 0, none⟩))), (7, 63, (.pointer (some ⟨b4, 1, none⟩))), (8, 64, (.int .i64 xy)), (9, 65, (.pointer (some ⟨b4, 2, none⟩))), (10, 66, (.int .i64 xz)), (11, 67, (.int .i64 (pushE ks xy))), (12, 68, (.bool true)), (13, 10, (.bool true))]) (fun (pe11 : List (Int × Int)) S => (Blk b4 [(.int .i64 xx), (.int .i64 xy), (.int .i64 xz)] 47) :: (bif S 11 then (RowQ 52 54 b2 n pe11) else (RowQ 52 54 b2 n es)) :: (bif S 5 then (HeapO p1 (hclamp n) (pushK ks xy xz)) else (HeapO p1 (hclamp n) ks)) :: R) ([]) (by simp [Nat.ble]) (fun _ h => h) (fun _ _ h => h) ?_ ?_
   · -- steps
    refine ⟨?_, ?_, ?_, ?_, ?_, ?_, ?_, ?_, ?_, ?_, ?_, ?_, ?_, ?_, trivial⟩
    · -- 0
     rintro pe11 S hF hS D hp K hK
     try dsimp only at hF ⊢
     have hf0 := hF
     refine d_need (small := [(6, (.pointer (some ⟨p1, 0, none⟩)))]) ⟨look_b rfl rfl, trivial⟩ ?_
     refine tp rfl (lv_move rfl) ?_
     exact d_closes ⟨look_b rfl rfl, trivial⟩ 0 rfl rfl rfl hS (AgreeR.refl _) (t_sat (fun _ h => h) (hK pe11 hf0))
    · -- 1
     rintro pe11 S hF hS D hp K hK
     try dsimp only at hF ⊢
     have hf0 := hF
     refine d_need (small := [(9, (.pointer (some ⟨b4, 0, none⟩)))]) ⟨look_b rfl rfl, trivial⟩ ?_
     refine tp rfl (lv_fieldAddr (o' := 1) Try.underlying47 rfl Try.sizeOf3 rfl rfl) ?_
     exact d_closes ⟨look_b rfl rfl, trivial⟩ 1 rfl rfl rfl hS (AgreeR.refl _) (t_sat (fun _ h => h) (hK pe11 hf0))
    · -- 2
     rintro pe11 S hF hS D hp K hK
     try dsimp only at hF ⊢
     have hf0 := hF
     have s1 := hp 1 rfl
     refine d_need (small := [(57, (.pointer (some ⟨b4, 1, none⟩)))]) ⟨look_row rfl 1 rfl s1, trivial⟩ ?_
     refine tp rfl (lv_load Try.isAgg3 rfl (gives_blk (.head _) rfl)) ?_
     exact d_closes ⟨look_row rfl 1 rfl s1, trivial⟩ 2 rfl rfl rfl hS (AgreeR.refl _) (t_sat (fun _ h => h) (hK pe11 hf0))
    · -- 3
     rintro pe11 S hF hS D hp K hK
     try dsimp only at hF ⊢
     have hf0 := hF
     refine d_need (small := [(9, (.pointer (some ⟨b4, 0, none⟩)))]) ⟨look_b rfl rfl, trivial⟩ ?_
     refine tp rfl (lv_fieldAddr (o' := 2) Try.underlying47 rfl Try.sizeOf3 rfl rfl) ?_
     exact d_closes ⟨look_b rfl rfl, trivial⟩ 3 rfl rfl rfl hS (AgreeR.refl _) (t_sat (fun _ h => h) (hK pe11 hf0))
    · -- 4
     rintro pe11 S hF hS D hp K hK
     try dsimp only at hF ⊢
     have hf0 := hF
     have s3 := hp 3 rfl
     refine d_need (small := [(59, (.pointer (some ⟨b4, 2, none⟩)))]) ⟨look_row rfl 3 rfl s3, trivial⟩ ?_
     refine tp rfl (lv_load Try.isAgg3 rfl (gives_blk (.head _) rfl)) ?_
     exact d_closes ⟨look_row rfl 3 rfl s3, trivial⟩ 4 rfl rfl rfl hS (AgreeR.refl _) (t_sat (fun _ h => h) (hK pe11 hf0))
    · -- 5
     rintro pe11 S hF hS D hp K hK
     try dsimp only at hF ⊢
     have hf0 := hF
     have s0 := hp 0 rfl
     have s2 := hp 2 rfl
     have s4 := hp 4 rfl
     refine d_need (small := [(56, (.pointer (some ⟨p1, 0, none⟩))), (58, (.int .i64 xy)), (60, (.int .i64 xz))]) ⟨look_row rfl 0 rfl s0, look_row rfl 2 rfl s2, look_row rfl 4 rfl s4, trivial⟩ ?_
     refine t_f2 ?_
     refine t_cF hS ?_
     refine tc rfl (en_fn Try.call13 rfl) (hpush_ok (n := hclamp n) (ks := ks) xy xz) ?_
     rintro _ _ ⟨rfl, rfl⟩
     refine t_f2 ?_
     refine t_f2 ?_
     exact d_closes ⟨look_row rfl 0 rfl s0, look_row rfl 2 rfl s2, look_row rfl 4 rfl s4, trivial⟩ 5 rfl rfl rfl hS (AgreeR.refl _) (t_sat (fun _ h => h) (hK pe11 hf0))
    · -- 6
     rintro pe11 S hF hS D hp K hK
     try dsimp only at hF ⊢
     have hf0 := hF
     refine d_need (small := [(7, (.pointer (some ⟨b2, 0, none⟩)))]) ⟨look_b rfl rfl, trivial⟩ ?_
     refine tp rfl (lv_move rfl) ?_
     exact d_closes ⟨look_b rfl rfl, trivial⟩ 6 rfl rfl rfl hS (AgreeR.refl _) (t_sat (fun _ h => h) (hK pe11 hf0))
    · -- 7
     rintro pe11 S hF hS D hp K hK
     try dsimp only at hF ⊢
     have hf0 := hF
     refine d_need (small := [(9, (.pointer (some ⟨b4, 0, none⟩)))]) ⟨look_b rfl rfl, trivial⟩ ?_
     refine tp rfl (lv_fieldAddr (o' := 1) Try.underlying47 rfl Try.sizeOf3 rfl rfl) ?_
     exact d_closes ⟨look_b rfl rfl, trivial⟩ 7 rfl rfl rfl hS (AgreeR.refl _) (t_sat (fun _ h => h) (hK pe11 hf0))
    · -- 8
     rintro pe11 S hF hS D hp K hK
     try dsimp only at hF ⊢
     have hf0 := hF
     have s7 := hp 7 rfl
     refine d_need (small := [(63, (.pointer (some ⟨b4, 1, none⟩)))]) ⟨look_row rfl 7 rfl s7, trivial⟩ ?_
     refine tp rfl (lv_load Try.isAgg3 rfl (gives_blk (.head _) rfl)) ?_
     exact d_closes ⟨look_row rfl 7 rfl s7, trivial⟩ 8 rfl rfl rfl hS (AgreeR.refl _) (t_sat (fun _ h => h) (hK pe11 hf0))
    · -- 9
     rintro pe11 S hF hS D hp K hK
     try dsimp only at hF ⊢
     have hf0 := hF
     refine d_need (small := [(9, (.pointer (some ⟨b4, 0, none⟩)))]) ⟨look_b rfl rfl, trivial⟩ ?_
     refine tp rfl (lv_fieldAddr (o' := 2) Try.underlying47 rfl Try.sizeOf3 rfl rfl) ?_
     exact d_closes ⟨look_b rfl rfl, trivial⟩ 9 rfl rfl rfl hS (AgreeR.refl _) (t_sat (fun _ h => h) (hK pe11 hf0))
    · -- 10
     rintro pe11 S hF hS D hp K hK
     try dsimp only at hF ⊢
     have hf0 := hF
     have s9 := hp 9 rfl
     refine d_need (small := [(65, (.pointer (some ⟨b4, 2, none⟩)))]) ⟨look_row rfl 9 rfl s9, trivial⟩ ?_
     refine tp rfl (lv_load Try.isAgg3 rfl (gives_blk (.head _) rfl)) ?_
     exact d_closes ⟨look_row rfl 9 rfl s9, trivial⟩ 10 rfl rfl rfl hS (AgreeR.refl _) (t_sat (fun _ h => h) (hK pe11 hf0))
    · -- 11
     rintro pe11 S hF hS D hp K hK
     try dsimp only at hF ⊢
     have hf0 := hF
     have s6 := hp 6 rfl
     have s8 := hp 8 rfl
     have s10 := hp 10 rfl
     refine d_need (small := [(62, (.pointer (some ⟨b2, 0, none⟩))), (64, (.int .i64 xy)), (66, (.int .i64 xz))]) ⟨look_row rfl 6 rfl s6, look_row rfl 8 rfl s8, look_row rfl 10 rfl s10, trivial⟩ ?_
     refine t_f1 ?_
     refine t_cF hS ?_
     refine tc rfl (en_fn Try.call20 rfl) (rpush_all hes hrow hkl xy xz) ?_
     rintro _ _ ⟨rfl, pe11, hq12, rfl⟩
     refine t_f1 ?_
     exact d_closes ⟨look_row rfl 6 rfl s6, look_row rfl 8 rfl s8, look_row rfl 10 rfl s10, trivial⟩ 11 rfl rfl rfl hS (by exact ⟨.inl rfl, .inl rfl, .inl rfl, .inl rfl, .inl rfl, .inl rfl, .inl rfl, .inl rfl, .inl rfl, .inl rfl, .inl rfl, .inl rfl, .inl rfl, .inl rfl, trivial⟩) (t_sat (fun _ h => h) (hK pe11 (fun _ => hq12)))
    · -- 12
     rintro pe11 S hF hS D hp K hK
     try dsimp only at hF ⊢
     have hf0 := hF
     have s5 := hp 5 rfl
     have s11 := hp 11 rfl
     refine d_need (small := [(61, (.int .i64 (pushE ks xy))), (67, (.int .i64 (pushE ks xy)))]) ⟨look_row rfl 5 rfl s5, look_row rfl 11 rfl s11, trivial⟩ ?_
     refine tp rfl (lv_eql rfl rfl (beq_iff_eq.2 rfl)) ?_
     exact d_closes ⟨look_row rfl 5 rfl s5, look_row rfl 11 rfl s11, trivial⟩ 12 rfl rfl rfl hS (AgreeR.refl _) (t_sat (fun _ h => h) (hK pe11 hf0))
    · -- 13
     rintro pe11 S hF hS D hp K hK
     try dsimp only at hF ⊢
     have hf0 := hF
     have s12 := hp 12 rfl
     refine d_need (small := [(68, (.bool true))]) ⟨look_row rfl 12 rfl s12, trivial⟩ ?_
     refine tp rfl (lv_assign rfl) ?_
     exact d_closes ⟨look_row rfl 12 rfl s12, trivial⟩ 13 rfl rfl rfl hS (AgreeR.refl _) (t_sat (fun _ h => h) (hK pe11 hf0))
   · -- behind
    rintro pe11 hF
    try dsimp only at hF ⊢
    have hf0 := hF
    have hq12 := hf0 rfl
    refine t_weak (E' := [(0, (.int .i64 n)), (1, (.slice bsb xs.length csb)), (5, (.bool true)), (6, (.pointer (some ⟨p1, 0, none⟩))), (7, (.pointer (some ⟨b2, 0, none⟩))), (8, (.int .i64 ((i : Nat) : Int))), (9, (.pointer (some ⟨b4, 0, none⟩))), (10, (.bool true)), (36, (.bool false)), (44, (.bool true)), (52, (.int .i64 xx)), (53, (.bool true))]) ⟨rfl, rfl, rfl, rfl, rfl, rfl, rfl, rfl, rfl, rfl, rfl, rfl, trivial⟩ ?_
    refine q_in_n ?_
    refine q_then_n ?_
    exact t_weak (by exact ⟨rfl, rfl, rfl, rfl, rfl, rfl, rfl, rfl, rfl, rfl, trivial⟩) (hM15 (pushK ks xy xz) pe11 ⟨hq12, (by first | exact hkl | (simp only [pushK_len', remK_len', lowK_len', pop_len]; exact hkl))⟩)
  · -- no
   refine tp rfl (lv_eql rfl rfl (beq_eq_false_iff_ne.2 h10)) ?_
   refine tp rfl (lv_assign rfl) ?_
   refine t_done ?_
   refine q_then_n (hK18 _ _ ?_)
   refine c_false rfl ?_
   refine c_region ?_
   by_cases h13 : xx = 2
   · -- yes
    refine tp rfl (lv_eql rfl rfl (beq_iff_eq.2 h13)) ?_
    refine tp rfl (lv_assign rfl) ?_
    refine t_done ?_
    refine q_then_n (hK17 _ _ ?_)
    refine c_true rfl ?_
    refine c_draw (γ := List (Int × Int)) (n := 14) Try.mixed rfl rfl (fun (pe14 : List (Int × Int)) S => (S 11 = true → PRow pe14 (pushK ks xy xz))) (fun (pe14 : List (Int × Int)) => [(0, 56, (.pointer (some ⟨p1, 0, none⟩))), (1, 57, (.pointer (some ⟨b4, 1, none⟩))), (2, 58, (.int .i64 xy)), (3, 59, (.pointer (some ⟨b4, 2, none⟩))), (4, 60, (.int .i64 xz)), (5, 61, (.int .i64 (pushE ks xy))), (6, 62, (.pointer (some ⟨b2, 0, none⟩))), (7, 63, (.pointer (some ⟨b4, 1, none⟩))), (8, 64, (.int .i64 xy)), (9, 65, (.pointer (some ⟨b4, 2, none⟩))), (10, 66, (.int .i64 xz)), (11, 67, (.int .i64 (pushE ks xy))), (12, 68, (.bool true)), (13, 10, (.bool true))]) (fun (pe14 : List (Int × Int)) S => (Blk b4 [(.int .i64 xx), (.int .i64 xy), (.int .i64 xz)] 47) :: (bif S 11 then (RowQ 52 54 b2 n pe14) else (RowQ 52 54 b2 n es)) :: (bif S 5 then (HeapO p1 (hclamp n) (pushK ks xy xz)) else (HeapO p1 (hclamp n) ks)) :: R) ([]) (by simp [Nat.ble]) (fun _ h => h) (fun _ _ h => h) ?_ ?_
    · -- steps
     refine ⟨?_, ?_, ?_, ?_, ?_, ?_, ?_, ?_, ?_, ?_, ?_, ?_, ?_, ?_, trivial⟩
     · -- 0
      rintro pe14 S hF hS D hp K hK
      try dsimp only at hF ⊢
      have hf0 := hF
      refine d_need (small := [(6, (.pointer (some ⟨p1, 0, none⟩)))]) ⟨look_b rfl rfl, trivial⟩ ?_
      refine tp rfl (lv_move rfl) ?_
      exact d_closes ⟨look_b rfl rfl, trivial⟩ 0 rfl rfl rfl hS (AgreeR.refl _) (t_sat (fun _ h => h) (hK pe14 hf0))
     · -- 1
      rintro pe14 S hF hS D hp K hK
      try dsimp only at hF ⊢
      have hf0 := hF
      refine d_need (small := [(9, (.pointer (some ⟨b4, 0, none⟩)))]) ⟨look_b rfl rfl, trivial⟩ ?_
      refine tp rfl (lv_fieldAddr (o' := 1) Try.underlying47 rfl Try.sizeOf3 rfl rfl) ?_
      exact d_closes ⟨look_b rfl rfl, trivial⟩ 1 rfl rfl rfl hS (AgreeR.refl _) (t_sat (fun _ h => h) (hK pe14 hf0))
     · -- 2
      rintro pe14 S hF hS D hp K hK
      try dsimp only at hF ⊢
      have hf0 := hF
      have s1 := hp 1 rfl
      refine d_need (small := [(57, (.pointer (some ⟨b4, 1, none⟩)))]) ⟨look_row rfl 1 rfl s1, trivial⟩ ?_
      refine tp rfl (lv_load Try.isAgg3 rfl (gives_blk (.head _) rfl)) ?_
      exact d_closes ⟨look_row rfl 1 rfl s1, trivial⟩ 2 rfl rfl rfl hS (AgreeR.refl _) (t_sat (fun _ h => h) (hK pe14 hf0))
     · -- 3
      rintro pe14 S hF hS D hp K hK
      try dsimp only at hF ⊢
      have hf0 := hF
      refine d_need (small := [(9, (.pointer (some ⟨b4, 0, none⟩)))]) ⟨look_b rfl rfl, trivial⟩ ?_
      refine tp rfl (lv_fieldAddr (o' := 2) Try.underlying47 rfl Try.sizeOf3 rfl rfl) ?_
      exact d_closes ⟨look_b rfl rfl, trivial⟩ 3 rfl rfl rfl hS (AgreeR.refl _) (t_sat (fun _ h => h) (hK pe14 hf0))
     · -- 4
      rintro pe14 S hF hS D hp K hK
      try dsimp only at hF ⊢
      have hf0 := hF
      have s3 := hp 3 rfl
      refine d_need (small := [(59, (.pointer (some ⟨b4, 2, none⟩)))]) ⟨look_row rfl 3 rfl s3, trivial⟩ ?_
      refine tp rfl (lv_load Try.isAgg3 rfl (gives_blk (.head _) rfl)) ?_
      exact d_closes ⟨look_row rfl 3 rfl s3, trivial⟩ 4 rfl rfl rfl hS (AgreeR.refl _) (t_sat (fun _ h => h) (hK pe14 hf0))
     · -- 5
      rintro pe14 S hF hS D hp K hK
      try dsimp only at hF ⊢
      have hf0 := hF
      have s0 := hp 0 rfl
      have s2 := hp 2 rfl
      have s4 := hp 4 rfl
      refine d_need (small := [(56, (.pointer (some ⟨p1, 0, none⟩))), (58, (.int .i64 xy)), (60, (.int .i64 xz))]) ⟨look_row rfl 0 rfl s0, look_row rfl 2 rfl s2, look_row rfl 4 rfl s4, trivial⟩ ?_
      refine t_f2 ?_
      refine t_cF hS ?_
      refine tc rfl (en_fn Try.call13 rfl) (hpush_ok (n := hclamp n) (ks := ks) xy xz) ?_
      rintro _ _ ⟨rfl, rfl⟩
      refine t_f2 ?_
      refine t_f2 ?_
      exact d_closes ⟨look_row rfl 0 rfl s0, look_row rfl 2 rfl s2, look_row rfl 4 rfl s4, trivial⟩ 5 rfl rfl rfl hS (AgreeR.refl _) (t_sat (fun _ h => h) (hK pe14 hf0))
     · -- 6
      rintro pe14 S hF hS D hp K hK
      try dsimp only at hF ⊢
      have hf0 := hF
      refine d_need (small := [(7, (.pointer (some ⟨b2, 0, none⟩)))]) ⟨look_b rfl rfl, trivial⟩ ?_
      refine tp rfl (lv_move rfl) ?_
      exact d_closes ⟨look_b rfl rfl, trivial⟩ 6 rfl rfl rfl hS (AgreeR.refl _) (t_sat (fun _ h => h) (hK pe14 hf0))
     · -- 7
      rintro pe14 S hF hS D hp K hK
      try dsimp only at hF ⊢
      have hf0 := hF
      refine d_need (small := [(9, (.pointer (some ⟨b4, 0, none⟩)))]) ⟨look_b rfl rfl, trivial⟩ ?_
      refine tp rfl (lv_fieldAddr (o' := 1) Try.underlying47 rfl Try.sizeOf3 rfl rfl) ?_
      exact d_closes ⟨look_b rfl rfl, trivial⟩ 7 rfl rfl rfl hS (AgreeR.refl _) (t_sat (fun _ h => h) (hK pe14 hf0))
     · -- 8
      rintro pe14 S hF hS D hp K hK
      try dsimp only at hF ⊢
      have hf0 := hF
      have s7 := hp 7 rfl
      refine d_need (small := [(63, (.pointer (some ⟨b4, 1, none⟩)))]) ⟨look_row rfl 7 rfl s7, trivial⟩ ?_
      refine tp rfl (lv_load Try.isAgg3 rfl (gives_blk (.head _) rfl)) ?_
      exact d_closes ⟨look_row rfl 7 rfl s7, trivial⟩ 8 rfl rfl rfl hS (AgreeR.refl _) (t_sat (fun _ h => h) (hK pe14 hf0))
     · -- 9
      rintro pe14 S hF hS D hp K hK
      try dsimp only at hF ⊢
      have hf0 := hF
      refine d_need (small := [(9, (.pointer (some ⟨b4, 0, none⟩)))]) ⟨look_b rfl rfl, trivial⟩ ?_
      refine tp rfl (lv_fieldAddr (o' := 2) Try.underlying47 rfl Try.sizeOf3 rfl rfl) ?_
      exact d_closes ⟨look_b rfl rfl, trivial⟩ 9 rfl rfl rfl hS (AgreeR.refl _) (t_sat (fun _ h => h) (hK pe14 hf0))
     · -- 10
      rintro pe14 S hF hS D hp K hK
      try dsimp only at hF ⊢
      have hf0 := hF
      have s9 := hp 9 rfl
      refine d_need (small := [(65, (.pointer (some ⟨b4, 2, none⟩)))]) ⟨look_row rfl 9 rfl s9, trivial⟩ ?_
      refine tp rfl (lv_load Try.isAgg3 rfl (gives_blk (.head _) rfl)) ?_
      exact d_closes ⟨look_row rfl 9 rfl s9, trivial⟩ 10 rfl rfl rfl hS (AgreeR.refl _) (t_sat (fun _ h => h) (hK pe14 hf0))
     · -- 11
      rintro pe14 S hF hS D hp K hK
      try dsimp only at hF ⊢
      have hf0 := hF
      have s6 := hp 6 rfl
      have s8 := hp 8 rfl
      have s10 := hp 10 rfl
      refine d_need (small := [(62, (.pointer (some ⟨b2, 0, none⟩))), (64, (.int .i64 xy)), (66, (.int .i64 xz))]) ⟨look_row rfl 6 rfl s6, look_row rfl 8 rfl s8, look_row rfl 10 rfl s10, trivial⟩ ?_
      refine t_f1 ?_
      refine t_cF hS ?_
      refine tc rfl (en_fn Try.call20 rfl) (rpush_all hes hrow hkl xy xz) ?_
      rintro _ _ ⟨rfl, pe14, hq15, rfl⟩
      refine t_f1 ?_
      exact d_closes ⟨look_row rfl 6 rfl s6, look_row rfl 8 rfl s8, look_row rfl 10 rfl s10, trivial⟩ 11 rfl rfl rfl hS (by exact ⟨.inl rfl, .inl rfl, .inl rfl, .inl rfl, .inl rfl, .inl rfl, .inl rfl, .inl rfl, .inl rfl, .inl rfl, .inl rfl, .inl rfl, .inl rfl, .inl rfl, trivial⟩) (t_sat (fun _ h => h) (hK pe14 (fun _ => hq15)))
     · -- 12
      rintro pe14 S hF hS D hp K hK
      try dsimp only at hF ⊢
      have hf0 := hF
      have s5 := hp 5 rfl
      have s11 := hp 11 rfl
      refine d_need (small := [(61, (.int .i64 (pushE ks xy))), (67, (.int .i64 (pushE ks xy)))]) ⟨look_row rfl 5 rfl s5, look_row rfl 11 rfl s11, trivial⟩ ?_
      refine tp rfl (lv_eql rfl rfl (beq_iff_eq.2 rfl)) ?_
      exact d_closes ⟨look_row rfl 5 rfl s5, look_row rfl 11 rfl s11, trivial⟩ 12 rfl rfl rfl hS (AgreeR.refl _) (t_sat (fun _ h => h) (hK pe14 hf0))
     · -- 13
      rintro pe14 S hF hS D hp K hK
      try dsimp only at hF ⊢
      have hf0 := hF
      have s12 := hp 12 rfl
      refine d_need (small := [(68, (.bool true))]) ⟨look_row rfl 12 rfl s12, trivial⟩ ?_
      refine tp rfl (lv_assign rfl) ?_
      exact d_closes ⟨look_row rfl 12 rfl s12, trivial⟩ 13 rfl rfl rfl hS (AgreeR.refl _) (t_sat (fun _ h => h) (hK pe14 hf0))
    · -- behind
     rintro pe14 hF
     try dsimp only at hF ⊢
     have hf0 := hF
     have hq15 := hf0 rfl
     refine t_weak (E' := [(0, (.int .i64 n)), (1, (.slice bsb xs.length csb)), (5, (.bool true)), (6, (.pointer (some ⟨p1, 0, none⟩))), (7, (.pointer (some ⟨b2, 0, none⟩))), (8, (.int .i64 ((i : Nat) : Int))), (9, (.pointer (some ⟨b4, 0, none⟩))), (10, (.bool true)), (36, (.bool false)), (44, (.bool true)), (52, (.int .i64 xx)), (53, (.bool true))]) ⟨rfl, rfl, rfl, rfl, rfl, rfl, rfl, rfl, rfl, rfl, rfl, rfl, trivial⟩ ?_
     refine q_in_n ?_
     refine q_then_n ?_
     exact t_weak (by exact ⟨rfl, rfl, rfl, rfl, rfl, rfl, rfl, rfl, rfl, rfl, trivial⟩) (hM15 (pushK ks xy xz) pe14 ⟨hq15, (by first | exact hkl | (simp only [pushK_len', remK_len', lowK_len', pop_len]; exact hkl))⟩)
   · -- no
    refine tp rfl (lv_eql rfl rfl (beq_eq_false_iff_ne.2 h13)) ?_
    refine tp rfl (lv_assign rfl) ?_
    refine t_done ?_
    refine q_then_n (hK17 _ _ ?_)
    refine c_false rfl ?_
    refine c_seq (fun K19 hK19 => ?_)
    refine c_region ?_
    by_cases h16 : xx = 3
    · -- yes
     refine tp rfl (lv_eql rfl rfl (beq_iff_eq.2 h16)) ?_
     refine tp rfl (lv_assign rfl) ?_
     refine t_done ?_
     refine q_then_n (hK19 _ _ ?_)
     refine c_true rfl ?_
     refine c_draw (γ := List (Int × Int)) (n := 14) Try.mixed rfl rfl (fun (pe17 : List (Int × Int)) S => (S 11 = true → PRow pe17 (lowK ks xy xz))) (fun (pe17 : List (Int × Int)) => [(0, 71, (.pointer (some ⟨p1, 0, none⟩))), (1, 72, (.pointer (some ⟨b4, 1, none⟩))), (2, 73, (.int .i64 xy)), (3, 74, (.pointer (some ⟨b4, 2, none⟩))), (4, 75, (.int .i64 xz)), (5, 76, (.int .i64 (lowE ks xy xz))), (6, 77, (.pointer (some ⟨b2, 0, none⟩))), (7, 78, (.pointer (some ⟨b4, 1, none⟩))), (8, 79, (.int .i64 xy)), (9, 80, (.pointer (some ⟨b4, 2, none⟩))), (10, 81, (.int .i64 xz)), (11, 82, (.int .i64 (lowE ks xy xz))), (12, 83, (.bool true)), (13, 10, (.bool true))]) (fun (pe17 : List (Int × Int)) S => (Blk b4 [(.int .i64 xx), (.int .i64 xy), (.int .i64 xz)] 47) :: (bif S 11 then (RowQ 52 54 b2 n pe17) else (RowQ 52 54 b2 n es)) :: (bif S 5 then (HeapO p1 (hclamp n) (lowK ks xy xz)) else (HeapO p1 (hclamp n) ks)) :: R) ([]) (by simp [Nat.ble]) (fun _ h => h) (fun _ _ h => h) ?_ ?_
     · -- steps
      refine ⟨?_, ?_, ?_, ?_, ?_, ?_, ?_, ?_, ?_, ?_, ?_, ?_, ?_, ?_, trivial⟩
      · -- 0
       rintro pe17 S hF hS D hp K hK
       try dsimp only at hF ⊢
       have hf0 := hF
       refine d_need (small := [(6, (.pointer (some ⟨p1, 0, none⟩)))]) ⟨look_b rfl rfl, trivial⟩ ?_
       refine tp rfl (lv_move rfl) ?_
       exact d_closes ⟨look_b rfl rfl, trivial⟩ 0 rfl rfl rfl hS (AgreeR.refl _) (t_sat (fun _ h => h) (hK pe17 hf0))
      · -- 1
       rintro pe17 S hF hS D hp K hK
       try dsimp only at hF ⊢
       have hf0 := hF
       refine d_need (small := [(9, (.pointer (some ⟨b4, 0, none⟩)))]) ⟨look_b rfl rfl, trivial⟩ ?_
       refine tp rfl (lv_fieldAddr (o' := 1) Try.underlying47 rfl Try.sizeOf3 rfl rfl) ?_
       exact d_closes ⟨look_b rfl rfl, trivial⟩ 1 rfl rfl rfl hS (AgreeR.refl _) (t_sat (fun _ h => h) (hK pe17 hf0))
      · -- 2
       rintro pe17 S hF hS D hp K hK
       try dsimp only at hF ⊢
       have hf0 := hF
       have s1 := hp 1 rfl
       refine d_need (small := [(72, (.pointer (some ⟨b4, 1, none⟩)))]) ⟨look_row rfl 1 rfl s1, trivial⟩ ?_
       refine tp rfl (lv_load Try.isAgg3 rfl (gives_blk (.head _) rfl)) ?_
       exact d_closes ⟨look_row rfl 1 rfl s1, trivial⟩ 2 rfl rfl rfl hS (AgreeR.refl _) (t_sat (fun _ h => h) (hK pe17 hf0))
      · -- 3
       rintro pe17 S hF hS D hp K hK
       try dsimp only at hF ⊢
       have hf0 := hF
       refine d_need (small := [(9, (.pointer (some ⟨b4, 0, none⟩)))]) ⟨look_b rfl rfl, trivial⟩ ?_
       refine tp rfl (lv_fieldAddr (o' := 2) Try.underlying47 rfl Try.sizeOf3 rfl rfl) ?_
       exact d_closes ⟨look_b rfl rfl, trivial⟩ 3 rfl rfl rfl hS (AgreeR.refl _) (t_sat (fun _ h => h) (hK pe17 hf0))
      · -- 4
       rintro pe17 S hF hS D hp K hK
       try dsimp only at hF ⊢
       have hf0 := hF
       have s3 := hp 3 rfl
       refine d_need (small := [(74, (.pointer (some ⟨b4, 2, none⟩)))]) ⟨look_row rfl 3 rfl s3, trivial⟩ ?_
       refine tp rfl (lv_load Try.isAgg3 rfl (gives_blk (.head _) rfl)) ?_
       exact d_closes ⟨look_row rfl 3 rfl s3, trivial⟩ 4 rfl rfl rfl hS (AgreeR.refl _) (t_sat (fun _ h => h) (hK pe17 hf0))
      · -- 5
       rintro pe17 S hF hS D hp K hK
       try dsimp only at hF ⊢
       have hf0 := hF
       have s0 := hp 0 rfl
       have s2 := hp 2 rfl
       have s4 := hp 4 rfl
       refine d_need (small := [(71, (.pointer (some ⟨p1, 0, none⟩))), (73, (.int .i64 xy)), (75, (.int .i64 xz))]) ⟨look_row rfl 0 rfl s0, look_row rfl 2 rfl s2, look_row rfl 4 rfl s4, trivial⟩ ?_
       refine t_f2 ?_
       refine t_cF hS ?_
       refine tc rfl (en_fn Try.call16 rfl) (hlow_ok (n := hclamp n) (ks := ks) xy xz) ?_
       rintro _ _ ⟨rfl, rfl⟩
       refine t_f2 ?_
       refine t_f2 ?_
       exact d_closes ⟨look_row rfl 0 rfl s0, look_row rfl 2 rfl s2, look_row rfl 4 rfl s4, trivial⟩ 5 rfl rfl rfl hS (AgreeR.refl _) (t_sat (fun _ h => h) (hK pe17 hf0))
      · -- 6
       rintro pe17 S hF hS D hp K hK
       try dsimp only at hF ⊢
       have hf0 := hF
       refine d_need (small := [(7, (.pointer (some ⟨b2, 0, none⟩)))]) ⟨look_b rfl rfl, trivial⟩ ?_
       refine tp rfl (lv_move rfl) ?_
       exact d_closes ⟨look_b rfl rfl, trivial⟩ 6 rfl rfl rfl hS (AgreeR.refl _) (t_sat (fun _ h => h) (hK pe17 hf0))
      · -- 7
       rintro pe17 S hF hS D hp K hK
       try dsimp only at hF ⊢
       have hf0 := hF
       refine d_need (small := [(9, (.pointer (some ⟨b4, 0, none⟩)))]) ⟨look_b rfl rfl, trivial⟩ ?_
       refine tp rfl (lv_fieldAddr (o' := 1) Try.underlying47 rfl Try.sizeOf3 rfl rfl) ?_
       exact d_closes ⟨look_b rfl rfl, trivial⟩ 7 rfl rfl rfl hS (AgreeR.refl _) (t_sat (fun _ h => h) (hK pe17 hf0))
      · -- 8
       rintro pe17 S hF hS D hp K hK
       try dsimp only at hF ⊢
       have hf0 := hF
       have s7 := hp 7 rfl
       refine d_need (small := [(78, (.pointer (some ⟨b4, 1, none⟩)))]) ⟨look_row rfl 7 rfl s7, trivial⟩ ?_
       refine tp rfl (lv_load Try.isAgg3 rfl (gives_blk (.head _) rfl)) ?_
       exact d_closes ⟨look_row rfl 7 rfl s7, trivial⟩ 8 rfl rfl rfl hS (AgreeR.refl _) (t_sat (fun _ h => h) (hK pe17 hf0))
      · -- 9
       rintro pe17 S hF hS D hp K hK
       try dsimp only at hF ⊢
       have hf0 := hF
       refine d_need (small := [(9, (.pointer (some ⟨b4, 0, none⟩)))]) ⟨look_b rfl rfl, trivial⟩ ?_
       refine tp rfl (lv_fieldAddr (o' := 2) Try.underlying47 rfl Try.sizeOf3 rfl rfl) ?_
       exact d_closes ⟨look_b rfl rfl, trivial⟩ 9 rfl rfl rfl hS (AgreeR.refl _) (t_sat (fun _ h => h) (hK pe17 hf0))
      · -- 10
       rintro pe17 S hF hS D hp K hK
       try dsimp only at hF ⊢
       have hf0 := hF
       have s9 := hp 9 rfl
       refine d_need (small := [(80, (.pointer (some ⟨b4, 2, none⟩)))]) ⟨look_row rfl 9 rfl s9, trivial⟩ ?_
       refine tp rfl (lv_load Try.isAgg3 rfl (gives_blk (.head _) rfl)) ?_
       exact d_closes ⟨look_row rfl 9 rfl s9, trivial⟩ 10 rfl rfl rfl hS (AgreeR.refl _) (t_sat (fun _ h => h) (hK pe17 hf0))
      · -- 11
       rintro pe17 S hF hS D hp K hK
       try dsimp only at hF ⊢
       have hf0 := hF
       have s6 := hp 6 rfl
       have s8 := hp 8 rfl
       have s10 := hp 10 rfl
       refine d_need (small := [(77, (.pointer (some ⟨b2, 0, none⟩))), (79, (.int .i64 xy)), (81, (.int .i64 xz))]) ⟨look_row rfl 6 rfl s6, look_row rfl 8 rfl s8, look_row rfl 10 rfl s10, trivial⟩ ?_
       refine t_f1 ?_
       refine t_cF hS ?_
       refine tc rfl (en_fn Try.call21 rfl) (rlow_all hes hrow hkl xy xz) ?_
       rintro _ _ ⟨rfl, pe17, hq18, rfl⟩
       refine t_f1 ?_
       exact d_closes ⟨look_row rfl 6 rfl s6, look_row rfl 8 rfl s8, look_row rfl 10 rfl s10, trivial⟩ 11 rfl rfl rfl hS (by exact ⟨.inl rfl, .inl rfl, .inl rfl, .inl rfl, .inl rfl, .inl rfl, .inl rfl, .inl rfl, .inl rfl, .inl rfl, .inl rfl, .inl rfl, .inl rfl, .inl rfl, trivial⟩) (t_sat (fun _ h => h) (hK pe17 (fun _ => hq18)))
      · -- 12
       rintro pe17 S hF hS D hp K hK
       try dsimp only at hF ⊢
       have hf0 := hF
       have s5 := hp 5 rfl
       have s11 := hp 11 rfl
       refine d_need (small := [(76, (.int .i64 (lowE ks xy xz))), (82, (.int .i64 (lowE ks xy xz)))]) ⟨look_row rfl 5 rfl s5, look_row rfl 11 rfl s11, trivial⟩ ?_
       refine tp rfl (lv_eql rfl rfl (beq_iff_eq.2 rfl)) ?_
       exact d_closes ⟨look_row rfl 5 rfl s5, look_row rfl 11 rfl s11, trivial⟩ 12 rfl rfl rfl hS (AgreeR.refl _) (t_sat (fun _ h => h) (hK pe17 hf0))
      · -- 13
       rintro pe17 S hF hS D hp K hK
       try dsimp only at hF ⊢
       have hf0 := hF
       have s12 := hp 12 rfl
       refine d_need (small := [(83, (.bool true))]) ⟨look_row rfl 12 rfl s12, trivial⟩ ?_
       refine tp rfl (lv_assign rfl) ?_
       exact d_closes ⟨look_row rfl 12 rfl s12, trivial⟩ 13 rfl rfl rfl hS (AgreeR.refl _) (t_sat (fun _ h => h) (hK pe17 hf0))
     · -- behind
      rintro pe17 hF
      try dsimp only at hF ⊢
      have hf0 := hF
      have hq18 := hf0 rfl
      refine t_weak (E' := [(0, (.int .i64 n)), (1, (.slice bsb xs.length csb)), (5, (.bool true)), (6, (.pointer (some ⟨p1, 0, none⟩))), (7, (.pointer (some ⟨b2, 0, none⟩))), (8, (.int .i64 ((i : Nat) : Int))), (9, (.pointer (some ⟨b4, 0, none⟩))), (10, (.bool true)), (36, (.bool false)), (44, (.bool true)), (52, (.int .i64 xx)), (53, (.bool false)), (69, (.bool true))]) ⟨rfl, rfl, rfl, rfl, rfl, rfl, rfl, rfl, rfl, rfl, rfl, rfl, rfl, trivial⟩ ?_
      refine q_in_n ?_
      refine q_then_n ?_
      exact t_weak (by exact ⟨rfl, rfl, rfl, rfl, rfl, rfl, rfl, rfl, rfl, rfl, trivial⟩) (hM15 (lowK ks xy xz) pe17 ⟨hq18, (by first | exact hkl | (simp only [pushK_len', remK_len', lowK_len', pop_len]; exact hkl))⟩)
    · -- no
     refine tp rfl (lv_eql rfl rfl (beq_eq_false_iff_ne.2 h16)) ?_
     refine tp rfl (lv_assign rfl) ?_
     refine t_done ?_
     refine q_then_n (hK19 _ _ ?_)
     refine c_false rfl ?_
     refine c_seq (fun K20 hK20 => ?_)
     refine c_region ?_
     by_cases h19 : xx = 4
     · -- yes
      refine tp rfl (lv_eql rfl rfl (beq_iff_eq.2 h19)) ?_
      refine tp rfl (lv_assign rfl) ?_
      refine t_done ?_
      refine q_then_n (hK20 _ _ ?_)
      refine c_true rfl ?_
      refine c_seq (fun K21 hK21 => ?_)
      refine c_region ?_
      refine tp rfl (lv_move rfl) ?_
      refine tp rfl (lv_fieldAddr (o' := 1) Try.underlying47 rfl Try.sizeOf3 rfl rfl) ?_
      refine tp rfl (lv_load Try.isAgg3 rfl (gives_blk (.head _) rfl)) ?_
      refine t_f2 ?_
      refine tc rfl (en_fn Try.call17 rfl) (hrem_ok (n := hclamp n) (ks := ks) xy) ?_
      rintro _ _ ⟨rfl, rfl⟩
      refine tp rfl (lv_move rfl) ?_
      refine tp rfl (lv_extract rfl rfl) ?_
      refine tp rfl (lv_extract rfl rfl) ?_
      refine tp rfl (lv_assign rfl) ?_
      refine tp rfl (lv_assign rfl) ?_
      refine t_done ?_
      refine q_then_n (hK21 _ _ ?_)
      refine c_seq (fun K22 hK22 => ?_)
      refine c_region ?_
      refine tp rfl (lv_move rfl) ?_
      refine tp rfl (lv_fieldAddr (o' := 1) Try.underlying47 rfl Try.sizeOf3 rfl rfl) ?_
      refine tp rfl (lv_load Try.isAgg3 rfl (gives_blk (.tail _ (.head _)) rfl)) ?_
      refine t_f2 ?_
      refine tc rfl (en_fn Try.call22 rfl) (rrem_all hes hrow hkl xy) ?_
      rintro _ _ ⟨rfl, pe20, hq21, rfl⟩
      refine tp rfl (lv_move rfl) ?_
      refine tp rfl (lv_extract rfl rfl) ?_
      refine tp rfl (lv_extract rfl rfl) ?_
      refine tp rfl (lv_assign rfl) ?_
      refine tp rfl (lv_assign rfl) ?_
      refine t_done ?_
      refine q_then_n (hK22 _ _ ?_)
      refine c_region ?_
      refine tp rfl (lv_move rfl) ?_
      refine tp rfl (lv_move rfl) ?_
      refine tp rfl (lv_eql rfl rfl (beq_iff_eq.2 rfl)) ?_
      refine tp rfl (lv_move rfl) ?_
      refine t_guard rfl rfl ?_
      refine tp rfl (lv_move rfl) ?_
      refine t_guard rfl rfl ?_
      refine tp rfl (lv_move rfl) ?_
      refine t_guard rfl rfl ?_
      refine tp rfl (lv_eql rfl rfl (beq_iff_eq.2 rfl)) ?_
      refine tp rfl (lv_pick_t rfl rfl) ?_
      refine tp rfl (lv_assign rfl) ?_
      refine t_done ?_
      refine q_in_n ?_
      refine q_then_n ?_
      refine t_f1 ?_
      refine t_f1 ?_
      refine t_f2 ?_
      exact t_weak (by exact ⟨rfl, rfl, rfl, rfl, rfl, rfl, rfl, rfl, rfl, rfl, trivial⟩) (hM15 (remK ks xy) pe20 ⟨hq21, (by first | exact hkl | (simp only [pushK_len', remK_len', lowK_len', pop_len]; exact hkl))⟩)
     · -- no
      refine tp rfl (lv_eql rfl rfl (beq_eq_false_iff_ne.2 h19)) ?_
      refine tp rfl (lv_assign rfl) ?_
      refine t_done ?_
      refine q_then_n (hK20 _ _ ?_)
      refine c_false rfl ?_
      refine c_seq (fun K21 hK21 => ?_)
      refine c_region ?_
      by_cases h22 : xx = 5
      · -- yes
       refine tp rfl (lv_eql rfl rfl (beq_iff_eq.2 h22)) ?_
       refine tp rfl (lv_assign rfl) ?_
       refine t_done ?_
       refine q_then_n (hK21 _ _ ?_)
       refine c_true rfl ?_
       refine c_seq (fun K22 hK22 => ?_)
       refine c_region ?_
       refine tp rfl (lv_move rfl) ?_
       refine t_f2 ?_
       refine tc rfl (en_fn Try.call14 rfl) (hpop_ok (n := hclamp n) (ks := ks) ) ?_
       rintro _ _ ⟨rfl, rfl⟩
       refine tp rfl (lv_move rfl) ?_
       refine tp rfl (lv_extract rfl rfl) ?_
       refine tp rfl (lv_extract rfl rfl) ?_
       refine tp rfl (lv_extract rfl rfl) ?_
       refine tp rfl (lv_assign rfl) ?_
       refine tp rfl (lv_assign rfl) ?_
       refine tp rfl (lv_assign rfl) ?_
       refine t_done ?_
       refine q_then_n (hK22 _ _ ?_)
       refine c_seq (fun K23 hK23 => ?_)
       refine c_region ?_
       refine tp rfl (lv_move rfl) ?_
       refine t_f2 ?_
       refine tc rfl (en_fn Try.call23 rfl) (rpop_all hes hrow  ) ?_
       rintro _ _ ⟨rfl, pe23, hq24, rfl⟩
       refine tp rfl (lv_move rfl) ?_
       refine tp rfl (lv_extract rfl rfl) ?_
       refine tp rfl (lv_extract rfl rfl) ?_
       refine tm rfl (mv_alloc Try.zeroValue54 rfl) ?_
       rintro _ _ ⟨b25, rfl, rfl⟩
       refine ts (sv_blkAgg (news := [(.int .i64 (fstI ks)), (.int .i64 (fstV ks))]) Try.sizeOf54 rfl rfl rfl rfl (Nat.le_of_ble_eq_true rfl) rfl) ?_
       refine tp rfl (lv_assign rfl) ?_
       refine t_done ?_
       refine q_then_n (hK23 _ _ ?_)
       refine c_region ?_
       refine tp rfl (lv_move rfl) ?_
       refine tp rfl (lv_fieldAddr (o' := 0) Try.underlying54 rfl Try.sizeOf3 rfl rfl) ?_
       refine tp rfl (lv_load Try.isAgg3 rfl (gives_blk (.head _) rfl)) ?_
       refine tp rfl (lv_eql rfl rfl (beq_iff_eq.2 rfl)) ?_
       refine tp rfl (lv_move rfl) ?_
       refine t_guard rfl rfl ?_
       refine tp rfl (lv_move rfl) ?_
       refine t_guard rfl rfl ?_
       refine tp rfl (lv_fieldAddr (o' := 1) Try.underlying54 rfl Try.sizeOf3 rfl rfl) ?_
       refine t_guard rfl rfl ?_
       refine tp rfl (lv_load Try.isAgg3 rfl (gives_blk (.head _) rfl)) ?_
       refine t_guard rfl rfl ?_
       refine tp rfl (lv_eql rfl rfl (beq_iff_eq.2 rfl)) ?_
       refine tp rfl (lv_pick_t rfl rfl) ?_
       refine tp rfl (lv_move rfl) ?_
       refine t_guard rfl rfl ?_
       refine tp rfl (lv_move rfl) ?_
       refine t_guard rfl rfl ?_
       refine tp rfl (lv_move rfl) ?_
       refine t_guard rfl rfl ?_
       refine tp rfl (lv_eqb Try.underlying4 rfl rfl (beq_self_eq_true _)) ?_
       refine tp rfl (lv_pick_t rfl rfl) ?_
       refine tp rfl (lv_assign rfl) ?_
       refine t_done ?_
       refine q_in_n ?_
       refine q_then_n ?_
       refine t_drop ?_
       refine t_f1 ?_
       refine t_f1 ?_
       refine t_f2 ?_
       exact t_weak (by exact ⟨rfl, rfl, rfl, rfl, rfl, rfl, rfl, rfl, rfl, rfl, trivial⟩) (hM15 (popK ks) pe23 ⟨hq24, (by first | exact hkl | (simp only [pushK_len', remK_len', lowK_len', pop_len]; exact hkl))⟩)
      · -- no
       refine tp rfl (lv_eql rfl rfl (beq_eq_false_iff_ne.2 h22)) ?_
       refine tp rfl (lv_assign rfl) ?_
       refine t_done ?_
       refine q_then_n (hK21 _ _ ?_)
       refine c_false rfl ?_
       refine c_skip ?_
       refine q_in_n ?_
       refine q_then_n ?_
       exact t_weak (by exact ⟨rfl, rfl, rfl, rfl, rfl, rfl, rfl, rfl, rfl, rfl, trivial⟩) (hM15 ks es ⟨hrow, (by first | exact hkl | (simp only [pushK_len', remK_len', lowK_len', pop_len]; exact hkl))⟩)
 · -- not both
  refine t_cut0 (E' := [(0, (.int .i64 n)), (1, (.slice bsb xs.length csb)), (5, (.bool true)), (6, (.pointer (some ⟨p1, 0, none⟩))), (7, (.pointer (some ⟨b2, 0, none⟩))), (8, (.int .i64 ((i : Nat) : Int))), (36, (.bool false)), (44, (.bool false))]) ?_ (fun KK hKK => ?_)
  ·
   refine q_then_n (hK11 _ _ ?_)
   refine c_false rfl ?_
   refine c_exit ?_
   refine q_then_x ?_
   refine q_then_x ?_
   refine q_in_x ?_
   refine q_then_n (hK7 _ _ ?_)
   refine c_seq (fun K12 hK12 => ?_)
   refine c_region ?_
   refine tp rfl (lv_move rfl) ?_
   refine tp rfl (lv_assign rfl) ?_
   refine t_done ?_
   refine q_then_n (hK12 _ _ ?_)
   refine c_ret ?_
   refine t_drop ?_
   refine t_drop ?_
   refine q_ret rfl rfl ?_
   exact ⟨rfl, rfl⟩
  · -- which
   by_cases hc3A : ((i : Nat) : Int) < ((xs.length : Nat) : Int)
   ·
    have hc3B : ¬ (((i : Nat) : Int) < 200) := fun hh => hc3 ⟨hc3A, hh⟩
    refine tp rfl (lv_move rfl) ?_
    refine tp rfl (lv_move rfl) ?_
    refine tp rfl (lv_len Try.underlying42 rfl rfl) ?_
    refine tp rfl (lv_lss rfl rfl (decide_eq_true hc3A)) ?_
    refine tp rfl (lv_move rfl) ?_
    refine t_guard rfl rfl ?_
    refine tp rfl (lv_move rfl) ?_
    refine t_guard rfl rfl ?_
    refine tp rfl (lv_lss rfl rfl (decide_eq_false hc3B)) ?_
    refine tp rfl (lv_pick_t rfl rfl) ?_
    exact t_done (t_weak (by exact ⟨rfl, rfl, rfl, rfl, rfl, rfl, rfl, rfl, trivial⟩) hKK)
   ·
    refine tp rfl (lv_move rfl) ?_
    refine tp rfl (lv_move rfl) ?_
    refine tp rfl (lv_len Try.underlying42 rfl rfl) ?_
    refine tp rfl (lv_lss rfl rfl (decide_eq_false hc3A)) ?_
    refine tp rfl (lv_move rfl) ?_
    refine t_skip rfl rfl rfl ?_
    refine t_skip rfl rfl rfl ?_
    refine tp rfl (lv_pick_f rfl rfl) ?_
    exact t_done (t_weak (by exact ⟨rfl, rfl, rfl, rfl, rfl, rfl, rfl, rfl, trivial⟩) hKK)
end Go.Proofs.Ytchnphachgcjmaa
