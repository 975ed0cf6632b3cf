/- TimerPlays: the law's walk. -/
import Derived.Test.YtombnfgkgcjihaaLa
import Derived.Test.YtombnfgkgcjihaaRr
import Derived.Test.YtombnfgkgcjihaaTp
set_option maxRecDepth 100000
set_option linter.unusedVariables false
set_option linter.unusedSimpArgs false
namespace Go.Proofs.Ytombnfgkgcjihaa
open Go Go.Proofs Sp
set_option maxHeartbeats 20000000 in
theorem plays_law {R : List HP} (n : Int) {bsb : Option Addr} {csb : Nat} (xs : List R3) (hsb : Rd R bsb (recs triF xs)) (oksb : SlOk bsb xs.length) (lsb : xs.length ≤ 9223372036854775807) :
    Ok Try.prog 8 [(.int .i64 n), (.slice bsb xs.length csb)] R
      (fun v M => v = .bool true ∧ M = R) := by
 refine ok_of (N := 169) Try.func8 rfl rfl rfl (fun W => ?_)
 refine c_seq (fun K1 hK1 => ?_)
 refine c_region ?_
 refine tp rfl (lv_assign rfl) ?_
 refine t_done ?_
 refine q_then_n (hK1 _ _ ?_)
 refine c_seq (fun K2 hK2 => ?_)
 refine c_region ?_
 refine tc rfl (en_fn Try.call10 rfl) (shown_ok) ?_
 rintro _ _ ⟨rfl, hMR⟩
 rw [hMR]; clear hMR
 refine tp rfl (lv_assign rfl) ?_
 refine t_done ?_
 refine q_then_n (hK2 _ _ ?_)
 refine c_seq (fun K3 hK3 => ?_)
 refine c_region ?_
 refine tp rfl (lv_move rfl) ?_
 refine tc rfl (en_fn Try.call11 rfl) (tnew_ok n) ?_
 rintro _ _ ⟨p1, q2, rfl, rfl⟩
 refine tp rfl (lv_assign rfl) ?_
 refine t_done ?_
 refine q_then_n (hK3 _ _ ?_)
 refine c_seq (fun K4 hK4 => ?_)
 refine c_region ?_
 refine tp rfl (lv_move rfl) ?_
 refine tp rfl (lv_build (cs := [(.int .i64 n), (.slice none 0 0)]) (pl := [(0, 1), (1, 1)]) Try.underlying52 Try.zeroValue52 (fun _ => by simp) rfl rfl) ?_
 refine tm rfl (mv_box rfl rfl) ?_
 rintro _ _ ⟨b3, rfl, rfl⟩
 refine tp rfl (lv_assign rfl) ?_
 refine t_done ?_
 refine q_then_n (hK4 _ _ ?_)
 refine c_seq (fun K5 hK5 => ?_)
 refine c_seq (fun K6 hK6 => ?_)
 refine c_region ?_
 refine t_sat (fun _ h => sat_nilsl 55 2 h) ?_
 refine t_shutPV (N := n) (es := []) slok_none (Nat.le_refl _) ?_
 refine tp rfl (lv_move rfl) ?_
 refine tp rfl (lv_eqnil Try.underlying25 rfl rfl) ?_
 refine t_done ?_
 refine q_then_n (hK6 _ _ ?_)
 refine c_false rfl ?_
 refine c_skip ?_
 refine q_then_n (hK5 _ _ ?_)
 refine c_seq (fun K7 hK7 => ?_)
 refine c_seq (fun K8 hK8 => ?_)
 refine c_region ?_
 refine tp rfl (lv_assign rfl) ?_
 refine t_done ?_
 refine q_then_n (hK8 _ _ ?_)
 refine c_block ?_
 refine c_loop (γ := (Nat) × (Ks) × (List (Int × Int))) (fun (i, ks, es) => i ≤ xs.length ∧ i ≤ 200 ∧ TRow es ks ∧ ks.length = hclamp n) (fun (i, ks, es) => [(0, (.int .i64 n)), (1, (.slice bsb xs.length csb)), (5, (.bool true)), (6, (.pointer (some ⟨p1, 0, none⟩))), (7, (.pointer (some ⟨b3, 0, none⟩))), (8, (.int .i64 ((i : Nat) : Int))), (26, (.bool false))]) (fun (i, ks, es) => (RowP 52 55 b3 n es) :: (Blk p1 [(.pointer (some ⟨q2, 0, none⟩))] 37) :: (HeapO q2 (hclamp n) ks) :: R) (fun (i, ks, es) => xs.length - i) (0, List.replicate (hclamp n) none, ([] : List (Int × Int))) ⟨by omega, by omega, TRow.nil _, List.length_replicate⟩ ⟨rfl, rfl, rfl, rfl, rfl, rfl, rfl, trivial⟩ (fun _ h => h) ?_
 rintro ⟨i, ks, es⟩ K9 hF hK9
 try dsimp only at hF hK9 ⊢
 obtain ⟨hi, hi2, hrow, hkl⟩ := hF
 have hrl := hrow.le
 have hhc := hclamp_le n
 refine c_seq (fun K10 hK10 => ?_)
 refine c_seq (fun K11 hK11 => ?_)
 refine c_region ?_
 by_cases hc4 : ((i : Nat) : Int) < ((xs.length : Nat) : Int) ∧ ((i : Nat) : Int) < 200
 · -- both
  have hc4a := hc4.1
  have hc4b := hc4.2
  refine tp rfl (lv_move rfl) ?_
  refine tp rfl (lv_move rfl) ?_
  refine tp rfl (lv_len Try.underlying39 rfl rfl) ?_
  refine tp rfl (lv_lss rfl rfl (decide_eq_true hc4.1)) ?_
  refine tp rfl (lv_move rfl) ?_
  refine t_guard rfl rfl ?_
  refine tp rfl (lv_move rfl) ?_
  refine t_guard rfl rfl ?_
  refine tp rfl (lv_lss rfl rfl (decide_eq_true hc4.2)) ?_
  refine tp rfl (lv_pick_t rfl rfl) ?_
  refine t_done ?_
  refine q_then_n (hK11 _ _ ?_)
  refine c_true rfl ?_
  refine c_skip ?_
  refine q_then_n (hK10 _ _ ?_)
  refine c_seq (fun K12 hK12 => ?_)
  refine c_block ?_
  refine c_seq (fun K13 hK13 => ?_)
  refine c_region ?_
  refine tp rfl (lv_move rfl) ?_
  refine tp rfl (lv_move rfl) ?_
  refine tp rfl (lv_indexAddr (k' := i * 3) Try.underlying39 Try.sizeOf41 rfl rfl oksb (by omega) (by omega) (by omega)) ?_
  refine tp rfl (lv_loadAgg_ad (cs := [(.int .i64 ((xs.getD i R3.d).x)), (.int .i64 ((xs.getD i R3.d).y)), (.int .i64 ((xs.getD i R3.d).z))]) Try.isAgg41 Try.sizeOf41 rfl (gives_all3 (Rd.gives (Rd.cons (Rd.cons (Rd.cons hsb))) ((recs_get (k := i) (j := 0) triF_len (d := R3.d) (by omega) (Nat.le_of_ble_eq_true rfl)).trans rfl)) (Rd.gives (Rd.cons (Rd.cons (Rd.cons hsb))) ((recs_get (k := i) (j := 1) triF_len (d := R3.d) (by omega) (Nat.le_of_ble_eq_true rfl)).trans rfl)) (Rd.gives (Rd.cons (Rd.cons (Rd.cons hsb))) ((recs_get (k := i) (j := 2) triF_len (d := R3.d) (by omega) (Nat.le_of_ble_eq_true rfl)).trans rfl)))) ?_
  refine tm rfl (mv_alloc Try.zeroValue41 rfl) ?_
  rintro _ _ ⟨b5, rfl, rfl⟩
  refine ts (sv_blkAgg (news := [(.int .i64 ((xs.getD i R3.d).x)), (.int .i64 ((xs.getD i R3.d).y)), (.int .i64 ((xs.getD i R3.d).z))]) Try.sizeOf41 rfl rfl rfl rfl (Nat.le_of_ble_eq_true rfl) rfl) ?_
  refine t_done ?_
  refine q_then_n (hK13 _ _ ?_)
  refine c_seq (fun K14 hK14 => ?_)
  refine c_region ?_
  obtain ⟨xx, hxx⟩ : ∃ x9, (xs.getD i R3.d).x = x9 := ⟨_, rfl⟩
  rw [hxx]
  obtain ⟨xy, hxy⟩ : ∃ x9, (xs.getD i R3.d).y = x9 := ⟨_, rfl⟩
  rw [hxy]
  obtain ⟨xz, hxz⟩ : ∃ x9, (xs.getD i R3.d).z = x9 := ⟨_, rfl⟩
  rw [hxz]
  refine tp rfl (lv_assign rfl) ?_
  refine t_done ?_
  refine q_then_n (hK14 _ _ ?_)
  refine c_seq (fun K15 hK15 => ?_)
  have hM15 : ∀ (k2 : Ks) (e2 : List (Int × Int)), TRow e2 k2 ∧ k2.length = hclamp n → Tri K15 W 169 [(0, (.int .i64 n)), (1, (.slice bsb xs.length csb)), (5, (.bool true)), (6, (.pointer (some ⟨p1, 0, none⟩))), (7, (.pointer (some ⟨b3, 0, none⟩))), (8, (.int .i64 ((i : Nat) : Int))), (9, (.pointer (some ⟨b5, 0, none⟩))), (10, (.bool true)), (26, (.bool false)), (34, (.bool true))] ((Blk b5 [(.int .i64 xx), (.int .i64 xy), (.int .i64 xz)] 41) :: (RowP 52 55 b3 n e2) :: (Blk p1 [(.pointer (some ⟨q2, 0, none⟩))] 37) :: (HeapO q2 (hclamp n) k2) :: R) := by
   rintro k2 e2 hF
   obtain ⟨hrow2, hkl2⟩ := hF
   have hrl2 := hrow2.le
   refine hK15 _ _ ?_
   refine c_seq (fun K16 hK16 => ?_)
   refine c_region ?_
   refine tp rfl (lv_move rfl) ?_
   refine t_f3 ?_
   refine t_f3 ?_
   refine tc rfl (en_fn Try.call16 rfl) (tnext_ok (n := hclamp n) (ks := k2) ) ?_
   rintro _ _ ⟨rfl, rfl⟩
   refine tp rfl (lv_move rfl) ?_
   refine tp rfl (lv_extract rfl rfl) ?_
   refine tp rfl (lv_extract rfl rfl) ?_
   refine tp rfl (lv_assign rfl) ?_
   refine tp rfl (lv_assign rfl) ?_
   refine t_done ?_
   refine q_then_n (hK16 _ _ ?_)
   refine c_seq (fun K17 hK17 => ?_)
   refine c_region ?_
   refine tp rfl (lv_move rfl) ?_
   refine tp rfl (lv_fieldAddr (o' := 1) Try.underlying41 rfl Try.sizeOf3 rfl rfl) ?_
   refine tp rfl (lv_load Try.isAgg3 rfl (gives_blk (.tail _ (.tail _ (.head _))) rfl)) ?_
   refine t_f1 ?_
   refine t_f1 ?_
   refine tc rfl (en_fn Try.call21 rfl) (tat_ok (n := hclamp n) (ks := k2) xy) ?_
   rintro _ _ ⟨rfl, rfl⟩
   refine tp rfl (lv_move rfl) ?_
   refine tp rfl (lv_extract rfl rfl) ?_
   refine tp rfl (lv_extract rfl rfl) ?_
   refine tp rfl (lv_assign rfl) ?_
   refine tp rfl (lv_assign rfl) ?_
   refine t_done ?_
   refine q_then_n (hK17 _ _ ?_)
   refine c_seq (fun K18 hK18 => ?_)
   refine c_region ?_
   refine tp rfl (lv_move rfl) ?_
   refine tp rfl (lv_fieldAddr (o' := 1) Try.underlying41 rfl Try.sizeOf3 rfl rfl) ?_
   refine tp rfl (lv_load Try.isAgg3 rfl (gives_blk (.tail _ (.tail _ (.head _))) rfl)) ?_
   refine t_f3 ?_
   refine tc rfl (en_fn Try.call22 rfl) (rat_ok (es := e2) xy (by omega)) ?_
   rintro _ _ ⟨rfl, rfl⟩
   rw [show keyT xy e2 = keyK k2 xy from (hrow2.at _).1]
   rw [show (fndT xy e2).isSome = hasK k2 xy from (hrow2.at _).2]
   refine tp rfl (lv_move rfl) ?_
   refine tp rfl (lv_extract rfl rfl) ?_
   refine tp rfl (lv_extract rfl rfl) ?_
   refine tp rfl (lv_assign rfl) ?_
   refine tp rfl (lv_assign rfl) ?_
   refine t_done ?_
   refine q_then_n (hK18 _ _ ?_)
   refine c_seq (fun K19 hK19 => ?_)
   refine t_openP (fun bs6 cp7 hok8 hle9 => ?_)
   have hnb := hrow2.nextB
   have hnv := fun hb => (hrow2.nextV hb).1
   have hnl := fun hb => (hrow2.nextV hb).2
   have hlen : ((cntK k2 : Nat) : Int) = ((e2.length : Nat) : Int) := congrArg _ hrow2.len.symm
   have hz := fun hb => (fst_zero (ks := k2) hb).2.2
   rcases hh10 : fstB k2 with _ | _
   · -- false
    refine c_draw (γ := Unit) (n := 58) Try.mixed rfl rfl (fun _ S => True) (fun _ => [(0, 110, (.bool true)), (1, 111, (.bool false)), (2, 112, (.bool false)), (3, 113, (.bool false)), (4, 114, (.pointer (some ⟨b3, 0, none⟩))), (5, 115, (.pointer (some ⟨b3, 0, none⟩))), (6, 116, (.pointer (some ⟨b3, 1, none⟩))), (7, 117, (.slice bs6 e2.length cp7)), (8, 118, (.int .i64 ((e2.length : Nat) : Int))), (9, 119, (.bool (decide (((e2.length : Nat) : Int) > 0)))), (10, 120, (.bool false)), (11, 121, (.bool false)), (12, 122, (.bool false)), (13, 123, (.bool false)), (14, 124, (.bool false)), (15, 125, undef), (16, 126, undef), (17, 127, undef), (18, 128, undef), (19, 129, undef), (20, 130, undef), (21, 131, undef), (22, 132, undef), (23, 133, undef), (24, 134, (.bool false)), (25, 135, (.bool false)), (26, 136, (.bool false)), (27, 137, (.bool false)), (28, 138, (.bool true)), (29, 139, (.bool true)), (30, 140, (.int .i64 (fstV k2))), (31, 141, (.bool false)), (32, 142, (.bool false)), (33, 143, (.bool false)), (34, 144, (.bool false)), (35, 145, (.int .i64 (keyK k2 xy))), (36, 146, (.int .i64 (keyK k2 xy))), (37, 147, (.bool false)), (38, 148, (.bool false)), (39, 149, (.bool false)), (40, 150, (.bool (hasK k2 xy))), (41, 151, (.bool (hasK k2 xy))), (42, 152, (.bool false)), (43, 153, (.bool false)), (44, 154, (.bool false)), (45, 155, (.pointer (some ⟨p1, 0, none⟩))), (46, 156, (.pointer (some ⟨p1, 0, none⟩))), (47, 157, (.pointer (some ⟨p1, 0, none⟩))), (48, 158, (.pointer (some ⟨p1, 0, none⟩))), (49, 159, (.pointer (some ⟨q2, 0, none⟩))), (50, 160, (.int .i64 ((cntK k2 : Nat) : Int))), (51, 161, (.pointer (some ⟨b3, 0, none⟩))), (52, 162, (.pointer (some ⟨b3, 0, none⟩))), (53, 163, (.pointer (some ⟨b3, 1, none⟩))), (54, 164, (.slice bs6 e2.length cp7)), (55, 165, (.int .i64 ((e2.length : Nat) : Int))), (56, 166, (.bool false)), (57, 167, (.bool false))]) (fun _ S => (Blk b3 [(.int .i64 n), (.slice bs6 e2.length cp7)] 52) :: (SlT 55 2 (.slice bs6 e2.length cp7) e2.length (pairs e2)) :: (Blk p1 [(.pointer (some ⟨q2, 0, none⟩))] 37) :: (HeapO q2 (hclamp n) k2) :: (Blk b5 [(.int .i64 xx), (.int .i64 xy), (.int .i64 xz)] 41) :: R) (()) trivial (fun _ h => h) (fun _ _ h => h) ?_ ?_
    · -- steps
     refine ⟨?_, ?_, ?_, ?_, ?_, ?_, ?_, ?_, ?_, ?_, ?_, ?_, ?_, ?_, ?_, ?_, ?_, ?_, ?_, ?_, ?_, ?_, ?_, ?_, ?_, ?_, ?_, ?_, ?_, ?_, ?_, ?_, ?_, ?_, ?_, ?_, ?_, ?_, ?_, ?_, ?_, ?_, ?_, ?_, ?_, ?_, ?_, ?_, ?_, ?_, ?_, ?_, ?_, ?_, ?_, ?_, ?_, ?_, trivial⟩
     · -- 0
      rintro _ S hF hS D hp K hK
      try dsimp only at hF ⊢
      refine d_need (small := [(10, (.bool true))]) ⟨look_b rfl rfl, trivial⟩ ?_
      refine tp rfl (lv_move rfl) ?_
      exact d_closes ⟨look_b rfl rfl, trivial⟩ 0 rfl rfl rfl hS (AgreeR.refl _) (t_sat (fun _ h => h) (hK () trivial))
     · -- 1
      rintro _ S hF hS D hp K hK
      try dsimp only at hF ⊢
      have s0 := hp 0 rfl
      refine d_need (small := [(110, (.bool true))]) ⟨look_row rfl 0 rfl s0, trivial⟩ ?_
      refine tp rfl (lv_not (c := false) rfl rfl) ?_
      exact d_closes ⟨look_row rfl 0 rfl s0, trivial⟩ 1 rfl rfl rfl hS (AgreeR.refl _) (t_sat (fun _ h => h) (hK () trivial))
     · -- 2
      rintro _ S hF hS D hp K hK
      try dsimp only at hF ⊢
      have s1 := hp 1 rfl
      refine d_need (small := [(111, (.bool false))]) ⟨look_row rfl 1 rfl s1, trivial⟩ ?_
      refine tp rfl (lv_move rfl) ?_
      exact d_closes ⟨look_row rfl 1 rfl s1, trivial⟩ 2 rfl rfl rfl hS (AgreeR.refl _) (t_sat (fun _ h => h) (hK () trivial))
     · -- 3
      rintro _ S hF hS D hp K hK
      try dsimp only at hF ⊢
      have s2 := hp 2 rfl
      refine d_need (small := [(14, (.bool false)), (112, (.bool false))]) ⟨look_b rfl rfl, look_row rfl 2 rfl s2, trivial⟩ ?_
      refine t_guard rfl rfl ?_
      refine tp rfl (lv_move rfl) ?_
      exact d_closes ⟨look_b rfl rfl, look_row rfl 2 rfl s2, trivial⟩ 3 rfl rfl rfl hS (AgreeR.refl _) (t_sat (fun _ h => h) (hK () trivial))
     · -- 4
      rintro _ S hF hS D hp K hK
      try dsimp only at hF ⊢
      have s2 := hp 2 rfl
      refine d_need (small := [(7, (.pointer (some ⟨b3, 0, none⟩))), (112, (.bool false))]) ⟨look_b rfl rfl, look_row rfl 2 rfl s2, trivial⟩ ?_
      refine t_guard rfl rfl ?_
      refine tp rfl (lv_move rfl) ?_
      exact d_closes ⟨look_b rfl rfl, look_row rfl 2 rfl s2, trivial⟩ 4 rfl rfl rfl hS (AgreeR.refl _) (t_sat (fun _ h => h) (hK () trivial))
     · -- 5
      rintro _ S hF hS D hp K hK
      try dsimp only at hF ⊢
      have s2 := hp 2 rfl
      have s4 := hp 4 rfl
      refine d_need (small := [(112, (.bool false)), (114, (.pointer (some ⟨b3, 0, none⟩)))]) ⟨look_row rfl 2 rfl s2, look_row rfl 4 rfl s4, trivial⟩ ?_
      refine t_guard rfl rfl ?_
      refine tp rfl (lv_nilCheck rfl) ?_
      exact d_closes ⟨look_row rfl 2 rfl s2, look_row rfl 4 rfl s4, trivial⟩ 5 rfl rfl rfl hS (AgreeR.refl _) (t_sat (fun _ h => h) (hK () trivial))
     · -- 6
      rintro _ S hF hS D hp K hK
      try dsimp only at hF ⊢
      have s2 := hp 2 rfl
      have s5 := hp 5 rfl
      refine d_need (small := [(112, (.bool false)), (115, (.pointer (some ⟨b3, 0, none⟩)))]) ⟨look_row rfl 2 rfl s2, look_row rfl 5 rfl s5, trivial⟩ ?_
      refine t_guard rfl rfl ?_
      refine tp rfl (lv_fieldAddr (o' := 1) Try.underlying52 rfl Try.sizeOf50 rfl rfl) ?_
      exact d_closes ⟨look_row rfl 2 rfl s2, look_row rfl 5 rfl s5, trivial⟩ 6 rfl rfl rfl hS (AgreeR.refl _) (t_sat (fun _ h => h) (hK () trivial))
     · -- 7
      rintro _ S hF hS D hp K hK
      try dsimp only at hF ⊢
      have s2 := hp 2 rfl
      have s6 := hp 6 rfl
      refine d_need (small := [(112, (.bool false)), (116, (.pointer (some ⟨b3, 1, none⟩)))]) ⟨look_row rfl 2 rfl s2, look_row rfl 6 rfl s6, trivial⟩ ?_
      refine t_guard rfl rfl ?_
      refine tp rfl (lv_load Try.isAgg50 rfl (gives_blk (.head _) rfl)) ?_
      exact d_closes ⟨look_row rfl 2 rfl s2, look_row rfl 6 rfl s6, trivial⟩ 7 rfl rfl rfl hS (AgreeR.refl _) (t_sat (fun _ h => h) (hK () trivial))
     · -- 8
      rintro _ S hF hS D hp K hK
      try dsimp only at hF ⊢
      have s2 := hp 2 rfl
      have s7 := hp 7 rfl
      refine d_need (small := [(112, (.bool false)), (117, (.slice bs6 e2.length cp7))]) ⟨look_row rfl 2 rfl s2, look_row rfl 7 rfl s7, trivial⟩ ?_
      refine t_guard rfl rfl ?_
      refine tp rfl (lv_len Try.underlying50 rfl rfl) ?_
      exact d_closes ⟨look_row rfl 2 rfl s2, look_row rfl 7 rfl s7, trivial⟩ 8 rfl rfl rfl hS (AgreeR.refl _) (t_sat (fun _ h => h) (hK () trivial))
     · -- 9
      rintro _ S hF hS D hp K hK
      try dsimp only at hF ⊢
      have s2 := hp 2 rfl
      have s8 := hp 8 rfl
      refine d_need (small := [(112, (.bool false)), (118, (.int .i64 ((e2.length : Nat) : Int)))]) ⟨look_row rfl 2 rfl s2, look_row rfl 8 rfl s8, trivial⟩ ?_
      refine t_guard rfl rfl ?_
      refine tp rfl (lv_gtr rfl rfl rfl) ?_
      exact d_closes ⟨look_row rfl 2 rfl s2, look_row rfl 8 rfl s8, trivial⟩ 9 rfl rfl rfl hS (AgreeR.refl _) (t_sat (fun _ h => h) (hK () trivial))
     · -- 10
      rintro _ S hF hS D hp K hK
      try dsimp only at hF ⊢
      have s2 := hp 2 rfl
      have s3 := hp 3 rfl
      have s9 := hp 9 rfl
      refine d_need (small := [(112, (.bool false)), (113, (.bool false)), (119, (.bool (decide (((e2.length : Nat) : Int) > 0))))]) ⟨look_row rfl 2 rfl s2, look_row rfl 3 rfl s3, look_row rfl 9 rfl s9, trivial⟩ ?_
      refine t_guard rfl rfl ?_
      refine tp rfl (lv_neb Try.underlying4 rfl rfl (show (false != decide (((e2.length : Nat) : Int) > 0)) = false from by rw [← hnb, ‹fstB k2 = false›]; rfl)) ?_
      exact d_closes ⟨look_row rfl 2 rfl s2, look_row rfl 3 rfl s3, look_row rfl 9 rfl s9, trivial⟩ 10 rfl rfl rfl hS (AgreeR.refl _) (t_sat (fun _ h => h) (hK () trivial))
     · -- 11
      rintro _ S hF hS D hp K hK
      try dsimp only at hF ⊢
      have s2 := hp 2 rfl
      have s10 := hp 10 rfl
      refine d_need (small := [(112, (.bool false)), (120, (.bool false))]) ⟨look_row rfl 2 rfl s2, look_row rfl 10 rfl s10, trivial⟩ ?_
      refine tp rfl (lv_pick_f rfl rfl) ?_
      exact d_closes ⟨look_row rfl 2 rfl s2, look_row rfl 10 rfl s10, trivial⟩ 11 rfl rfl rfl hS (AgreeR.refl _) (t_sat (fun _ h => h) (hK () trivial))
     · -- 12
      rintro _ S hF hS D hp K hK
      try dsimp only at hF ⊢
      have s11 := hp 11 rfl
      refine d_need (small := [(121, (.bool false))]) ⟨look_row rfl 11 rfl s11, trivial⟩ ?_
      refine tp rfl (lv_move rfl) ?_
      exact d_closes ⟨look_row rfl 11 rfl s11, trivial⟩ 12 rfl rfl rfl hS (AgreeR.refl _) (t_sat (fun _ h => h) (hK () trivial))
     · -- 13
      rintro _ S hF hS D hp K hK
      try dsimp only at hF ⊢
      have s12 := hp 12 rfl
      refine d_need (small := [(14, (.bool false)), (122, (.bool false))]) ⟨look_b rfl rfl, look_row rfl 12 rfl s12, trivial⟩ ?_
      refine t_guard rfl rfl ?_
      refine tp rfl (lv_move rfl) ?_
      exact d_closes ⟨look_b rfl rfl, look_row rfl 12 rfl s12, trivial⟩ 13 rfl rfl rfl hS (AgreeR.refl _) (t_sat (fun _ h => h) (hK () trivial))
     · -- 14
      rintro _ S hF hS D hp K hK
      try dsimp only at hF ⊢
      have s12 := hp 12 rfl
      have s13 := hp 13 rfl
      refine d_need (small := [(122, (.bool false)), (123, (.bool false))]) ⟨look_row rfl 12 rfl s12, look_row rfl 13 rfl s13, trivial⟩ ?_
      refine t_guard rfl rfl ?_
      refine tp rfl (lv_move rfl) ?_
      exact d_closes ⟨look_row rfl 12 rfl s12, look_row rfl 13 rfl s13, trivial⟩ 14 rfl rfl rfl hS (AgreeR.refl _) (t_sat (fun _ h => h) (hK () trivial))
     · -- 15
      rintro _ S hF hS D hp K hK
      try dsimp only at hF ⊢
      have s14 := hp 14 rfl
      refine d_need (small := [(13, (.int .i64 (fstV k2))), (124, (.bool false))]) ⟨look_b rfl rfl, look_row rfl 14 rfl s14, trivial⟩ ?_
      refine t_skip rfl rfl rfl ?_
      exact d_closes ⟨look_b rfl rfl, look_row rfl 14 rfl s14, trivial⟩ 15 rfl rfl rfl hS (AgreeR.refl _) (t_sat (fun _ h => h) (hK () trivial))
     · -- 16
      rintro _ S hF hS D hp K hK
      try dsimp only at hF ⊢
      have s14 := hp 14 rfl
      refine d_need (small := [(7, (.pointer (some ⟨b3, 0, none⟩))), (124, (.bool false))]) ⟨look_b rfl rfl, look_row rfl 14 rfl s14, trivial⟩ ?_
      refine t_skip rfl rfl rfl ?_
      exact d_closes ⟨look_b rfl rfl, look_row rfl 14 rfl s14, trivial⟩ 16 rfl rfl rfl hS (AgreeR.refl _) (t_sat (fun _ h => h) (hK () trivial))
     · -- 17
      rintro _ S hF hS D hp K hK
      try dsimp only at hF ⊢
      have s14 := hp 14 rfl
      have s16 := hp 16 rfl
      refine d_need (small := [(124, (.bool false)), (126, undef)]) ⟨look_row rfl 14 rfl s14, look_row rfl 16 rfl s16, trivial⟩ ?_
      refine t_skip rfl rfl rfl ?_
      exact d_closes ⟨look_row rfl 14 rfl s14, look_row rfl 16 rfl s16, trivial⟩ 17 rfl rfl rfl hS (AgreeR.refl _) (t_sat (fun _ h => h) (hK () trivial))
     · -- 18
      rintro _ S hF hS D hp K hK
      try dsimp only at hF ⊢
      have s14 := hp 14 rfl
      have s17 := hp 17 rfl
      refine d_need (small := [(124, (.bool false)), (127, undef)]) ⟨look_row rfl 14 rfl s14, look_row rfl 17 rfl s17, trivial⟩ ?_
      refine t_skip rfl rfl rfl ?_
      exact d_closes ⟨look_row rfl 14 rfl s14, look_row rfl 17 rfl s17, trivial⟩ 18 rfl rfl rfl hS (AgreeR.refl _) (t_sat (fun _ h => h) (hK () trivial))
     · -- 19
      rintro _ S hF hS D hp K hK
      try dsimp only at hF ⊢
      have s14 := hp 14 rfl
      have s18 := hp 18 rfl
      refine d_need (small := [(124, (.bool false)), (128, undef)]) ⟨look_row rfl 14 rfl s14, look_row rfl 18 rfl s18, trivial⟩ ?_
      refine t_skip rfl rfl rfl ?_
      exact d_closes ⟨look_row rfl 14 rfl s14, look_row rfl 18 rfl s18, trivial⟩ 19 rfl rfl rfl hS (AgreeR.refl _) (t_sat (fun _ h => h) (hK () trivial))
     · -- 20
      rintro _ S hF hS D hp K hK
      try dsimp only at hF ⊢
      have s14 := hp 14 rfl
      have s19 := hp 19 rfl
      refine d_need (small := [(124, (.bool false)), (129, undef)]) ⟨look_row rfl 14 rfl s14, look_row rfl 19 rfl s19, trivial⟩ ?_
      refine t_skip rfl rfl rfl ?_
      exact d_closes ⟨look_row rfl 14 rfl s14, look_row rfl 19 rfl s19, trivial⟩ 20 rfl rfl rfl hS (AgreeR.refl _) (t_sat (fun _ h => h) (hK () trivial))
     · -- 21
      rintro _ S hF hS D hp K hK
      try dsimp only at hF ⊢
      have s14 := hp 14 rfl
      have s20 := hp 20 rfl
      refine d_need (small := [(124, (.bool false)), (130, undef)]) ⟨look_row rfl 14 rfl s14, look_row rfl 20 rfl s20, trivial⟩ ?_
      refine t_skip rfl rfl rfl ?_
      exact d_closes ⟨look_row rfl 14 rfl s14, look_row rfl 20 rfl s20, trivial⟩ 21 rfl rfl rfl hS (AgreeR.refl _) (t_sat (fun _ h => h) (hK () trivial))
     · -- 22
      rintro _ S hF hS D hp K hK
      try dsimp only at hF ⊢
      have s14 := hp 14 rfl
      have s21 := hp 21 rfl
      refine d_need (small := [(124, (.bool false)), (131, undef)]) ⟨look_row rfl 14 rfl s14, look_row rfl 21 rfl s21, trivial⟩ ?_
      refine t_skip rfl rfl rfl ?_
      exact d_closes ⟨look_row rfl 14 rfl s14, look_row rfl 21 rfl s21, trivial⟩ 22 rfl rfl rfl hS (AgreeR.refl _) (t_sat (fun _ h => h) (hK () trivial))
     · -- 23
      rintro _ S hF hS D hp K hK
      try dsimp only at hF ⊢
      have s14 := hp 14 rfl
      have s15 := hp 15 rfl
      have s22 := hp 22 rfl
      refine d_need (small := [(124, (.bool false)), (125, undef), (132, undef)]) ⟨look_row rfl 14 rfl s14, look_row rfl 15 rfl s15, look_row rfl 22 rfl s22, trivial⟩ ?_
      refine t_skip rfl rfl rfl ?_
      exact d_closes ⟨look_row rfl 14 rfl s14, look_row rfl 15 rfl s15, look_row rfl 22 rfl s22, trivial⟩ 23 rfl rfl rfl hS (AgreeR.refl _) (t_sat (fun _ h => h) (hK () trivial))
     · -- 24
      rintro _ S hF hS D hp K hK
      try dsimp only at hF ⊢
      have s12 := hp 12 rfl
      have s14 := hp 14 rfl
      have s23 := hp 23 rfl
      refine d_need (small := [(122, (.bool false)), (124, (.bool false)), (133, undef)]) ⟨look_row rfl 12 rfl s12, look_row rfl 14 rfl s14, look_row rfl 23 rfl s23, trivial⟩ ?_
      refine t_guard rfl rfl ?_
      refine tp rfl (lv_pick_f rfl rfl) ?_
      exact d_closes ⟨look_row rfl 12 rfl s12, look_row rfl 14 rfl s14, look_row rfl 23 rfl s23, trivial⟩ 24 rfl rfl rfl hS (AgreeR.refl _) (t_sat (fun _ h => h) (hK () trivial))
     · -- 25
      rintro _ S hF hS D hp K hK
      try dsimp only at hF ⊢
      have s12 := hp 12 rfl
      have s24 := hp 24 rfl
      refine d_need (small := [(122, (.bool false)), (134, (.bool false))]) ⟨look_row rfl 12 rfl s12, look_row rfl 24 rfl s24, trivial⟩ ?_
      refine tp rfl (lv_pick_f rfl rfl) ?_
      exact d_closes ⟨look_row rfl 12 rfl s12, look_row rfl 24 rfl s24, trivial⟩ 25 rfl rfl rfl hS (AgreeR.refl _) (t_sat (fun _ h => h) (hK () trivial))
     · -- 26
      rintro _ S hF hS D hp K hK
      try dsimp only at hF ⊢
      have s25 := hp 25 rfl
      refine d_need (small := [(135, (.bool false))]) ⟨look_row rfl 25 rfl s25, trivial⟩ ?_
      refine tp rfl (lv_move rfl) ?_
      exact d_closes ⟨look_row rfl 25 rfl s25, trivial⟩ 26 rfl rfl rfl hS (AgreeR.refl _) (t_sat (fun _ h => h) (hK () trivial))
     · -- 27
      rintro _ S hF hS D hp K hK
      try dsimp only at hF ⊢
      have s26 := hp 26 rfl
      refine d_need (small := [(14, (.bool false)), (136, (.bool false))]) ⟨look_b rfl rfl, look_row rfl 26 rfl s26, trivial⟩ ?_
      refine t_guard rfl rfl ?_
      refine tp rfl (lv_move rfl) ?_
      exact d_closes ⟨look_b rfl rfl, look_row rfl 26 rfl s26, trivial⟩ 27 rfl rfl rfl hS (AgreeR.refl _) (t_sat (fun _ h => h) (hK () trivial))
     · -- 28
      rintro _ S hF hS D hp K hK
      try dsimp only at hF ⊢
      have s26 := hp 26 rfl
      have s27 := hp 27 rfl
      refine d_need (small := [(136, (.bool false)), (137, (.bool false))]) ⟨look_row rfl 26 rfl s26, look_row rfl 27 rfl s27, trivial⟩ ?_
      refine t_guard rfl rfl ?_
      refine tp rfl (lv_not (c := true) rfl rfl) ?_
      exact d_closes ⟨look_row rfl 26 rfl s26, look_row rfl 27 rfl s27, trivial⟩ 28 rfl rfl rfl hS (AgreeR.refl _) (t_sat (fun _ h => h) (hK () trivial))
     · -- 29
      rintro _ S hF hS D hp K hK
      try dsimp only at hF ⊢
      have s26 := hp 26 rfl
      have s28 := hp 28 rfl
      refine d_need (small := [(136, (.bool false)), (138, (.bool true))]) ⟨look_row rfl 26 rfl s26, look_row rfl 28 rfl s28, trivial⟩ ?_
      refine t_guard rfl rfl ?_
      refine tp rfl (lv_move rfl) ?_
      exact d_closes ⟨look_row rfl 26 rfl s26, look_row rfl 28 rfl s28, trivial⟩ 29 rfl rfl rfl hS (AgreeR.refl _) (t_sat (fun _ h => h) (hK () trivial))
     · -- 30
      rintro _ S hF hS D hp K hK
      try dsimp only at hF ⊢
      have s29 := hp 29 rfl
      refine d_need (small := [(13, (.int .i64 (fstV k2))), (139, (.bool true))]) ⟨look_b rfl rfl, look_row rfl 29 rfl s29, trivial⟩ ?_
      refine t_guard rfl rfl ?_
      refine tp rfl (lv_move rfl) ?_
      exact d_closes ⟨look_b rfl rfl, look_row rfl 29 rfl s29, trivial⟩ 30 rfl rfl rfl hS (AgreeR.refl _) (t_sat (fun _ h => h) (hK () trivial))
     · -- 31
      rintro _ S hF hS D hp K hK
      try dsimp only at hF ⊢
      have s29 := hp 29 rfl
      have s30 := hp 30 rfl
      refine d_need (small := [(139, (.bool true)), (140, (.int .i64 (fstV k2)))]) ⟨look_row rfl 29 rfl s29, look_row rfl 30 rfl s30, trivial⟩ ?_
      refine t_guard rfl rfl ?_
      refine tp rfl (lv_neq rfl rfl (bne_eq_false_iff_eq.2 (hz ‹_›))) ?_
      exact d_closes ⟨look_row rfl 29 rfl s29, look_row rfl 30 rfl s30, trivial⟩ 31 rfl rfl rfl hS (AgreeR.refl _) (t_sat (fun _ h => h) (hK () trivial))
     · -- 32
      rintro _ S hF hS D hp K hK
      try dsimp only at hF ⊢
      have s26 := hp 26 rfl
      have s29 := hp 29 rfl
      have s31 := hp 31 rfl
      refine d_need (small := [(136, (.bool false)), (139, (.bool true)), (141, (.bool false))]) ⟨look_row rfl 26 rfl s26, look_row rfl 29 rfl s29, look_row rfl 31 rfl s31, trivial⟩ ?_
      refine t_guard rfl rfl ?_
      refine tp rfl (lv_pick_t rfl rfl) ?_
      exact d_closes ⟨look_row rfl 26 rfl s26, look_row rfl 29 rfl s29, look_row rfl 31 rfl s31, trivial⟩ 32 rfl rfl rfl hS (AgreeR.refl _) (t_sat (fun _ h => h) (hK () trivial))
     · -- 33
      rintro _ S hF hS D hp K hK
      try dsimp only at hF ⊢
      have s26 := hp 26 rfl
      have s32 := hp 32 rfl
      refine d_need (small := [(136, (.bool false)), (142, (.bool false))]) ⟨look_row rfl 26 rfl s26, look_row rfl 32 rfl s32, trivial⟩ ?_
      refine tp rfl (lv_pick_f rfl rfl) ?_
      exact d_closes ⟨look_row rfl 26 rfl s26, look_row rfl 32 rfl s32, trivial⟩ 33 rfl rfl rfl hS (AgreeR.refl _) (t_sat (fun _ h => h) (hK () trivial))
     · -- 34
      rintro _ S hF hS D hp K hK
      try dsimp only at hF ⊢
      have s33 := hp 33 rfl
      refine d_need (small := [(143, (.bool false))]) ⟨look_row rfl 33 rfl s33, trivial⟩ ?_
      refine tp rfl (lv_move rfl) ?_
      exact d_closes ⟨look_row rfl 33 rfl s33, trivial⟩ 34 rfl rfl rfl hS (AgreeR.refl _) (t_sat (fun _ h => h) (hK () trivial))
     · -- 35
      rintro _ S hF hS D hp K hK
      try dsimp only at hF ⊢
      have s34 := hp 34 rfl
      refine d_need (small := [(15, (.int .i64 (keyK k2 xy))), (144, (.bool false))]) ⟨look_b rfl rfl, look_row rfl 34 rfl s34, trivial⟩ ?_
      refine t_guard rfl rfl ?_
      refine tp rfl (lv_move rfl) ?_
      exact d_closes ⟨look_b rfl rfl, look_row rfl 34 rfl s34, trivial⟩ 35 rfl rfl rfl hS (AgreeR.refl _) (t_sat (fun _ h => h) (hK () trivial))
     · -- 36
      rintro _ S hF hS D hp K hK
      try dsimp only at hF ⊢
      have s34 := hp 34 rfl
      refine d_need (small := [(17, (.int .i64 (keyK k2 xy))), (144, (.bool false))]) ⟨look_b rfl rfl, look_row rfl 34 rfl s34, trivial⟩ ?_
      refine t_guard rfl rfl ?_
      refine tp rfl (lv_move rfl) ?_
      exact d_closes ⟨look_b rfl rfl, look_row rfl 34 rfl s34, trivial⟩ 36 rfl rfl rfl hS (AgreeR.refl _) (t_sat (fun _ h => h) (hK () trivial))
     · -- 37
      rintro _ S hF hS D hp K hK
      try dsimp only at hF ⊢
      have s34 := hp 34 rfl
      have s35 := hp 35 rfl
      have s36 := hp 36 rfl
      refine d_need (small := [(144, (.bool false)), (145, (.int .i64 (keyK k2 xy))), (146, (.int .i64 (keyK k2 xy)))]) ⟨look_row rfl 34 rfl s34, look_row rfl 35 rfl s35, look_row rfl 36 rfl s36, trivial⟩ ?_
      refine t_guard rfl rfl ?_
      refine tp rfl (lv_neq rfl rfl (bne_eq_false_iff_eq.2 rfl)) ?_
      exact d_closes ⟨look_row rfl 34 rfl s34, look_row rfl 35 rfl s35, look_row rfl 36 rfl s36, trivial⟩ 37 rfl rfl rfl hS (AgreeR.refl _) (t_sat (fun _ h => h) (hK () trivial))
     · -- 38
      rintro _ S hF hS D hp K hK
      try dsimp only at hF ⊢
      have s34 := hp 34 rfl
      have s37 := hp 37 rfl
      refine d_need (small := [(144, (.bool false)), (147, (.bool false))]) ⟨look_row rfl 34 rfl s34, look_row rfl 37 rfl s37, trivial⟩ ?_
      refine tp rfl (lv_pick_f rfl rfl) ?_
      exact d_closes ⟨look_row rfl 34 rfl s34, look_row rfl 37 rfl s37, trivial⟩ 38 rfl rfl rfl hS (AgreeR.refl _) (t_sat (fun _ h => h) (hK () trivial))
     · -- 39
      rintro _ S hF hS D hp K hK
      try dsimp only at hF ⊢
      have s38 := hp 38 rfl
      refine d_need (small := [(148, (.bool false))]) ⟨look_row rfl 38 rfl s38, trivial⟩ ?_
      refine tp rfl (lv_move rfl) ?_
      exact d_closes ⟨look_row rfl 38 rfl s38, trivial⟩ 39 rfl rfl rfl hS (AgreeR.refl _) (t_sat (fun _ h => h) (hK () trivial))
     · -- 40
      rintro _ S hF hS D hp K hK
      try dsimp only at hF ⊢
      have s39 := hp 39 rfl
      refine d_need (small := [(16, (.bool (hasK k2 xy))), (149, (.bool false))]) ⟨look_b rfl rfl, look_row rfl 39 rfl s39, trivial⟩ ?_
      refine t_guard rfl rfl ?_
      refine tp rfl (lv_move rfl) ?_
      exact d_closes ⟨look_b rfl rfl, look_row rfl 39 rfl s39, trivial⟩ 40 rfl rfl rfl hS (AgreeR.refl _) (t_sat (fun _ h => h) (hK () trivial))
     · -- 41
      rintro _ S hF hS D hp K hK
      try dsimp only at hF ⊢
      have s39 := hp 39 rfl
      refine d_need (small := [(18, (.bool (hasK k2 xy))), (149, (.bool false))]) ⟨look_b rfl rfl, look_row rfl 39 rfl s39, trivial⟩ ?_
      refine t_guard rfl rfl ?_
      refine tp rfl (lv_move rfl) ?_
      exact d_closes ⟨look_b rfl rfl, look_row rfl 39 rfl s39, trivial⟩ 41 rfl rfl rfl hS (AgreeR.refl _) (t_sat (fun _ h => h) (hK () trivial))
     · -- 42
      rintro _ S hF hS D hp K hK
      try dsimp only at hF ⊢
      have s39 := hp 39 rfl
      have s40 := hp 40 rfl
      have s41 := hp 41 rfl
      refine d_need (small := [(149, (.bool false)), (150, (.bool (hasK k2 xy))), (151, (.bool (hasK k2 xy)))]) ⟨look_row rfl 39 rfl s39, look_row rfl 40 rfl s40, look_row rfl 41 rfl s41, trivial⟩ ?_
      refine t_guard rfl rfl ?_
      refine tp rfl (lv_neb Try.underlying4 rfl rfl (bne_self_eq_false _)) ?_
      exact d_closes ⟨look_row rfl 39 rfl s39, look_row rfl 40 rfl s40, look_row rfl 41 rfl s41, trivial⟩ 42 rfl rfl rfl hS (AgreeR.refl _) (t_sat (fun _ h => h) (hK () trivial))
     · -- 43
      rintro _ S hF hS D hp K hK
      try dsimp only at hF ⊢
      have s39 := hp 39 rfl
      have s42 := hp 42 rfl
      refine d_need (small := [(149, (.bool false)), (152, (.bool false))]) ⟨look_row rfl 39 rfl s39, look_row rfl 42 rfl s42, trivial⟩ ?_
      refine tp rfl (lv_pick_f rfl rfl) ?_
      exact d_closes ⟨look_row rfl 39 rfl s39, look_row rfl 42 rfl s42, trivial⟩ 43 rfl rfl rfl hS (AgreeR.refl _) (t_sat (fun _ h => h) (hK () trivial))
     · -- 44
      rintro _ S hF hS D hp K hK
      try dsimp only at hF ⊢
      have s43 := hp 43 rfl
      refine d_need (small := [(153, (.bool false))]) ⟨look_row rfl 43 rfl s43, trivial⟩ ?_
      refine tp rfl (lv_move rfl) ?_
      exact d_closes ⟨look_row rfl 43 rfl s43, trivial⟩ 44 rfl rfl rfl hS (AgreeR.refl _) (t_sat (fun _ h => h) (hK () trivial))
     · -- 45
      rintro _ S hF hS D hp K hK
      try dsimp only at hF ⊢
      have s44 := hp 44 rfl
      refine d_need (small := [(6, (.pointer (some ⟨p1, 0, none⟩))), (154, (.bool false))]) ⟨look_b rfl rfl, look_row rfl 44 rfl s44, trivial⟩ ?_
      refine t_guard rfl rfl ?_
      refine tp rfl (lv_move rfl) ?_
      exact d_closes ⟨look_b rfl rfl, look_row rfl 44 rfl s44, trivial⟩ 45 rfl rfl rfl hS (AgreeR.refl _) (t_sat (fun _ h => h) (hK () trivial))
     · -- 46
      rintro _ S hF hS D hp K hK
      try dsimp only at hF ⊢
      have s44 := hp 44 rfl
      have s45 := hp 45 rfl
      refine d_need (small := [(154, (.bool false)), (155, (.pointer (some ⟨p1, 0, none⟩)))]) ⟨look_row rfl 44 rfl s44, look_row rfl 45 rfl s45, trivial⟩ ?_
      refine t_guard rfl rfl ?_
      refine tp rfl (lv_nilCheck rfl) ?_
      exact d_closes ⟨look_row rfl 44 rfl s44, look_row rfl 45 rfl s45, trivial⟩ 46 rfl rfl rfl hS (AgreeR.refl _) (t_sat (fun _ h => h) (hK () trivial))
     · -- 47
      rintro _ S hF hS D hp K hK
      try dsimp only at hF ⊢
      have s44 := hp 44 rfl
      have s46 := hp 46 rfl
      refine d_need (small := [(154, (.bool false)), (156, (.pointer (some ⟨p1, 0, none⟩)))]) ⟨look_row rfl 44 rfl s44, look_row rfl 46 rfl s46, trivial⟩ ?_
      refine t_guard rfl rfl ?_
      refine tp rfl (lv_fieldAddr (o' := 0) Try.underlying37 rfl Try.sizeOf35 rfl rfl) ?_
      exact d_closes ⟨look_row rfl 44 rfl s44, look_row rfl 46 rfl s46, trivial⟩ 47 rfl rfl rfl hS (AgreeR.refl _) (t_sat (fun _ h => h) (hK () trivial))
     · -- 48
      rintro _ S hF hS D hp K hK
      try dsimp only at hF ⊢
      have s44 := hp 44 rfl
      have s47 := hp 47 rfl
      refine d_need (small := [(154, (.bool false)), (157, (.pointer (some ⟨p1, 0, none⟩)))]) ⟨look_row rfl 44 rfl s44, look_row rfl 47 rfl s47, trivial⟩ ?_
      refine t_guard rfl rfl ?_
      refine tp rfl (lv_fieldAddr (o' := 0) Try.underlying35 rfl Try.sizeOf33 rfl rfl) ?_
      exact d_closes ⟨look_row rfl 44 rfl s44, look_row rfl 47 rfl s47, trivial⟩ 48 rfl rfl rfl hS (AgreeR.refl _) (t_sat (fun _ h => h) (hK () trivial))
     · -- 49
      rintro _ S hF hS D hp K hK
      try dsimp only at hF ⊢
      have s44 := hp 44 rfl
      have s48 := hp 48 rfl
      refine d_need (small := [(154, (.bool false)), (158, (.pointer (some ⟨p1, 0, none⟩)))]) ⟨look_row rfl 44 rfl s44, look_row rfl 48 rfl s48, trivial⟩ ?_
      refine t_guard rfl rfl ?_
      refine tp rfl (lv_load Try.isAgg33 rfl (gives_blk (.tail _ (.tail _ (.head _))) rfl)) ?_
      exact d_closes ⟨look_row rfl 44 rfl s44, look_row rfl 48 rfl s48, trivial⟩ 49 rfl rfl rfl hS (AgreeR.refl _) (t_sat (fun _ h => h) (hK () trivial))
     · -- 50
      rintro _ S hF hS D hp K hK
      try dsimp only at hF ⊢
      have s44 := hp 44 rfl
      have s49 := hp 49 rfl
      refine d_need (small := [(154, (.bool false)), (159, (.pointer (some ⟨q2, 0, none⟩)))]) ⟨look_row rfl 44 rfl s44, look_row rfl 49 rfl s49, trivial⟩ ?_
      refine t_guard rfl rfl ?_
      refine t_f3 ?_
      refine tc rfl (en_fn Try.call15 rfl) (hlen_ok (n := hclamp n) (ks := k2) ) ?_
      rintro _ _ ⟨rfl, rfl⟩
      refine t_f3 ?_
      refine t_f3 ?_
      refine t_f3 ?_
      exact d_closes ⟨look_row rfl 44 rfl s44, look_row rfl 49 rfl s49, trivial⟩ 50 rfl rfl rfl hS (AgreeR.refl _) (t_sat (fun _ h => h) (hK () trivial))
     · -- 51
      rintro _ S hF hS D hp K hK
      try dsimp only at hF ⊢
      have s44 := hp 44 rfl
      refine d_need (small := [(7, (.pointer (some ⟨b3, 0, none⟩))), (154, (.bool false))]) ⟨look_b rfl rfl, look_row rfl 44 rfl s44, trivial⟩ ?_
      refine t_guard rfl rfl ?_
      refine tp rfl (lv_move rfl) ?_
      exact d_closes ⟨look_b rfl rfl, look_row rfl 44 rfl s44, trivial⟩ 51 rfl rfl rfl hS (AgreeR.refl _) (t_sat (fun _ h => h) (hK () trivial))
     · -- 52
      rintro _ S hF hS D hp K hK
      try dsimp only at hF ⊢
      have s44 := hp 44 rfl
      have s51 := hp 51 rfl
      refine d_need (small := [(154, (.bool false)), (161, (.pointer (some ⟨b3, 0, none⟩)))]) ⟨look_row rfl 44 rfl s44, look_row rfl 51 rfl s51, trivial⟩ ?_
      refine t_guard rfl rfl ?_
      refine tp rfl (lv_nilCheck rfl) ?_
      exact d_closes ⟨look_row rfl 44 rfl s44, look_row rfl 51 rfl s51, trivial⟩ 52 rfl rfl rfl hS (AgreeR.refl _) (t_sat (fun _ h => h) (hK () trivial))
     · -- 53
      rintro _ S hF hS D hp K hK
      try dsimp only at hF ⊢
      have s44 := hp 44 rfl
      have s52 := hp 52 rfl
      refine d_need (small := [(154, (.bool false)), (162, (.pointer (some ⟨b3, 0, none⟩)))]) ⟨look_row rfl 44 rfl s44, look_row rfl 52 rfl s52, trivial⟩ ?_
      refine t_guard rfl rfl ?_
      refine tp rfl (lv_fieldAddr (o' := 1) Try.underlying52 rfl Try.sizeOf50 rfl rfl) ?_
      exact d_closes ⟨look_row rfl 44 rfl s44, look_row rfl 52 rfl s52, trivial⟩ 53 rfl rfl rfl hS (AgreeR.refl _) (t_sat (fun _ h => h) (hK () trivial))
     · -- 54
      rintro _ S hF hS D hp K hK
      try dsimp only at hF ⊢
      have s44 := hp 44 rfl
      have s53 := hp 53 rfl
      refine d_need (small := [(154, (.bool false)), (163, (.pointer (some ⟨b3, 1, none⟩)))]) ⟨look_row rfl 44 rfl s44, look_row rfl 53 rfl s53, trivial⟩ ?_
      refine t_guard rfl rfl ?_
      refine tp rfl (lv_load Try.isAgg50 rfl (gives_blk (.head _) rfl)) ?_
      exact d_closes ⟨look_row rfl 44 rfl s44, look_row rfl 53 rfl s53, trivial⟩ 54 rfl rfl rfl hS (AgreeR.refl _) (t_sat (fun _ h => h) (hK () trivial))
     · -- 55
      rintro _ S hF hS D hp K hK
      try dsimp only at hF ⊢
      have s44 := hp 44 rfl
      have s54 := hp 54 rfl
      refine d_need (small := [(154, (.bool false)), (164, (.slice bs6 e2.length cp7))]) ⟨look_row rfl 44 rfl s44, look_row rfl 54 rfl s54, trivial⟩ ?_
      refine t_guard rfl rfl ?_
      refine tp rfl (lv_len Try.underlying50 rfl rfl) ?_
      exact d_closes ⟨look_row rfl 44 rfl s44, look_row rfl 54 rfl s54, trivial⟩ 55 rfl rfl rfl hS (AgreeR.refl _) (t_sat (fun _ h => h) (hK () trivial))
     · -- 56
      rintro _ S hF hS D hp K hK
      try dsimp only at hF ⊢
      have s44 := hp 44 rfl
      have s50 := hp 50 rfl
      have s55 := hp 55 rfl
      refine d_need (small := [(154, (.bool false)), (160, (.int .i64 ((cntK k2 : Nat) : Int))), (165, (.int .i64 ((e2.length : Nat) : Int)))]) ⟨look_row rfl 44 rfl s44, look_row rfl 50 rfl s50, look_row rfl 55 rfl s55, trivial⟩ ?_
      refine t_guard rfl rfl ?_
      refine tp rfl (lv_neq rfl rfl (bne_eq_false_iff_eq.2 hlen)) ?_
      exact d_closes ⟨look_row rfl 44 rfl s44, look_row rfl 50 rfl s50, look_row rfl 55 rfl s55, trivial⟩ 56 rfl rfl rfl hS (AgreeR.refl _) (t_sat (fun _ h => h) (hK () trivial))
     · -- 57
      rintro _ S hF hS D hp K hK
      try dsimp only at hF ⊢
      have s44 := hp 44 rfl
      have s56 := hp 56 rfl
      refine d_need (small := [(154, (.bool false)), (166, (.bool false))]) ⟨look_row rfl 44 rfl s44, look_row rfl 56 rfl s56, trivial⟩ ?_
      refine tp rfl (lv_pick_f rfl rfl) ?_
      exact d_closes ⟨look_row rfl 44 rfl s44, look_row rfl 56 rfl s56, trivial⟩ 57 rfl rfl rfl hS (AgreeR.refl _) (t_sat (fun _ h => h) (hK () trivial))
    · -- behind
     rintro _ hF
     try dsimp only at hF ⊢
     refine t_weak (E' := [(0, (.int .i64 n)), (1, (.slice bsb xs.length csb)), (5, (.bool true)), (6, (.pointer (some ⟨p1, 0, none⟩))), (7, (.pointer (some ⟨b3, 0, none⟩))), (8, (.int .i64 ((i : Nat) : Int))), (9, (.pointer (some ⟨b5, 0, none⟩))), (10, (.bool true)), (13, (.int .i64 (fstV k2))), (14, (.bool false)), (15, (.int .i64 (keyK k2 xy))), (16, (.bool (hasK k2 xy))), (17, (.int .i64 (keyK k2 xy))), (18, (.bool (hasK k2 xy))), (26, (.bool false)), (34, (.bool true)), (167, (.bool false))]) ⟨rfl, rfl, rfl, rfl, rfl, rfl, rfl, rfl, rfl, rfl, rfl, rfl, rfl, rfl, rfl, rfl, rfl, trivial⟩ ?_
     refine q_then_n (hK19 _ _ ?_)
     refine c_false rfl ?_
     refine c_skip ?_
     refine q_in_n ?_
     refine q_then_n (hK12 _ _ ?_)
     refine c_region ?_
     refine tp rfl (lv_move rfl) ?_
     refine tp rfl (lv_add (c := ((i + 1 : Nat) : Int)) rfl rfl (wr_i64_succ (by omega))) ?_
     refine tp rfl (lv_assign rfl) ?_
     refine t_done ?_
     refine q_then_n ?_
     refine t_f1 ?_
     refine t_f1 ?_
     refine t_shutP hok8 hle9 ?_
     refine t_f3 ?_
     refine t_drop ?_
     exact t_weak (by exact ⟨rfl, rfl, rfl, rfl, rfl, rfl, rfl, trivial⟩) ((hK9 (i + 1, k2, e2) ⟨by dsimp only; omega, by dsimp only; omega, hrow2, hkl2⟩ (by dsimp only; omega)))
   · -- true
    refine c_draw (γ := Unit) (n := 58) Try.mixed rfl rfl (fun _ S => True) (fun _ => [(0, 110, (.bool true)), (1, 111, (.bool false)), (2, 112, (.bool false)), (3, 113, (.bool true)), (4, 114, (.pointer (some ⟨b3, 0, none⟩))), (5, 115, (.pointer (some ⟨b3, 0, none⟩))), (6, 116, (.pointer (some ⟨b3, 1, none⟩))), (7, 117, (.slice bs6 e2.length cp7)), (8, 118, (.int .i64 ((e2.length : Nat) : Int))), (9, 119, (.bool (decide (((e2.length : Nat) : Int) > 0)))), (10, 120, (.bool false)), (11, 121, (.bool false)), (12, 122, (.bool false)), (13, 123, (.bool true)), (14, 124, (.bool true)), (15, 125, (.int .i64 (fstV k2))), (16, 126, (.pointer (some ⟨b3, 0, none⟩))), (17, 127, (.pointer (some ⟨b3, 0, none⟩))), (18, 128, (.pointer (some ⟨b3, 1, none⟩))), (19, 129, (.slice bs6 e2.length cp7)), (20, 130, (.pointer (some (ad bs6 0)))), (21, 131, (.pointer (some (ad bs6 (0 + 1))))), (22, 132, (.int .i64 (((e2).getD 0 (0, 0)).2))), (23, 133, (.bool false)), (24, 134, (.bool false)), (25, 135, (.bool false)), (26, 136, (.bool false)), (27, 137, (.bool true)), (28, 138, (.bool false)), (29, 139, (.bool false)), (30, 140, undef), (31, 141, undef), (32, 142, (.bool false)), (33, 143, (.bool false)), (34, 144, (.bool false)), (35, 145, (.int .i64 (keyK k2 xy))), (36, 146, (.int .i64 (keyK k2 xy))), (37, 147, (.bool false)), (38, 148, (.bool false)), (39, 149, (.bool false)), (40, 150, (.bool (hasK k2 xy))), (41, 151, (.bool (hasK k2 xy))), (42, 152, (.bool false)), (43, 153, (.bool false)), (44, 154, (.bool false)), (45, 155, (.pointer (some ⟨p1, 0, none⟩))), (46, 156, (.pointer (some ⟨p1, 0, none⟩))), (47, 157, (.pointer (some ⟨p1, 0, none⟩))), (48, 158, (.pointer (some ⟨p1, 0, none⟩))), (49, 159, (.pointer (some ⟨q2, 0, none⟩))), (50, 160, (.int .i64 ((cntK k2 : Nat) : Int))), (51, 161, (.pointer (some ⟨b3, 0, none⟩))), (52, 162, (.pointer (some ⟨b3, 0, none⟩))), (53, 163, (.pointer (some ⟨b3, 1, none⟩))), (54, 164, (.slice bs6 e2.length cp7)), (55, 165, (.int .i64 ((e2.length : Nat) : Int))), (56, 166, (.bool false)), (57, 167, (.bool false))]) (fun _ S => (Blk b3 [(.int .i64 n), (.slice bs6 e2.length cp7)] 52) :: (SlT 55 2 (.slice bs6 e2.length cp7) e2.length (pairs e2)) :: (Blk p1 [(.pointer (some ⟨q2, 0, none⟩))] 37) :: (HeapO q2 (hclamp n) k2) :: (Blk b5 [(.int .i64 xx), (.int .i64 xy), (.int .i64 xz)] 41) :: R) (()) trivial (fun _ h => h) (fun _ _ h => h) ?_ ?_
    · -- steps
     refine ⟨?_, ?_, ?_, ?_, ?_, ?_, ?_, ?_, ?_, ?_, ?_, ?_, ?_, ?_, ?_, ?_, ?_, ?_, ?_, ?_, ?_, ?_, ?_, ?_, ?_, ?_, ?_, ?_, ?_, ?_, ?_, ?_, ?_, ?_, ?_, ?_, ?_, ?_, ?_, ?_, ?_, ?_, ?_, ?_, ?_, ?_, ?_, ?_, ?_, ?_, ?_, ?_, ?_, ?_, ?_, ?_, ?_, ?_, trivial⟩
     · -- 0
      rintro _ S hF hS D hp K hK
      try dsimp only at hF ⊢
      refine d_need (small := [(10, (.bool true))]) ⟨look_b rfl rfl, trivial⟩ ?_
      refine tp rfl (lv_move rfl) ?_
      exact d_closes ⟨look_b rfl rfl, trivial⟩ 0 rfl rfl rfl hS (AgreeR.refl _) (t_sat (fun _ h => h) (hK () trivial))
     · -- 1
      rintro _ S hF hS D hp K hK
      try dsimp only at hF ⊢
      have s0 := hp 0 rfl
      refine d_need (small := [(110, (.bool true))]) ⟨look_row rfl 0 rfl s0, trivial⟩ ?_
      refine tp rfl (lv_not (c := false) rfl rfl) ?_
      exact d_closes ⟨look_row rfl 0 rfl s0, trivial⟩ 1 rfl rfl rfl hS (AgreeR.refl _) (t_sat (fun _ h => h) (hK () trivial))
     · -- 2
      rintro _ S hF hS D hp K hK
      try dsimp only at hF ⊢
      have s1 := hp 1 rfl
      refine d_need (small := [(111, (.bool false))]) ⟨look_row rfl 1 rfl s1, trivial⟩ ?_
      refine tp rfl (lv_move rfl) ?_
      exact d_closes ⟨look_row rfl 1 rfl s1, trivial⟩ 2 rfl rfl rfl hS (AgreeR.refl _) (t_sat (fun _ h => h) (hK () trivial))
     · -- 3
      rintro _ S hF hS D hp K hK
      try dsimp only at hF ⊢
      have s2 := hp 2 rfl
      refine d_need (small := [(14, (.bool true)), (112, (.bool false))]) ⟨look_b rfl rfl, look_row rfl 2 rfl s2, trivial⟩ ?_
      refine t_guard rfl rfl ?_
      refine tp rfl (lv_move rfl) ?_
      exact d_closes ⟨look_b rfl rfl, look_row rfl 2 rfl s2, trivial⟩ 3 rfl rfl rfl hS (AgreeR.refl _) (t_sat (fun _ h => h) (hK () trivial))
     · -- 4
      rintro _ S hF hS D hp K hK
      try dsimp only at hF ⊢
      have s2 := hp 2 rfl
      refine d_need (small := [(7, (.pointer (some ⟨b3, 0, none⟩))), (112, (.bool false))]) ⟨look_b rfl rfl, look_row rfl 2 rfl s2, trivial⟩ ?_
      refine t_guard rfl rfl ?_
      refine tp rfl (lv_move rfl) ?_
      exact d_closes ⟨look_b rfl rfl, look_row rfl 2 rfl s2, trivial⟩ 4 rfl rfl rfl hS (AgreeR.refl _) (t_sat (fun _ h => h) (hK () trivial))
     · -- 5
      rintro _ S hF hS D hp K hK
      try dsimp only at hF ⊢
      have s2 := hp 2 rfl
      have s4 := hp 4 rfl
      refine d_need (small := [(112, (.bool false)), (114, (.pointer (some ⟨b3, 0, none⟩)))]) ⟨look_row rfl 2 rfl s2, look_row rfl 4 rfl s4, trivial⟩ ?_
      refine t_guard rfl rfl ?_
      refine tp rfl (lv_nilCheck rfl) ?_
      exact d_closes ⟨look_row rfl 2 rfl s2, look_row rfl 4 rfl s4, trivial⟩ 5 rfl rfl rfl hS (AgreeR.refl _) (t_sat (fun _ h => h) (hK () trivial))
     · -- 6
      rintro _ S hF hS D hp K hK
      try dsimp only at hF ⊢
      have s2 := hp 2 rfl
      have s5 := hp 5 rfl
      refine d_need (small := [(112, (.bool false)), (115, (.pointer (some ⟨b3, 0, none⟩)))]) ⟨look_row rfl 2 rfl s2, look_row rfl 5 rfl s5, trivial⟩ ?_
      refine t_guard rfl rfl ?_
      refine tp rfl (lv_fieldAddr (o' := 1) Try.underlying52 rfl Try.sizeOf50 rfl rfl) ?_
      exact d_closes ⟨look_row rfl 2 rfl s2, look_row rfl 5 rfl s5, trivial⟩ 6 rfl rfl rfl hS (AgreeR.refl _) (t_sat (fun _ h => h) (hK () trivial))
     · -- 7
      rintro _ S hF hS D hp K hK
      try dsimp only at hF ⊢
      have s2 := hp 2 rfl
      have s6 := hp 6 rfl
      refine d_need (small := [(112, (.bool false)), (116, (.pointer (some ⟨b3, 1, none⟩)))]) ⟨look_row rfl 2 rfl s2, look_row rfl 6 rfl s6, trivial⟩ ?_
      refine t_guard rfl rfl ?_
      refine tp rfl (lv_load Try.isAgg50 rfl (gives_blk (.head _) rfl)) ?_
      exact d_closes ⟨look_row rfl 2 rfl s2, look_row rfl 6 rfl s6, trivial⟩ 7 rfl rfl rfl hS (AgreeR.refl _) (t_sat (fun _ h => h) (hK () trivial))
     · -- 8
      rintro _ S hF hS D hp K hK
      try dsimp only at hF ⊢
      have s2 := hp 2 rfl
      have s7 := hp 7 rfl
      refine d_need (small := [(112, (.bool false)), (117, (.slice bs6 e2.length cp7))]) ⟨look_row rfl 2 rfl s2, look_row rfl 7 rfl s7, trivial⟩ ?_
      refine t_guard rfl rfl ?_
      refine tp rfl (lv_len Try.underlying50 rfl rfl) ?_
      exact d_closes ⟨look_row rfl 2 rfl s2, look_row rfl 7 rfl s7, trivial⟩ 8 rfl rfl rfl hS (AgreeR.refl _) (t_sat (fun _ h => h) (hK () trivial))
     · -- 9
      rintro _ S hF hS D hp K hK
      try dsimp only at hF ⊢
      have s2 := hp 2 rfl
      have s8 := hp 8 rfl
      refine d_need (small := [(112, (.bool false)), (118, (.int .i64 ((e2.length : Nat) : Int)))]) ⟨look_row rfl 2 rfl s2, look_row rfl 8 rfl s8, trivial⟩ ?_
      refine t_guard rfl rfl ?_
      refine tp rfl (lv_gtr rfl rfl rfl) ?_
      exact d_closes ⟨look_row rfl 2 rfl s2, look_row rfl 8 rfl s8, trivial⟩ 9 rfl rfl rfl hS (AgreeR.refl _) (t_sat (fun _ h => h) (hK () trivial))
     · -- 10
      rintro _ S hF hS D hp K hK
      try dsimp only at hF ⊢
      have s2 := hp 2 rfl
      have s3 := hp 3 rfl
      have s9 := hp 9 rfl
      refine d_need (small := [(112, (.bool false)), (113, (.bool true)), (119, (.bool (decide (((e2.length : Nat) : Int) > 0))))]) ⟨look_row rfl 2 rfl s2, look_row rfl 3 rfl s3, look_row rfl 9 rfl s9, trivial⟩ ?_
      refine t_guard rfl rfl ?_
      refine tp rfl (lv_neb Try.underlying4 rfl rfl (show (true != decide (((e2.length : Nat) : Int) > 0)) = false from by rw [← hnb, ‹fstB k2 = true›]; rfl)) ?_
      exact d_closes ⟨look_row rfl 2 rfl s2, look_row rfl 3 rfl s3, look_row rfl 9 rfl s9, trivial⟩ 10 rfl rfl rfl hS (AgreeR.refl _) (t_sat (fun _ h => h) (hK () trivial))
     · -- 11
      rintro _ S hF hS D hp K hK
      try dsimp only at hF ⊢
      have s2 := hp 2 rfl
      have s10 := hp 10 rfl
      refine d_need (small := [(112, (.bool false)), (120, (.bool false))]) ⟨look_row rfl 2 rfl s2, look_row rfl 10 rfl s10, trivial⟩ ?_
      refine tp rfl (lv_pick_f rfl rfl) ?_
      exact d_closes ⟨look_row rfl 2 rfl s2, look_row rfl 10 rfl s10, trivial⟩ 11 rfl rfl rfl hS (AgreeR.refl _) (t_sat (fun _ h => h) (hK () trivial))
     · -- 12
      rintro _ S hF hS D hp K hK
      try dsimp only at hF ⊢
      have s11 := hp 11 rfl
      refine d_need (small := [(121, (.bool false))]) ⟨look_row rfl 11 rfl s11, trivial⟩ ?_
      refine tp rfl (lv_move rfl) ?_
      exact d_closes ⟨look_row rfl 11 rfl s11, trivial⟩ 12 rfl rfl rfl hS (AgreeR.refl _) (t_sat (fun _ h => h) (hK () trivial))
     · -- 13
      rintro _ S hF hS D hp K hK
      try dsimp only at hF ⊢
      have s12 := hp 12 rfl
      refine d_need (small := [(14, (.bool true)), (122, (.bool false))]) ⟨look_b rfl rfl, look_row rfl 12 rfl s12, trivial⟩ ?_
      refine t_guard rfl rfl ?_
      refine tp rfl (lv_move rfl) ?_
      exact d_closes ⟨look_b rfl rfl, look_row rfl 12 rfl s12, trivial⟩ 13 rfl rfl rfl hS (AgreeR.refl _) (t_sat (fun _ h => h) (hK () trivial))
     · -- 14
      rintro _ S hF hS D hp K hK
      try dsimp only at hF ⊢
      have s12 := hp 12 rfl
      have s13 := hp 13 rfl
      refine d_need (small := [(122, (.bool false)), (123, (.bool true))]) ⟨look_row rfl 12 rfl s12, look_row rfl 13 rfl s13, trivial⟩ ?_
      refine t_guard rfl rfl ?_
      refine tp rfl (lv_move rfl) ?_
      exact d_closes ⟨look_row rfl 12 rfl s12, look_row rfl 13 rfl s13, trivial⟩ 14 rfl rfl rfl hS (AgreeR.refl _) (t_sat (fun _ h => h) (hK () trivial))
     · -- 15
      rintro _ S hF hS D hp K hK
      try dsimp only at hF ⊢
      have s14 := hp 14 rfl
      refine d_need (small := [(13, (.int .i64 (fstV k2))), (124, (.bool true))]) ⟨look_b rfl rfl, look_row rfl 14 rfl s14, trivial⟩ ?_
      refine t_guard rfl rfl ?_
      refine tp rfl (lv_move rfl) ?_
      exact d_closes ⟨look_b rfl rfl, look_row rfl 14 rfl s14, trivial⟩ 15 rfl rfl rfl hS (AgreeR.refl _) (t_sat (fun _ h => h) (hK () trivial))
     · -- 16
      rintro _ S hF hS D hp K hK
      try dsimp only at hF ⊢
      have s14 := hp 14 rfl
      refine d_need (small := [(7, (.pointer (some ⟨b3, 0, none⟩))), (124, (.bool true))]) ⟨look_b rfl rfl, look_row rfl 14 rfl s14, trivial⟩ ?_
      refine t_guard rfl rfl ?_
      refine tp rfl (lv_move rfl) ?_
      exact d_closes ⟨look_b rfl rfl, look_row rfl 14 rfl s14, trivial⟩ 16 rfl rfl rfl hS (AgreeR.refl _) (t_sat (fun _ h => h) (hK () trivial))
     · -- 17
      rintro _ S hF hS D hp K hK
      try dsimp only at hF ⊢
      have s14 := hp 14 rfl
      have s16 := hp 16 rfl
      refine d_need (small := [(124, (.bool true)), (126, (.pointer (some ⟨b3, 0, none⟩)))]) ⟨look_row rfl 14 rfl s14, look_row rfl 16 rfl s16, trivial⟩ ?_
      refine t_guard rfl rfl ?_
      refine tp rfl (lv_nilCheck rfl) ?_
      exact d_closes ⟨look_row rfl 14 rfl s14, look_row rfl 16 rfl s16, trivial⟩ 17 rfl rfl rfl hS (AgreeR.refl _) (t_sat (fun _ h => h) (hK () trivial))
     · -- 18
      rintro _ S hF hS D hp K hK
      try dsimp only at hF ⊢
      have s14 := hp 14 rfl
      have s17 := hp 17 rfl
      refine d_need (small := [(124, (.bool true)), (127, (.pointer (some ⟨b3, 0, none⟩)))]) ⟨look_row rfl 14 rfl s14, look_row rfl 17 rfl s17, trivial⟩ ?_
      refine t_guard rfl rfl ?_
      refine tp rfl (lv_fieldAddr (o' := 1) Try.underlying52 rfl Try.sizeOf50 rfl rfl) ?_
      exact d_closes ⟨look_row rfl 14 rfl s14, look_row rfl 17 rfl s17, trivial⟩ 18 rfl rfl rfl hS (AgreeR.refl _) (t_sat (fun _ h => h) (hK () trivial))
     · -- 19
      rintro _ S hF hS D hp K hK
      try dsimp only at hF ⊢
      have s14 := hp 14 rfl
      have s18 := hp 18 rfl
      refine d_need (small := [(124, (.bool true)), (128, (.pointer (some ⟨b3, 1, none⟩)))]) ⟨look_row rfl 14 rfl s14, look_row rfl 18 rfl s18, trivial⟩ ?_
      refine t_guard rfl rfl ?_
      refine tp rfl (lv_load Try.isAgg50 rfl (gives_blk (.head _) rfl)) ?_
      exact d_closes ⟨look_row rfl 14 rfl s14, look_row rfl 18 rfl s18, trivial⟩ 19 rfl rfl rfl hS (AgreeR.refl _) (t_sat (fun _ h => h) (hK () trivial))
     · -- 20
      rintro _ S hF hS D hp K hK
      try dsimp only at hF ⊢
      have s14 := hp 14 rfl
      have s19 := hp 19 rfl
      refine d_need (small := [(124, (.bool true)), (129, (.slice bs6 e2.length cp7))]) ⟨look_row rfl 14 rfl s14, look_row rfl 19 rfl s19, trivial⟩ ?_
      refine t_guard rfl rfl ?_
      refine tp rfl (lv_indexAddr (k' := 0) Try.underlying50 Try.sizeOf55 rfl rfl hok8 (by have := hnl ‹_›; omega) (by have := hnl ‹_›; omega) (by have := hnl ‹_›; omega)) ?_
      exact d_closes ⟨look_row rfl 14 rfl s14, look_row rfl 19 rfl s19, trivial⟩ 20 rfl rfl rfl hS (AgreeR.refl _) (t_sat (fun _ h => h) (hK () trivial))
     · -- 21
      rintro _ S hF hS D hp K hK
      try dsimp only at hF ⊢
      have s14 := hp 14 rfl
      have s20 := hp 20 rfl
      refine d_need (small := [(124, (.bool true)), (130, (.pointer (some (ad bs6 0))))]) ⟨look_row rfl 14 rfl s14, look_row rfl 20 rfl s20, trivial⟩ ?_
      refine t_guard rfl rfl ?_
      refine tp rfl (lv_fieldAddr_ad (o' := 0 + 1) Try.underlying55 rfl Try.sizeOf3 rfl rfl) ?_
      exact d_closes ⟨look_row rfl 14 rfl s14, look_row rfl 20 rfl s20, trivial⟩ 21 rfl rfl rfl hS (AgreeR.refl _) (t_sat (fun _ h => h) (hK () trivial))
     · -- 22
      rintro _ S hF hS D hp K hK
      try dsimp only at hF ⊢
      have s14 := hp 14 rfl
      have s21 := hp 21 rfl
      refine d_need (small := [(124, (.bool true)), (131, (.pointer (some (ad bs6 (0 + 1)))))]) ⟨look_row rfl 14 rfl s14, look_row rfl 21 rfl s21, trivial⟩ ?_
      refine t_guard rfl rfl ?_
      refine tp rfl (lv_load Try.isAgg3 rfl (gives_slt (.tail _ (.head _)) (pairs_get1 (k := 0) (by have := hnl ‹_›; omega)))) ?_
      exact d_closes ⟨look_row rfl 14 rfl s14, look_row rfl 21 rfl s21, trivial⟩ 22 rfl rfl rfl hS (AgreeR.refl _) (t_sat (fun _ h => h) (hK () trivial))
     · -- 23
      rintro _ S hF hS D hp K hK
      try dsimp only at hF ⊢
      have s14 := hp 14 rfl
      have s15 := hp 15 rfl
      have s22 := hp 22 rfl
      refine d_need (small := [(124, (.bool true)), (125, (.int .i64 (fstV k2))), (132, (.int .i64 (((e2).getD 0 (0, 0)).2)))]) ⟨look_row rfl 14 rfl s14, look_row rfl 15 rfl s15, look_row rfl 22 rfl s22, trivial⟩ ?_
      refine t_guard rfl rfl ?_
      refine tp rfl (lv_neq rfl rfl (bne_eq_false_iff_eq.2 (hnv ‹_›))) ?_
      exact d_closes ⟨look_row rfl 14 rfl s14, look_row rfl 15 rfl s15, look_row rfl 22 rfl s22, trivial⟩ 23 rfl rfl rfl hS (AgreeR.refl _) (t_sat (fun _ h => h) (hK () trivial))
     · -- 24
      rintro _ S hF hS D hp K hK
      try dsimp only at hF ⊢
      have s12 := hp 12 rfl
      have s14 := hp 14 rfl
      have s23 := hp 23 rfl
      refine d_need (small := [(122, (.bool false)), (124, (.bool true)), (133, (.bool false))]) ⟨look_row rfl 12 rfl s12, look_row rfl 14 rfl s14, look_row rfl 23 rfl s23, trivial⟩ ?_
      refine t_guard rfl rfl ?_
      refine tp rfl (lv_pick_t rfl rfl) ?_
      exact d_closes ⟨look_row rfl 12 rfl s12, look_row rfl 14 rfl s14, look_row rfl 23 rfl s23, trivial⟩ 24 rfl rfl rfl hS (AgreeR.refl _) (t_sat (fun _ h => h) (hK () trivial))
     · -- 25
      rintro _ S hF hS D hp K hK
      try dsimp only at hF ⊢
      have s12 := hp 12 rfl
      have s24 := hp 24 rfl
      refine d_need (small := [(122, (.bool false)), (134, (.bool false))]) ⟨look_row rfl 12 rfl s12, look_row rfl 24 rfl s24, trivial⟩ ?_
      refine tp rfl (lv_pick_f rfl rfl) ?_
      exact d_closes ⟨look_row rfl 12 rfl s12, look_row rfl 24 rfl s24, trivial⟩ 25 rfl rfl rfl hS (AgreeR.refl _) (t_sat (fun _ h => h) (hK () trivial))
     · -- 26
      rintro _ S hF hS D hp K hK
      try dsimp only at hF ⊢
      have s25 := hp 25 rfl
      refine d_need (small := [(135, (.bool false))]) ⟨look_row rfl 25 rfl s25, trivial⟩ ?_
      refine tp rfl (lv_move rfl) ?_
      exact d_closes ⟨look_row rfl 25 rfl s25, trivial⟩ 26 rfl rfl rfl hS (AgreeR.refl _) (t_sat (fun _ h => h) (hK () trivial))
     · -- 27
      rintro _ S hF hS D hp K hK
      try dsimp only at hF ⊢
      have s26 := hp 26 rfl
      refine d_need (small := [(14, (.bool true)), (136, (.bool false))]) ⟨look_b rfl rfl, look_row rfl 26 rfl s26, trivial⟩ ?_
      refine t_guard rfl rfl ?_
      refine tp rfl (lv_move rfl) ?_
      exact d_closes ⟨look_b rfl rfl, look_row rfl 26 rfl s26, trivial⟩ 27 rfl rfl rfl hS (AgreeR.refl _) (t_sat (fun _ h => h) (hK () trivial))
     · -- 28
      rintro _ S hF hS D hp K hK
      try dsimp only at hF ⊢
      have s26 := hp 26 rfl
      have s27 := hp 27 rfl
      refine d_need (small := [(136, (.bool false)), (137, (.bool true))]) ⟨look_row rfl 26 rfl s26, look_row rfl 27 rfl s27, trivial⟩ ?_
      refine t_guard rfl rfl ?_
      refine tp rfl (lv_not (c := false) rfl rfl) ?_
      exact d_closes ⟨look_row rfl 26 rfl s26, look_row rfl 27 rfl s27, trivial⟩ 28 rfl rfl rfl hS (AgreeR.refl _) (t_sat (fun _ h => h) (hK () trivial))
     · -- 29
      rintro _ S hF hS D hp K hK
      try dsimp only at hF ⊢
      have s26 := hp 26 rfl
      have s28 := hp 28 rfl
      refine d_need (small := [(136, (.bool false)), (138, (.bool false))]) ⟨look_row rfl 26 rfl s26, look_row rfl 28 rfl s28, trivial⟩ ?_
      refine t_guard rfl rfl ?_
      refine tp rfl (lv_move rfl) ?_
      exact d_closes ⟨look_row rfl 26 rfl s26, look_row rfl 28 rfl s28, trivial⟩ 29 rfl rfl rfl hS (AgreeR.refl _) (t_sat (fun _ h => h) (hK () trivial))
     · -- 30
      rintro _ S hF hS D hp K hK
      try dsimp only at hF ⊢
      have s29 := hp 29 rfl
      refine d_need (small := [(13, (.int .i64 (fstV k2))), (139, (.bool false))]) ⟨look_b rfl rfl, look_row rfl 29 rfl s29, trivial⟩ ?_
      refine t_skip rfl rfl rfl ?_
      exact d_closes ⟨look_b rfl rfl, look_row rfl 29 rfl s29, trivial⟩ 30 rfl rfl rfl hS (AgreeR.refl _) (t_sat (fun _ h => h) (hK () trivial))
     · -- 31
      rintro _ S hF hS D hp K hK
      try dsimp only at hF ⊢
      have s29 := hp 29 rfl
      have s30 := hp 30 rfl
      refine d_need (small := [(139, (.bool false)), (140, undef)]) ⟨look_row rfl 29 rfl s29, look_row rfl 30 rfl s30, trivial⟩ ?_
      refine t_skip rfl rfl rfl ?_
      exact d_closes ⟨look_row rfl 29 rfl s29, look_row rfl 30 rfl s30, trivial⟩ 31 rfl rfl rfl hS (AgreeR.refl _) (t_sat (fun _ h => h) (hK () trivial))
     · -- 32
      rintro _ S hF hS D hp K hK
      try dsimp only at hF ⊢
      have s26 := hp 26 rfl
      have s29 := hp 29 rfl
      have s31 := hp 31 rfl
      refine d_need (small := [(136, (.bool false)), (139, (.bool false)), (141, undef)]) ⟨look_row rfl 26 rfl s26, look_row rfl 29 rfl s29, look_row rfl 31 rfl s31, trivial⟩ ?_
      refine t_guard rfl rfl ?_
      refine tp rfl (lv_pick_f rfl rfl) ?_
      exact d_closes ⟨look_row rfl 26 rfl s26, look_row rfl 29 rfl s29, look_row rfl 31 rfl s31, trivial⟩ 32 rfl rfl rfl hS (AgreeR.refl _) (t_sat (fun _ h => h) (hK () trivial))
     · -- 33
      rintro _ S hF hS D hp K hK
      try dsimp only at hF ⊢
      have s26 := hp 26 rfl
      have s32 := hp 32 rfl
      refine d_need (small := [(136, (.bool false)), (142, (.bool false))]) ⟨look_row rfl 26 rfl s26, look_row rfl 32 rfl s32, trivial⟩ ?_
      refine tp rfl (lv_pick_f rfl rfl) ?_
      exact d_closes ⟨look_row rfl 26 rfl s26, look_row rfl 32 rfl s32, trivial⟩ 33 rfl rfl rfl hS (AgreeR.refl _) (t_sat (fun _ h => h) (hK () trivial))
     · -- 34
      rintro _ S hF hS D hp K hK
      try dsimp only at hF ⊢
      have s33 := hp 33 rfl
      refine d_need (small := [(143, (.bool false))]) ⟨look_row rfl 33 rfl s33, trivial⟩ ?_
      refine tp rfl (lv_move rfl) ?_
      exact d_closes ⟨look_row rfl 33 rfl s33, trivial⟩ 34 rfl rfl rfl hS (AgreeR.refl _) (t_sat (fun _ h => h) (hK () trivial))
     · -- 35
      rintro _ S hF hS D hp K hK
      try dsimp only at hF ⊢
      have s34 := hp 34 rfl
      refine d_need (small := [(15, (.int .i64 (keyK k2 xy))), (144, (.bool false))]) ⟨look_b rfl rfl, look_row rfl 34 rfl s34, trivial⟩ ?_
      refine t_guard rfl rfl ?_
      refine tp rfl (lv_move rfl) ?_
      exact d_closes ⟨look_b rfl rfl, look_row rfl 34 rfl s34, trivial⟩ 35 rfl rfl rfl hS (AgreeR.refl _) (t_sat (fun _ h => h) (hK () trivial))
     · -- 36
      rintro _ S hF hS D hp K hK
      try dsimp only at hF ⊢
      have s34 := hp 34 rfl
      refine d_need (small := [(17, (.int .i64 (keyK k2 xy))), (144, (.bool false))]) ⟨look_b rfl rfl, look_row rfl 34 rfl s34, trivial⟩ ?_
      refine t_guard rfl rfl ?_
      refine tp rfl (lv_move rfl) ?_
      exact d_closes ⟨look_b rfl rfl, look_row rfl 34 rfl s34, trivial⟩ 36 rfl rfl rfl hS (AgreeR.refl _) (t_sat (fun _ h => h) (hK () trivial))
     · -- 37
      rintro _ S hF hS D hp K hK
      try dsimp only at hF ⊢
      have s34 := hp 34 rfl
      have s35 := hp 35 rfl
      have s36 := hp 36 rfl
      refine d_need (small := [(144, (.bool false)), (145, (.int .i64 (keyK k2 xy))), (146, (.int .i64 (keyK k2 xy)))]) ⟨look_row rfl 34 rfl s34, look_row rfl 35 rfl s35, look_row rfl 36 rfl s36, trivial⟩ ?_
      refine t_guard rfl rfl ?_
      refine tp rfl (lv_neq rfl rfl (bne_eq_false_iff_eq.2 rfl)) ?_
      exact d_closes ⟨look_row rfl 34 rfl s34, look_row rfl 35 rfl s35, look_row rfl 36 rfl s36, trivial⟩ 37 rfl rfl rfl hS (AgreeR.refl _) (t_sat (fun _ h => h) (hK () trivial))
     · -- 38
      rintro _ S hF hS D hp K hK
      try dsimp only at hF ⊢
      have s34 := hp 34 rfl
      have s37 := hp 37 rfl
      refine d_need (small := [(144, (.bool false)), (147, (.bool false))]) ⟨look_row rfl 34 rfl s34, look_row rfl 37 rfl s37, trivial⟩ ?_
      refine tp rfl (lv_pick_f rfl rfl) ?_
      exact d_closes ⟨look_row rfl 34 rfl s34, look_row rfl 37 rfl s37, trivial⟩ 38 rfl rfl rfl hS (AgreeR.refl _) (t_sat (fun _ h => h) (hK () trivial))
     · -- 39
      rintro _ S hF hS D hp K hK
      try dsimp only at hF ⊢
      have s38 := hp 38 rfl
      refine d_need (small := [(148, (.bool false))]) ⟨look_row rfl 38 rfl s38, trivial⟩ ?_
      refine tp rfl (lv_move rfl) ?_
      exact d_closes ⟨look_row rfl 38 rfl s38, trivial⟩ 39 rfl rfl rfl hS (AgreeR.refl _) (t_sat (fun _ h => h) (hK () trivial))
     · -- 40
      rintro _ S hF hS D hp K hK
      try dsimp only at hF ⊢
      have s39 := hp 39 rfl
      refine d_need (small := [(16, (.bool (hasK k2 xy))), (149, (.bool false))]) ⟨look_b rfl rfl, look_row rfl 39 rfl s39, trivial⟩ ?_
      refine t_guard rfl rfl ?_
      refine tp rfl (lv_move rfl) ?_
      exact d_closes ⟨look_b rfl rfl, look_row rfl 39 rfl s39, trivial⟩ 40 rfl rfl rfl hS (AgreeR.refl _) (t_sat (fun _ h => h) (hK () trivial))
     · -- 41
      rintro _ S hF hS D hp K hK
      try dsimp only at hF ⊢
      have s39 := hp 39 rfl
      refine d_need (small := [(18, (.bool (hasK k2 xy))), (149, (.bool false))]) ⟨look_b rfl rfl, look_row rfl 39 rfl s39, trivial⟩ ?_
      refine t_guard rfl rfl ?_
      refine tp rfl (lv_move rfl) ?_
      exact d_closes ⟨look_b rfl rfl, look_row rfl 39 rfl s39, trivial⟩ 41 rfl rfl rfl hS (AgreeR.refl _) (t_sat (fun _ h => h) (hK () trivial))
     · -- 42
      rintro _ S hF hS D hp K hK
      try dsimp only at hF ⊢
      have s39 := hp 39 rfl
      have s40 := hp 40 rfl
      have s41 := hp 41 rfl
      refine d_need (small := [(149, (.bool false)), (150, (.bool (hasK k2 xy))), (151, (.bool (hasK k2 xy)))]) ⟨look_row rfl 39 rfl s39, look_row rfl 40 rfl s40, look_row rfl 41 rfl s41, trivial⟩ ?_
      refine t_guard rfl rfl ?_
      refine tp rfl (lv_neb Try.underlying4 rfl rfl (bne_self_eq_false _)) ?_
      exact d_closes ⟨look_row rfl 39 rfl s39, look_row rfl 40 rfl s40, look_row rfl 41 rfl s41, trivial⟩ 42 rfl rfl rfl hS (AgreeR.refl _) (t_sat (fun _ h => h) (hK () trivial))
     · -- 43
      rintro _ S hF hS D hp K hK
      try dsimp only at hF ⊢
      have s39 := hp 39 rfl
      have s42 := hp 42 rfl
      refine d_need (small := [(149, (.bool false)), (152, (.bool false))]) ⟨look_row rfl 39 rfl s39, look_row rfl 42 rfl s42, trivial⟩ ?_
      refine tp rfl (lv_pick_f rfl rfl) ?_
      exact d_closes ⟨look_row rfl 39 rfl s39, look_row rfl 42 rfl s42, trivial⟩ 43 rfl rfl rfl hS (AgreeR.refl _) (t_sat (fun _ h => h) (hK () trivial))
     · -- 44
      rintro _ S hF hS D hp K hK
      try dsimp only at hF ⊢
      have s43 := hp 43 rfl
      refine d_need (small := [(153, (.bool false))]) ⟨look_row rfl 43 rfl s43, trivial⟩ ?_
      refine tp rfl (lv_move rfl) ?_
      exact d_closes ⟨look_row rfl 43 rfl s43, trivial⟩ 44 rfl rfl rfl hS (AgreeR.refl _) (t_sat (fun _ h => h) (hK () trivial))
     · -- 45
      rintro _ S hF hS D hp K hK
      try dsimp only at hF ⊢
      have s44 := hp 44 rfl
      refine d_need (small := [(6, (.pointer (some ⟨p1, 0, none⟩))), (154, (.bool false))]) ⟨look_b rfl rfl, look_row rfl 44 rfl s44, trivial⟩ ?_
      refine t_guard rfl rfl ?_
      refine tp rfl (lv_move rfl) ?_
      exact d_closes ⟨look_b rfl rfl, look_row rfl 44 rfl s44, trivial⟩ 45 rfl rfl rfl hS (AgreeR.refl _) (t_sat (fun _ h => h) (hK () trivial))
     · -- 46
      rintro _ S hF hS D hp K hK
      try dsimp only at hF ⊢
      have s44 := hp 44 rfl
      have s45 := hp 45 rfl
      refine d_need (small := [(154, (.bool false)), (155, (.pointer (some ⟨p1, 0, none⟩)))]) ⟨look_row rfl 44 rfl s44, look_row rfl 45 rfl s45, trivial⟩ ?_
      refine t_guard rfl rfl ?_
      refine tp rfl (lv_nilCheck rfl) ?_
      exact d_closes ⟨look_row rfl 44 rfl s44, look_row rfl 45 rfl s45, trivial⟩ 46 rfl rfl rfl hS (AgreeR.refl _) (t_sat (fun _ h => h) (hK () trivial))
     · -- 47
      rintro _ S hF hS D hp K hK
      try dsimp only at hF ⊢
      have s44 := hp 44 rfl
      have s46 := hp 46 rfl
      refine d_need (small := [(154, (.bool false)), (156, (.pointer (some ⟨p1, 0, none⟩)))]) ⟨look_row rfl 44 rfl s44, look_row rfl 46 rfl s46, trivial⟩ ?_
      refine t_guard rfl rfl ?_
      refine tp rfl (lv_fieldAddr (o' := 0) Try.underlying37 rfl Try.sizeOf35 rfl rfl) ?_
      exact d_closes ⟨look_row rfl 44 rfl s44, look_row rfl 46 rfl s46, trivial⟩ 47 rfl rfl rfl hS (AgreeR.refl _) (t_sat (fun _ h => h) (hK () trivial))
     · -- 48
      rintro _ S hF hS D hp K hK
      try dsimp only at hF ⊢
      have s44 := hp 44 rfl
      have s47 := hp 47 rfl
      refine d_need (small := [(154, (.bool false)), (157, (.pointer (some ⟨p1, 0, none⟩)))]) ⟨look_row rfl 44 rfl s44, look_row rfl 47 rfl s47, trivial⟩ ?_
      refine t_guard rfl rfl ?_
      refine tp rfl (lv_fieldAddr (o' := 0) Try.underlying35 rfl Try.sizeOf33 rfl rfl) ?_
      exact d_closes ⟨look_row rfl 44 rfl s44, look_row rfl 47 rfl s47, trivial⟩ 48 rfl rfl rfl hS (AgreeR.refl _) (t_sat (fun _ h => h) (hK () trivial))
     · -- 49
      rintro _ S hF hS D hp K hK
      try dsimp only at hF ⊢
      have s44 := hp 44 rfl
      have s48 := hp 48 rfl
      refine d_need (small := [(154, (.bool false)), (158, (.pointer (some ⟨p1, 0, none⟩)))]) ⟨look_row rfl 44 rfl s44, look_row rfl 48 rfl s48, trivial⟩ ?_
      refine t_guard rfl rfl ?_
      refine tp rfl (lv_load Try.isAgg33 rfl (gives_blk (.tail _ (.tail _ (.head _))) rfl)) ?_
      exact d_closes ⟨look_row rfl 44 rfl s44, look_row rfl 48 rfl s48, trivial⟩ 49 rfl rfl rfl hS (AgreeR.refl _) (t_sat (fun _ h => h) (hK () trivial))
     · -- 50
      rintro _ S hF hS D hp K hK
      try dsimp only at hF ⊢
      have s44 := hp 44 rfl
      have s49 := hp 49 rfl
      refine d_need (small := [(154, (.bool false)), (159, (.pointer (some ⟨q2, 0, none⟩)))]) ⟨look_row rfl 44 rfl s44, look_row rfl 49 rfl s49, trivial⟩ ?_
      refine t_guard rfl rfl ?_
      refine t_f3 ?_
      refine tc rfl (en_fn Try.call15 rfl) (hlen_ok (n := hclamp n) (ks := k2) ) ?_
      rintro _ _ ⟨rfl, rfl⟩
      refine t_f3 ?_
      refine t_f3 ?_
      refine t_f3 ?_
      exact d_closes ⟨look_row rfl 44 rfl s44, look_row rfl 49 rfl s49, trivial⟩ 50 rfl rfl rfl hS (AgreeR.refl _) (t_sat (fun _ h => h) (hK () trivial))
     · -- 51
      rintro _ S hF hS D hp K hK
      try dsimp only at hF ⊢
      have s44 := hp 44 rfl
      refine d_need (small := [(7, (.pointer (some ⟨b3, 0, none⟩))), (154, (.bool false))]) ⟨look_b rfl rfl, look_row rfl 44 rfl s44, trivial⟩ ?_
      refine t_guard rfl rfl ?_
      refine tp rfl (lv_move rfl) ?_
      exact d_closes ⟨look_b rfl rfl, look_row rfl 44 rfl s44, trivial⟩ 51 rfl rfl rfl hS (AgreeR.refl _) (t_sat (fun _ h => h) (hK () trivial))
     · -- 52
      rintro _ S hF hS D hp K hK
      try dsimp only at hF ⊢
      have s44 := hp 44 rfl
      have s51 := hp 51 rfl
      refine d_need (small := [(154, (.bool false)), (161, (.pointer (some ⟨b3, 0, none⟩)))]) ⟨look_row rfl 44 rfl s44, look_row rfl 51 rfl s51, trivial⟩ ?_
      refine t_guard rfl rfl ?_
      refine tp rfl (lv_nilCheck rfl) ?_
      exact d_closes ⟨look_row rfl 44 rfl s44, look_row rfl 51 rfl s51, trivial⟩ 52 rfl rfl rfl hS (AgreeR.refl _) (t_sat (fun _ h => h) (hK () trivial))
     · -- 53
      rintro _ S hF hS D hp K hK
      try dsimp only at hF ⊢
      have s44 := hp 44 rfl
      have s52 := hp 52 rfl
      refine d_need (small := [(154, (.bool false)), (162, (.pointer (some ⟨b3, 0, none⟩)))]) ⟨look_row rfl 44 rfl s44, look_row rfl 52 rfl s52, trivial⟩ ?_
      refine t_guard rfl rfl ?_
      refine tp rfl (lv_fieldAddr (o' := 1) Try.underlying52 rfl Try.sizeOf50 rfl rfl) ?_
      exact d_closes ⟨look_row rfl 44 rfl s44, look_row rfl 52 rfl s52, trivial⟩ 53 rfl rfl rfl hS (AgreeR.refl _) (t_sat (fun _ h => h) (hK () trivial))
     · -- 54
      rintro _ S hF hS D hp K hK
      try dsimp only at hF ⊢
      have s44 := hp 44 rfl
      have s53 := hp 53 rfl
      refine d_need (small := [(154, (.bool false)), (163, (.pointer (some ⟨b3, 1, none⟩)))]) ⟨look_row rfl 44 rfl s44, look_row rfl 53 rfl s53, trivial⟩ ?_
      refine t_guard rfl rfl ?_
      refine tp rfl (lv_load Try.isAgg50 rfl (gives_blk (.head _) rfl)) ?_
      exact d_closes ⟨look_row rfl 44 rfl s44, look_row rfl 53 rfl s53, trivial⟩ 54 rfl rfl rfl hS (AgreeR.refl _) (t_sat (fun _ h => h) (hK () trivial))
     · -- 55
      rintro _ S hF hS D hp K hK
      try dsimp only at hF ⊢
      have s44 := hp 44 rfl
      have s54 := hp 54 rfl
      refine d_need (small := [(154, (.bool false)), (164, (.slice bs6 e2.length cp7))]) ⟨look_row rfl 44 rfl s44, look_row rfl 54 rfl s54, trivial⟩ ?_
      refine t_guard rfl rfl ?_
      refine tp rfl (lv_len Try.underlying50 rfl rfl) ?_
      exact d_closes ⟨look_row rfl 44 rfl s44, look_row rfl 54 rfl s54, trivial⟩ 55 rfl rfl rfl hS (AgreeR.refl _) (t_sat (fun _ h => h) (hK () trivial))
     · -- 56
      rintro _ S hF hS D hp K hK
      try dsimp only at hF ⊢
      have s44 := hp 44 rfl
      have s50 := hp 50 rfl
      have s55 := hp 55 rfl
      refine d_need (small := [(154, (.bool false)), (160, (.int .i64 ((cntK k2 : Nat) : Int))), (165, (.int .i64 ((e2.length : Nat) : Int)))]) ⟨look_row rfl 44 rfl s44, look_row rfl 50 rfl s50, look_row rfl 55 rfl s55, trivial⟩ ?_
      refine t_guard rfl rfl ?_
      refine tp rfl (lv_neq rfl rfl (bne_eq_false_iff_eq.2 hlen)) ?_
      exact d_closes ⟨look_row rfl 44 rfl s44, look_row rfl 50 rfl s50, look_row rfl 55 rfl s55, trivial⟩ 56 rfl rfl rfl hS (AgreeR.refl _) (t_sat (fun _ h => h) (hK () trivial))
     · -- 57
      rintro _ S hF hS D hp K hK
      try dsimp only at hF ⊢
      have s44 := hp 44 rfl
      have s56 := hp 56 rfl
      refine d_need (small := [(154, (.bool false)), (166, (.bool false))]) ⟨look_row rfl 44 rfl s44, look_row rfl 56 rfl s56, trivial⟩ ?_
      refine tp rfl (lv_pick_f rfl rfl) ?_
      exact d_closes ⟨look_row rfl 44 rfl s44, look_row rfl 56 rfl s56, trivial⟩ 57 rfl rfl rfl hS (AgreeR.refl _) (t_sat (fun _ h => h) (hK () trivial))
    · -- behind
     rintro _ hF
     try dsimp only at hF ⊢
     refine t_weak (E' := [(0, (.int .i64 n)), (1, (.slice bsb xs.length csb)), (5, (.bool true)), (6, (.pointer (some ⟨p1, 0, none⟩))), (7, (.pointer (some ⟨b3, 0, none⟩))), (8, (.int .i64 ((i : Nat) : Int))), (9, (.pointer (some ⟨b5, 0, none⟩))), (10, (.bool true)), (13, (.int .i64 (fstV k2))), (14, (.bool true)), (15, (.int .i64 (keyK k2 xy))), (16, (.bool (hasK k2 xy))), (17, (.int .i64 (keyK k2 xy))), (18, (.bool (hasK k2 xy))), (26, (.bool false)), (34, (.bool true)), (167, (.bool false))]) ⟨rfl, rfl, rfl, rfl, rfl, rfl, rfl, rfl, rfl, rfl, rfl, rfl, rfl, rfl, rfl, rfl, rfl, trivial⟩ ?_
     refine q_then_n (hK19 _ _ ?_)
     refine c_false rfl ?_
     refine c_skip ?_
     refine q_in_n ?_
     refine q_then_n (hK12 _ _ ?_)
     refine c_region ?_
     refine tp rfl (lv_move rfl) ?_
     refine tp rfl (lv_add (c := ((i + 1 : Nat) : Int)) rfl rfl (wr_i64_succ (by omega))) ?_
     refine tp rfl (lv_assign rfl) ?_
     refine t_done ?_
     refine q_then_n ?_
     refine t_f1 ?_
     refine t_f1 ?_
     refine t_shutP hok8 hle9 ?_
     refine t_f3 ?_
     refine t_drop ?_
     exact t_weak (by exact ⟨rfl, rfl, rfl, rfl, rfl, rfl, rfl, trivial⟩) ((hK9 (i + 1, k2, e2) ⟨by dsimp only; omega, by dsimp only; omega, hrow2, hkl2⟩ (by dsimp only; omega)))
  refine c_seq (fun K16 hK16 => ?_)
  refine c_region ?_
  refine tp rfl (lv_fieldAddr (o' := 0) Try.underlying41 rfl Try.sizeOf3 rfl rfl) ?_
  refine tp rfl (lv_load Try.isAgg3 rfl (gives_blk (.head _) rfl)) ?_
  refine t_done ?_
  refine q_then_n (hK16 _ _ ?_)
  refine c_block ?_
  refine c_seq (fun K17 hK17 => ?_)
  refine c_seq (fun K18 hK18 => ?_)
  refine c_region ?_
  by_cases h11 : xx = 1
  · -- yes
   refine tp rfl (lv_eql rfl rfl (beq_iff_eq.2 h11)) ?_
   refine tp rfl (lv_assign rfl) ?_
   refine t_done ?_
   refine q_then_n (hK18 _ _ ?_)
   refine c_true rfl ?_
   refine c_skip ?_
   refine q_then_n (hK17 _ _ ?_)
   refine c_true rfl ?_
   by_cases hr : 0 ≤ xy ∧ xy < min n 65536
   · -- in
    have hin : (0 ≤ xy ∧ xy < ((ks.length : Nat) : Int)) := by rw [hkl]; exact clamp_in.1 hr
    refine c_draw (γ := Unit) (n := 14) Try.mixed rfl rfl (fun _ S => True) (fun _ => [(0, 46, (.pointer (some ⟨p1, 0, none⟩))), (1, 47, (.pointer (some ⟨b5, 1, none⟩))), (2, 48, (.int .i64 xy)), (3, 49, (.pointer (some ⟨b5, 2, none⟩))), (4, 50, (.int .i64 xz)), (5, 51, (.int .i64 0)), (6, 52, (.pointer (some ⟨b3, 0, none⟩))), (7, 53, (.pointer (some ⟨b5, 1, none⟩))), (8, 54, (.int .i64 xy)), (9, 55, (.pointer (some ⟨b5, 2, none⟩))), (10, 56, (.int .i64 xz)), (11, 57, (.int .i64 0)), (12, 58, (.bool true)), (13, 10, (.bool true))]) (fun _ S => (Blk b5 [(.int .i64 xx), (.int .i64 xy), (.int .i64 xz)] 41) :: (bif S 11 then (RowP 52 55 b3 n (insT (xy, xz) ((es).filter fun e => e.1 != xy))) else (RowP 52 55 b3 n es)) :: (Blk p1 [(.pointer (some ⟨q2, 0, none⟩))] 37) :: (bif S 5 then (HeapO q2 (hclamp n) (pushK (remK ks xy) xy xz)) else (HeapO q2 (hclamp n) ks)) :: R) (()) trivial (fun _ h => h) (fun _ _ h => h) ?_ ?_
    · -- steps
     refine ⟨?_, ?_, ?_, ?_, ?_, ?_, ?_, ?_, ?_, ?_, ?_, ?_, ?_, ?_, trivial⟩
     · -- 0
      rintro _ S hF hS D hp K hK
      try dsimp only at hF ⊢
      refine d_need (small := [(6, (.pointer (some ⟨p1, 0, none⟩)))]) ⟨look_b rfl rfl, trivial⟩ ?_
      refine tp rfl (lv_move rfl) ?_
      exact d_closes ⟨look_b rfl rfl, trivial⟩ 0 rfl rfl rfl hS (AgreeR.refl _) (t_sat (fun _ h => h) (hK () trivial))
     · -- 1
      rintro _ S hF hS D hp K hK
      try dsimp only at hF ⊢
      refine d_need (small := [(9, (.pointer (some ⟨b5, 0, none⟩)))]) ⟨look_b rfl rfl, trivial⟩ ?_
      refine tp rfl (lv_fieldAddr (o' := 1) Try.underlying41 rfl Try.sizeOf3 rfl rfl) ?_
      exact d_closes ⟨look_b rfl rfl, trivial⟩ 1 rfl rfl rfl hS (AgreeR.refl _) (t_sat (fun _ h => h) (hK () trivial))
     · -- 2
      rintro _ S hF hS D hp K hK
      try dsimp only at hF ⊢
      have s1 := hp 1 rfl
      refine d_need (small := [(47, (.pointer (some ⟨b5, 1, none⟩)))]) ⟨look_row rfl 1 rfl s1, trivial⟩ ?_
      refine tp rfl (lv_load Try.isAgg3 rfl (gives_blk (.head _) rfl)) ?_
      exact d_closes ⟨look_row rfl 1 rfl s1, trivial⟩ 2 rfl rfl rfl hS (AgreeR.refl _) (t_sat (fun _ h => h) (hK () trivial))
     · -- 3
      rintro _ S hF hS D hp K hK
      try dsimp only at hF ⊢
      refine d_need (small := [(9, (.pointer (some ⟨b5, 0, none⟩)))]) ⟨look_b rfl rfl, trivial⟩ ?_
      refine tp rfl (lv_fieldAddr (o' := 2) Try.underlying41 rfl Try.sizeOf3 rfl rfl) ?_
      exact d_closes ⟨look_b rfl rfl, trivial⟩ 3 rfl rfl rfl hS (AgreeR.refl _) (t_sat (fun _ h => h) (hK () trivial))
     · -- 4
      rintro _ S hF hS D hp K hK
      try dsimp only at hF ⊢
      have s3 := hp 3 rfl
      refine d_need (small := [(49, (.pointer (some ⟨b5, 2, none⟩)))]) ⟨look_row rfl 3 rfl s3, trivial⟩ ?_
      refine tp rfl (lv_load Try.isAgg3 rfl (gives_blk (.head _) rfl)) ?_
      exact d_closes ⟨look_row rfl 3 rfl s3, trivial⟩ 4 rfl rfl rfl hS (AgreeR.refl _) (t_sat (fun _ h => h) (hK () trivial))
     · -- 5
      rintro _ S hF hS D hp K hK
      try dsimp only at hF ⊢
      have s0 := hp 0 rfl
      have s2 := hp 2 rfl
      have s4 := hp 4 rfl
      refine d_need (small := [(46, (.pointer (some ⟨p1, 0, none⟩))), (48, (.int .i64 xy)), (50, (.int .i64 xz))]) ⟨look_row rfl 0 rfl s0, look_row rfl 2 rfl s2, look_row rfl 4 rfl s4, trivial⟩ ?_
      refine t_f3 ?_
      refine t_cF hS ?_
      refine t_f3 ?_
      refine tc rfl (en_fn Try.call12 rfl) (tset_ok (n := hclamp n) (ks := ks) xy xz) ?_
      rintro _ _ ⟨rfl, rfl⟩
      rw [show pushE (remK ks xy) xy = 0 from (push_in hin 0).1]
      refine t_f1 ?_
      refine t_f1 ?_
      refine t_f3 ?_
      refine t_f3 ?_
      exact d_closes ⟨look_row rfl 0 rfl s0, look_row rfl 2 rfl s2, look_row rfl 4 rfl s4, trivial⟩ 5 rfl rfl rfl hS (AgreeR.refl _) (t_sat (fun _ h => h) (hK () trivial))
     · -- 6
      rintro _ S hF hS D hp K hK
      try dsimp only at hF ⊢
      refine d_need (small := [(7, (.pointer (some ⟨b3, 0, none⟩)))]) ⟨look_b rfl rfl, trivial⟩ ?_
      refine tp rfl (lv_move rfl) ?_
      exact d_closes ⟨look_b rfl rfl, trivial⟩ 6 rfl rfl rfl hS (AgreeR.refl _) (t_sat (fun _ h => h) (hK () trivial))
     · -- 7
      rintro _ S hF hS D hp K hK
      try dsimp only at hF ⊢
      refine d_need (small := [(9, (.pointer (some ⟨b5, 0, none⟩)))]) ⟨look_b rfl rfl, trivial⟩ ?_
      refine tp rfl (lv_fieldAddr (o' := 1) Try.underlying41 rfl Try.sizeOf3 rfl rfl) ?_
      exact d_closes ⟨look_b rfl rfl, trivial⟩ 7 rfl rfl rfl hS (AgreeR.refl _) (t_sat (fun _ h => h) (hK () trivial))
     · -- 8
      rintro _ S hF hS D hp K hK
      try dsimp only at hF ⊢
      have s7 := hp 7 rfl
      refine d_need (small := [(53, (.pointer (some ⟨b5, 1, none⟩)))]) ⟨look_row rfl 7 rfl s7, trivial⟩ ?_
      refine tp rfl (lv_load Try.isAgg3 rfl (gives_blk (.head _) rfl)) ?_
      exact d_closes ⟨look_row rfl 7 rfl s7, trivial⟩ 8 rfl rfl rfl hS (AgreeR.refl _) (t_sat (fun _ h => h) (hK () trivial))
     · -- 9
      rintro _ S hF hS D hp K hK
      try dsimp only at hF ⊢
      refine d_need (small := [(9, (.pointer (some ⟨b5, 0, none⟩)))]) ⟨look_b rfl rfl, trivial⟩ ?_
      refine tp rfl (lv_fieldAddr (o' := 2) Try.underlying41 rfl Try.sizeOf3 rfl rfl) ?_
      exact d_closes ⟨look_b rfl rfl, trivial⟩ 9 rfl rfl rfl hS (AgreeR.refl _) (t_sat (fun _ h => h) (hK () trivial))
     · -- 10
      rintro _ S hF hS D hp K hK
      try dsimp only at hF ⊢
      have s9 := hp 9 rfl
      refine d_need (small := [(55, (.pointer (some ⟨b5, 2, none⟩)))]) ⟨look_row rfl 9 rfl s9, trivial⟩ ?_
      refine tp rfl (lv_load Try.isAgg3 rfl (gives_blk (.head _) rfl)) ?_
      exact d_closes ⟨look_row rfl 9 rfl s9, trivial⟩ 10 rfl rfl rfl hS (AgreeR.refl _) (t_sat (fun _ h => h) (hK () trivial))
     · -- 11
      rintro _ S hF hS D hp K hK
      try dsimp only at hF ⊢
      have s6 := hp 6 rfl
      have s8 := hp 8 rfl
      have s10 := hp 10 rfl
      refine d_need (small := [(52, (.pointer (some ⟨b3, 0, none⟩))), (54, (.int .i64 xy)), (56, (.int .i64 xz))]) ⟨look_row rfl 6 rfl s6, look_row rfl 8 rfl s8, look_row rfl 10 rfl s10, trivial⟩ ?_
      refine t_f1 ?_
      refine t_cF hS ?_
      refine tc rfl (en_fn Try.call18 rfl) (rset_yes (es := es) xy xz (by omega) hr) ?_
      rintro _ _ ⟨rfl, rfl⟩
      refine t_f1 ?_
      exact d_closes ⟨look_row rfl 6 rfl s6, look_row rfl 8 rfl s8, look_row rfl 10 rfl s10, trivial⟩ 11 rfl rfl rfl hS (AgreeR.refl _) (t_sat (fun _ h => h) (hK () trivial))
     · -- 12
      rintro _ S hF hS D hp K hK
      try dsimp only at hF ⊢
      have s5 := hp 5 rfl
      have s11 := hp 11 rfl
      refine d_need (small := [(51, (.int .i64 0)), (57, (.int .i64 0))]) ⟨look_row rfl 5 rfl s5, look_row rfl 11 rfl s11, trivial⟩ ?_
      refine tp rfl (lv_eql (r := true) rfl rfl (by decide)) ?_
      exact d_closes ⟨look_row rfl 5 rfl s5, look_row rfl 11 rfl s11, trivial⟩ 12 rfl rfl rfl hS (AgreeR.refl _) (t_sat (fun _ h => h) (hK () trivial))
     · -- 13
      rintro _ S hF hS D hp K hK
      try dsimp only at hF ⊢
      have s12 := hp 12 rfl
      refine d_need (small := [(58, (.bool true))]) ⟨look_row rfl 12 rfl s12, trivial⟩ ?_
      refine tp rfl (lv_assign rfl) ?_
      exact d_closes ⟨look_row rfl 12 rfl s12, trivial⟩ 13 rfl rfl rfl hS (AgreeR.refl _) (t_sat (fun _ h => h) (hK () trivial))
    · -- behind
     rintro _ hF
     try dsimp only at hF ⊢
     refine t_weak (E' := [(0, (.int .i64 n)), (1, (.slice bsb xs.length csb)), (5, (.bool true)), (6, (.pointer (some ⟨p1, 0, none⟩))), (7, (.pointer (some ⟨b3, 0, none⟩))), (8, (.int .i64 ((i : Nat) : Int))), (9, (.pointer (some ⟨b5, 0, none⟩))), (10, (.bool true)), (26, (.bool false)), (34, (.bool true)), (42, (.int .i64 xx)), (43, (.bool true))]) ⟨rfl, rfl, rfl, rfl, rfl, rfl, rfl, rfl, rfl, rfl, rfl, rfl, trivial⟩ ?_
     refine q_in_n ?_
     refine q_then_n ?_
     exact t_weak (by exact ⟨rfl, rfl, rfl, rfl, rfl, rfl, rfl, rfl, rfl, rfl, trivial⟩) (hM15 (pushK (remK ks xy) xy xz) (insT (xy, xz) ((es).filter fun e => e.1 != xy)) ⟨(hrow.set hin _), (by first | exact hkl | (simp only [pushK_len, remK_len]; exact hkl) | (rw [duR_len]; exact hkl))⟩)
   · -- out
    have hin : ¬ (0 ≤ xy ∧ xy < ((ks.length : Nat) : Int)) := by rw [hkl]; exact (fun q => hr (clamp_in.2 q))
    refine c_draw (γ := Unit) (n := 14) Try.mixed rfl rfl (fun _ S => True) (fun _ => [(0, 46, (.pointer (some ⟨p1, 0, none⟩))), (1, 47, (.pointer (some ⟨b5, 1, none⟩))), (2, 48, (.int .i64 xy)), (3, 49, (.pointer (some ⟨b5, 2, none⟩))), (4, 50, (.int .i64 xz)), (5, 51, (.int .i64 1)), (6, 52, (.pointer (some ⟨b3, 0, none⟩))), (7, 53, (.pointer (some ⟨b5, 1, none⟩))), (8, 54, (.int .i64 xy)), (9, 55, (.pointer (some ⟨b5, 2, none⟩))), (10, 56, (.int .i64 xz)), (11, 57, (.int .i64 1)), (12, 58, (.bool true)), (13, 10, (.bool true))]) (fun _ S => (Blk b5 [(.int .i64 xx), (.int .i64 xy), (.int .i64 xz)] 41) :: (RowP 52 55 b3 n es) :: (Blk p1 [(.pointer (some ⟨q2, 0, none⟩))] 37) :: (bif S 5 then (HeapO q2 (hclamp n) (pushK (remK ks xy) xy xz)) else (HeapO q2 (hclamp n) ks)) :: R) (()) trivial (fun _ h => h) (fun _ _ h => h) ?_ ?_
    · -- steps
     refine ⟨?_, ?_, ?_, ?_, ?_, ?_, ?_, ?_, ?_, ?_, ?_, ?_, ?_, ?_, trivial⟩
     · -- 0
      rintro _ S hF hS D hp K hK
      try dsimp only at hF ⊢
      refine d_need (small := [(6, (.pointer (some ⟨p1, 0, none⟩)))]) ⟨look_b rfl rfl, trivial⟩ ?_
      refine tp rfl (lv_move rfl) ?_
      exact d_closes ⟨look_b rfl rfl, trivial⟩ 0 rfl rfl rfl hS (AgreeR.refl _) (t_sat (fun _ h => h) (hK () trivial))
     · -- 1
      rintro _ S hF hS D hp K hK
      try dsimp only at hF ⊢
      refine d_need (small := [(9, (.pointer (some ⟨b5, 0, none⟩)))]) ⟨look_b rfl rfl, trivial⟩ ?_
      refine tp rfl (lv_fieldAddr (o' := 1) Try.underlying41 rfl Try.sizeOf3 rfl rfl) ?_
      exact d_closes ⟨look_b rfl rfl, trivial⟩ 1 rfl rfl rfl hS (AgreeR.refl _) (t_sat (fun _ h => h) (hK () trivial))
     · -- 2
      rintro _ S hF hS D hp K hK
      try dsimp only at hF ⊢
      have s1 := hp 1 rfl
      refine d_need (small := [(47, (.pointer (some ⟨b5, 1, none⟩)))]) ⟨look_row rfl 1 rfl s1, trivial⟩ ?_
      refine tp rfl (lv_load Try.isAgg3 rfl (gives_blk (.head _) rfl)) ?_
      exact d_closes ⟨look_row rfl 1 rfl s1, trivial⟩ 2 rfl rfl rfl hS (AgreeR.refl _) (t_sat (fun _ h => h) (hK () trivial))
     · -- 3
      rintro _ S hF hS D hp K hK
      try dsimp only at hF ⊢
      refine d_need (small := [(9, (.pointer (some ⟨b5, 0, none⟩)))]) ⟨look_b rfl rfl, trivial⟩ ?_
      refine tp rfl (lv_fieldAddr (o' := 2) Try.underlying41 rfl Try.sizeOf3 rfl rfl) ?_
      exact d_closes ⟨look_b rfl rfl, trivial⟩ 3 rfl rfl rfl hS (AgreeR.refl _) (t_sat (fun _ h => h) (hK () trivial))
     · -- 4
      rintro _ S hF hS D hp K hK
      try dsimp only at hF ⊢
      have s3 := hp 3 rfl
      refine d_need (small := [(49, (.pointer (some ⟨b5, 2, none⟩)))]) ⟨look_row rfl 3 rfl s3, trivial⟩ ?_
      refine tp rfl (lv_load Try.isAgg3 rfl (gives_blk (.head _) rfl)) ?_
      exact d_closes ⟨look_row rfl 3 rfl s3, trivial⟩ 4 rfl rfl rfl hS (AgreeR.refl _) (t_sat (fun _ h => h) (hK () trivial))
     · -- 5
      rintro _ S hF hS D hp K hK
      try dsimp only at hF ⊢
      have s0 := hp 0 rfl
      have s2 := hp 2 rfl
      have s4 := hp 4 rfl
      refine d_need (small := [(46, (.pointer (some ⟨p1, 0, none⟩))), (48, (.int .i64 xy)), (50, (.int .i64 xz))]) ⟨look_row rfl 0 rfl s0, look_row rfl 2 rfl s2, look_row rfl 4 rfl s4, trivial⟩ ?_
      refine t_f3 ?_
      refine t_cF hS ?_
      refine t_f3 ?_
      refine tc rfl (en_fn Try.call12 rfl) (tset_ok (n := hclamp n) (ks := ks) xy xz) ?_
      rintro _ _ ⟨rfl, rfl⟩
      rw [show pushE (remK ks xy) xy = 1 from (push_out hin 0).1]
      refine t_f1 ?_
      refine t_f1 ?_
      refine t_f3 ?_
      refine t_f3 ?_
      exact d_closes ⟨look_row rfl 0 rfl s0, look_row rfl 2 rfl s2, look_row rfl 4 rfl s4, trivial⟩ 5 rfl rfl rfl hS (AgreeR.refl _) (t_sat (fun _ h => h) (hK () trivial))
     · -- 6
      rintro _ S hF hS D hp K hK
      try dsimp only at hF ⊢
      refine d_need (small := [(7, (.pointer (some ⟨b3, 0, none⟩)))]) ⟨look_b rfl rfl, trivial⟩ ?_
      refine tp rfl (lv_move rfl) ?_
      exact d_closes ⟨look_b rfl rfl, trivial⟩ 6 rfl rfl rfl hS (AgreeR.refl _) (t_sat (fun _ h => h) (hK () trivial))
     · -- 7
      rintro _ S hF hS D hp K hK
      try dsimp only at hF ⊢
      refine d_need (small := [(9, (.pointer (some ⟨b5, 0, none⟩)))]) ⟨look_b rfl rfl, trivial⟩ ?_
      refine tp rfl (lv_fieldAddr (o' := 1) Try.underlying41 rfl Try.sizeOf3 rfl rfl) ?_
      exact d_closes ⟨look_b rfl rfl, trivial⟩ 7 rfl rfl rfl hS (AgreeR.refl _) (t_sat (fun _ h => h) (hK () trivial))
     · -- 8
      rintro _ S hF hS D hp K hK
      try dsimp only at hF ⊢
      have s7 := hp 7 rfl
      refine d_need (small := [(53, (.pointer (some ⟨b5, 1, none⟩)))]) ⟨look_row rfl 7 rfl s7, trivial⟩ ?_
      refine tp rfl (lv_load Try.isAgg3 rfl (gives_blk (.head _) rfl)) ?_
      exact d_closes ⟨look_row rfl 7 rfl s7, trivial⟩ 8 rfl rfl rfl hS (AgreeR.refl _) (t_sat (fun _ h => h) (hK () trivial))
     · -- 9
      rintro _ S hF hS D hp K hK
      try dsimp only at hF ⊢
      refine d_need (small := [(9, (.pointer (some ⟨b5, 0, none⟩)))]) ⟨look_b rfl rfl, trivial⟩ ?_
      refine tp rfl (lv_fieldAddr (o' := 2) Try.underlying41 rfl Try.sizeOf3 rfl rfl) ?_
      exact d_closes ⟨look_b rfl rfl, trivial⟩ 9 rfl rfl rfl hS (AgreeR.refl _) (t_sat (fun _ h => h) (hK () trivial))
     · -- 10
      rintro _ S hF hS D hp K hK
      try dsimp only at hF ⊢
      have s9 := hp 9 rfl
      refine d_need (small := [(55, (.pointer (some ⟨b5, 2, none⟩)))]) ⟨look_row rfl 9 rfl s9, trivial⟩ ?_
      refine tp rfl (lv_load Try.isAgg3 rfl (gives_blk (.head _) rfl)) ?_
      exact d_closes ⟨look_row rfl 9 rfl s9, trivial⟩ 10 rfl rfl rfl hS (AgreeR.refl _) (t_sat (fun _ h => h) (hK () trivial))
     · -- 11
      rintro _ S hF hS D hp K hK
      try dsimp only at hF ⊢
      have s6 := hp 6 rfl
      have s8 := hp 8 rfl
      have s10 := hp 10 rfl
      refine d_need (small := [(52, (.pointer (some ⟨b3, 0, none⟩))), (54, (.int .i64 xy)), (56, (.int .i64 xz))]) ⟨look_row rfl 6 rfl s6, look_row rfl 8 rfl s8, look_row rfl 10 rfl s10, trivial⟩ ?_
      refine t_f1 ?_
      refine tc rfl (en_fn Try.call18 rfl) (rset_no (es := es) xy xz (by omega) hr) ?_
      rintro _ _ ⟨rfl, rfl⟩
      refine t_f1 ?_
      exact d_closes ⟨look_row rfl 6 rfl s6, look_row rfl 8 rfl s8, look_row rfl 10 rfl s10, trivial⟩ 11 rfl rfl rfl hS (AgreeR.refl _) (t_sat (fun _ h => h) (hK () trivial))
     · -- 12
      rintro _ S hF hS D hp K hK
      try dsimp only at hF ⊢
      have s5 := hp 5 rfl
      have s11 := hp 11 rfl
      refine d_need (small := [(51, (.int .i64 1)), (57, (.int .i64 1))]) ⟨look_row rfl 5 rfl s5, look_row rfl 11 rfl s11, trivial⟩ ?_
      refine tp rfl (lv_eql (r := true) rfl rfl (by decide)) ?_
      exact d_closes ⟨look_row rfl 5 rfl s5, look_row rfl 11 rfl s11, trivial⟩ 12 rfl rfl rfl hS (AgreeR.refl _) (t_sat (fun _ h => h) (hK () trivial))
     · -- 13
      rintro _ S hF hS D hp K hK
      try dsimp only at hF ⊢
      have s12 := hp 12 rfl
      refine d_need (small := [(58, (.bool true))]) ⟨look_row rfl 12 rfl s12, trivial⟩ ?_
      refine tp rfl (lv_assign rfl) ?_
      exact d_closes ⟨look_row rfl 12 rfl s12, trivial⟩ 13 rfl rfl rfl hS (AgreeR.refl _) (t_sat (fun _ h => h) (hK () trivial))
    · -- behind
     rintro _ hF
     try dsimp only at hF ⊢
     refine t_weak (E' := [(0, (.int .i64 n)), (1, (.slice bsb xs.length csb)), (5, (.bool true)), (6, (.pointer (some ⟨p1, 0, none⟩))), (7, (.pointer (some ⟨b3, 0, none⟩))), (8, (.int .i64 ((i : Nat) : Int))), (9, (.pointer (some ⟨b5, 0, none⟩))), (10, (.bool true)), (26, (.bool false)), (34, (.bool true)), (42, (.int .i64 xx)), (43, (.bool true))]) ⟨rfl, rfl, rfl, rfl, rfl, rfl, rfl, rfl, rfl, rfl, rfl, rfl, trivial⟩ ?_
     refine q_in_n ?_
     refine q_then_n ?_
     exact t_weak (by exact ⟨rfl, rfl, rfl, rfl, rfl, rfl, rfl, rfl, rfl, rfl, trivial⟩) (hM15 (pushK (remK ks xy) xy xz) es ⟨(by rw [(push_out hin _).2]; exact hrow), (by first | exact hkl | (simp only [pushK_len, remK_len]; exact hkl) | (rw [duR_len]; exact hkl))⟩)
  · -- no
   refine tp rfl (lv_eql rfl rfl (beq_eq_false_iff_ne.2 h11)) ?_
   refine tp rfl (lv_assign rfl) ?_
   refine t_done ?_
   refine q_then_n (hK18 _ _ ?_)
   refine c_false rfl ?_
   refine c_region ?_
   by_cases h12 : xx = 2
   · -- yes
    refine tp rfl (lv_eql rfl rfl (beq_iff_eq.2 h12)) ?_
    refine tp rfl (lv_assign rfl) ?_
    refine t_done ?_
    refine q_then_n (hK17 _ _ ?_)
    refine c_true rfl ?_
    by_cases hr : 0 ≤ xy ∧ xy < min n 65536
    · -- in
     have hin : (0 ≤ xy ∧ xy < ((ks.length : Nat) : Int)) := by rw [hkl]; exact clamp_in.1 hr
     refine c_draw (γ := Unit) (n := 14) Try.mixed rfl rfl (fun _ S => True) (fun _ => [(0, 46, (.pointer (some ⟨p1, 0, none⟩))), (1, 47, (.pointer (some ⟨b5, 1, none⟩))), (2, 48, (.int .i64 xy)), (3, 49, (.pointer (some ⟨b5, 2, none⟩))), (4, 50, (.int .i64 xz)), (5, 51, (.int .i64 0)), (6, 52, (.pointer (some ⟨b3, 0, none⟩))), (7, 53, (.pointer (some ⟨b5, 1, none⟩))), (8, 54, (.int .i64 xy)), (9, 55, (.pointer (some ⟨b5, 2, none⟩))), (10, 56, (.int .i64 xz)), (11, 57, (.int .i64 0)), (12, 58, (.bool true)), (13, 10, (.bool true))]) (fun _ S => (Blk b5 [(.int .i64 xx), (.int .i64 xy), (.int .i64 xz)] 41) :: (bif S 11 then (RowP 52 55 b3 n (insT (xy, xz) ((es).filter fun e => e.1 != xy))) else (RowP 52 55 b3 n es)) :: (Blk p1 [(.pointer (some ⟨q2, 0, none⟩))] 37) :: (bif S 5 then (HeapO q2 (hclamp n) (pushK (remK ks xy) xy xz)) else (HeapO q2 (hclamp n) ks)) :: R) (()) trivial (fun _ h => h) (fun _ _ h => h) ?_ ?_
     · -- steps
      refine ⟨?_, ?_, ?_, ?_, ?_, ?_, ?_, ?_, ?_, ?_, ?_, ?_, ?_, ?_, trivial⟩
      · -- 0
       rintro _ S hF hS D hp K hK
       try dsimp only at hF ⊢
       refine d_need (small := [(6, (.pointer (some ⟨p1, 0, none⟩)))]) ⟨look_b rfl rfl, trivial⟩ ?_
       refine tp rfl (lv_move rfl) ?_
       exact d_closes ⟨look_b rfl rfl, trivial⟩ 0 rfl rfl rfl hS (AgreeR.refl _) (t_sat (fun _ h => h) (hK () trivial))
      · -- 1
       rintro _ S hF hS D hp K hK
       try dsimp only at hF ⊢
       refine d_need (small := [(9, (.pointer (some ⟨b5, 0, none⟩)))]) ⟨look_b rfl rfl, trivial⟩ ?_
       refine tp rfl (lv_fieldAddr (o' := 1) Try.underlying41 rfl Try.sizeOf3 rfl rfl) ?_
       exact d_closes ⟨look_b rfl rfl, trivial⟩ 1 rfl rfl rfl hS (AgreeR.refl _) (t_sat (fun _ h => h) (hK () trivial))
      · -- 2
       rintro _ S hF hS D hp K hK
       try dsimp only at hF ⊢
       have s1 := hp 1 rfl
       refine d_need (small := [(47, (.pointer (some ⟨b5, 1, none⟩)))]) ⟨look_row rfl 1 rfl s1, trivial⟩ ?_
       refine tp rfl (lv_load Try.isAgg3 rfl (gives_blk (.head _) rfl)) ?_
       exact d_closes ⟨look_row rfl 1 rfl s1, trivial⟩ 2 rfl rfl rfl hS (AgreeR.refl _) (t_sat (fun _ h => h) (hK () trivial))
      · -- 3
       rintro _ S hF hS D hp K hK
       try dsimp only at hF ⊢
       refine d_need (small := [(9, (.pointer (some ⟨b5, 0, none⟩)))]) ⟨look_b rfl rfl, trivial⟩ ?_
       refine tp rfl (lv_fieldAddr (o' := 2) Try.underlying41 rfl Try.sizeOf3 rfl rfl) ?_
       exact d_closes ⟨look_b rfl rfl, trivial⟩ 3 rfl rfl rfl hS (AgreeR.refl _) (t_sat (fun _ h => h) (hK () trivial))
      · -- 4
       rintro _ S hF hS D hp K hK
       try dsimp only at hF ⊢
       have s3 := hp 3 rfl
       refine d_need (small := [(49, (.pointer (some ⟨b5, 2, none⟩)))]) ⟨look_row rfl 3 rfl s3, trivial⟩ ?_
       refine tp rfl (lv_load Try.isAgg3 rfl (gives_blk (.head _) rfl)) ?_
       exact d_closes ⟨look_row rfl 3 rfl s3, trivial⟩ 4 rfl rfl rfl hS (AgreeR.refl _) (t_sat (fun _ h => h) (hK () trivial))
      · -- 5
       rintro _ S hF hS D hp K hK
       try dsimp only at hF ⊢
       have s0 := hp 0 rfl
       have s2 := hp 2 rfl
       have s4 := hp 4 rfl
       refine d_need (small := [(46, (.pointer (some ⟨p1, 0, none⟩))), (48, (.int .i64 xy)), (50, (.int .i64 xz))]) ⟨look_row rfl 0 rfl s0, look_row rfl 2 rfl s2, look_row rfl 4 rfl s4, trivial⟩ ?_
       refine t_f3 ?_
       refine t_cF hS ?_
       refine t_f3 ?_
       refine tc rfl (en_fn Try.call12 rfl) (tset_ok (n := hclamp n) (ks := ks) xy xz) ?_
       rintro _ _ ⟨rfl, rfl⟩
       rw [show pushE (remK ks xy) xy = 0 from (push_in hin 0).1]
       refine t_f1 ?_
       refine t_f1 ?_
       refine t_f3 ?_
       refine t_f3 ?_
       exact d_closes ⟨look_row rfl 0 rfl s0, look_row rfl 2 rfl s2, look_row rfl 4 rfl s4, trivial⟩ 5 rfl rfl rfl hS (AgreeR.refl _) (t_sat (fun _ h => h) (hK () trivial))
      · -- 6
       rintro _ S hF hS D hp K hK
       try dsimp only at hF ⊢
       refine d_need (small := [(7, (.pointer (some ⟨b3, 0, none⟩)))]) ⟨look_b rfl rfl, trivial⟩ ?_
       refine tp rfl (lv_move rfl) ?_
       exact d_closes ⟨look_b rfl rfl, trivial⟩ 6 rfl rfl rfl hS (AgreeR.refl _) (t_sat (fun _ h => h) (hK () trivial))
      · -- 7
       rintro _ S hF hS D hp K hK
       try dsimp only at hF ⊢
       refine d_need (small := [(9, (.pointer (some ⟨b5, 0, none⟩)))]) ⟨look_b rfl rfl, trivial⟩ ?_
       refine tp rfl (lv_fieldAddr (o' := 1) Try.underlying41 rfl Try.sizeOf3 rfl rfl) ?_
       exact d_closes ⟨look_b rfl rfl, trivial⟩ 7 rfl rfl rfl hS (AgreeR.refl _) (t_sat (fun _ h => h) (hK () trivial))
      · -- 8
       rintro _ S hF hS D hp K hK
       try dsimp only at hF ⊢
       have s7 := hp 7 rfl
       refine d_need (small := [(53, (.pointer (some ⟨b5, 1, none⟩)))]) ⟨look_row rfl 7 rfl s7, trivial⟩ ?_
       refine tp rfl (lv_load Try.isAgg3 rfl (gives_blk (.head _) rfl)) ?_
       exact d_closes ⟨look_row rfl 7 rfl s7, trivial⟩ 8 rfl rfl rfl hS (AgreeR.refl _) (t_sat (fun _ h => h) (hK () trivial))
      · -- 9
       rintro _ S hF hS D hp K hK
       try dsimp only at hF ⊢
       refine d_need (small := [(9, (.pointer (some ⟨b5, 0, none⟩)))]) ⟨look_b rfl rfl, trivial⟩ ?_
       refine tp rfl (lv_fieldAddr (o' := 2) Try.underlying41 rfl Try.sizeOf3 rfl rfl) ?_
       exact d_closes ⟨look_b rfl rfl, trivial⟩ 9 rfl rfl rfl hS (AgreeR.refl _) (t_sat (fun _ h => h) (hK () trivial))
      · -- 10
       rintro _ S hF hS D hp K hK
       try dsimp only at hF ⊢
       have s9 := hp 9 rfl
       refine d_need (small := [(55, (.pointer (some ⟨b5, 2, none⟩)))]) ⟨look_row rfl 9 rfl s9, trivial⟩ ?_
       refine tp rfl (lv_load Try.isAgg3 rfl (gives_blk (.head _) rfl)) ?_
       exact d_closes ⟨look_row rfl 9 rfl s9, trivial⟩ 10 rfl rfl rfl hS (AgreeR.refl _) (t_sat (fun _ h => h) (hK () trivial))
      · -- 11
       rintro _ S hF hS D hp K hK
       try dsimp only at hF ⊢
       have s6 := hp 6 rfl
       have s8 := hp 8 rfl
       have s10 := hp 10 rfl
       refine d_need (small := [(52, (.pointer (some ⟨b3, 0, none⟩))), (54, (.int .i64 xy)), (56, (.int .i64 xz))]) ⟨look_row rfl 6 rfl s6, look_row rfl 8 rfl s8, look_row rfl 10 rfl s10, trivial⟩ ?_
       refine t_f1 ?_
       refine t_cF hS ?_
       refine tc rfl (en_fn Try.call18 rfl) (rset_yes (es := es) xy xz (by omega) hr) ?_
       rintro _ _ ⟨rfl, rfl⟩
       refine t_f1 ?_
       exact d_closes ⟨look_row rfl 6 rfl s6, look_row rfl 8 rfl s8, look_row rfl 10 rfl s10, trivial⟩ 11 rfl rfl rfl hS (AgreeR.refl _) (t_sat (fun _ h => h) (hK () trivial))
      · -- 12
       rintro _ S hF hS D hp K hK
       try dsimp only at hF ⊢
       have s5 := hp 5 rfl
       have s11 := hp 11 rfl
       refine d_need (small := [(51, (.int .i64 0)), (57, (.int .i64 0))]) ⟨look_row rfl 5 rfl s5, look_row rfl 11 rfl s11, trivial⟩ ?_
       refine tp rfl (lv_eql (r := true) rfl rfl (by decide)) ?_
       exact d_closes ⟨look_row rfl 5 rfl s5, look_row rfl 11 rfl s11, trivial⟩ 12 rfl rfl rfl hS (AgreeR.refl _) (t_sat (fun _ h => h) (hK () trivial))
      · -- 13
       rintro _ S hF hS D hp K hK
       try dsimp only at hF ⊢
       have s12 := hp 12 rfl
       refine d_need (small := [(58, (.bool true))]) ⟨look_row rfl 12 rfl s12, trivial⟩ ?_
       refine tp rfl (lv_assign rfl) ?_
       exact d_closes ⟨look_row rfl 12 rfl s12, trivial⟩ 13 rfl rfl rfl hS (AgreeR.refl _) (t_sat (fun _ h => h) (hK () trivial))
     · -- behind
      rintro _ hF
      try dsimp only at hF ⊢
      refine t_weak (E' := [(0, (.int .i64 n)), (1, (.slice bsb xs.length csb)), (5, (.bool true)), (6, (.pointer (some ⟨p1, 0, none⟩))), (7, (.pointer (some ⟨b3, 0, none⟩))), (8, (.int .i64 ((i : Nat) : Int))), (9, (.pointer (some ⟨b5, 0, none⟩))), (10, (.bool true)), (26, (.bool false)), (34, (.bool true)), (42, (.int .i64 xx)), (43, (.bool true))]) ⟨rfl, rfl, rfl, rfl, rfl, rfl, rfl, rfl, rfl, rfl, rfl, rfl, trivial⟩ ?_
      refine q_in_n ?_
      refine q_then_n ?_
      exact t_weak (by exact ⟨rfl, rfl, rfl, rfl, rfl, rfl, rfl, rfl, rfl, rfl, trivial⟩) (hM15 (pushK (remK ks xy) xy xz) (insT (xy, xz) ((es).filter fun e => e.1 != xy)) ⟨(hrow.set hin _), (by first | exact hkl | (simp only [pushK_len, remK_len]; exact hkl) | (rw [duR_len]; exact hkl))⟩)
    · -- out
     have hin : ¬ (0 ≤ xy ∧ xy < ((ks.length : Nat) : Int)) := by rw [hkl]; exact (fun q => hr (clamp_in.2 q))
     refine c_draw (γ := Unit) (n := 14) Try.mixed rfl rfl (fun _ S => True) (fun _ => [(0, 46, (.pointer (some ⟨p1, 0, none⟩))), (1, 47, (.pointer (some ⟨b5, 1, none⟩))), (2, 48, (.int .i64 xy)), (3, 49, (.pointer (some ⟨b5, 2, none⟩))), (4, 50, (.int .i64 xz)), (5, 51, (.int .i64 1)), (6, 52, (.pointer (some ⟨b3, 0, none⟩))), (7, 53, (.pointer (some ⟨b5, 1, none⟩))), (8, 54, (.int .i64 xy)), (9, 55, (.pointer (some ⟨b5, 2, none⟩))), (10, 56, (.int .i64 xz)), (11, 57, (.int .i64 1)), (12, 58, (.bool true)), (13, 10, (.bool true))]) (fun _ S => (Blk b5 [(.int .i64 xx), (.int .i64 xy), (.int .i64 xz)] 41) :: (RowP 52 55 b3 n es) :: (Blk p1 [(.pointer (some ⟨q2, 0, none⟩))] 37) :: (bif S 5 then (HeapO q2 (hclamp n) (pushK (remK ks xy) xy xz)) else (HeapO q2 (hclamp n) ks)) :: R) (()) trivial (fun _ h => h) (fun _ _ h => h) ?_ ?_
     · -- steps
      refine ⟨?_, ?_, ?_, ?_, ?_, ?_, ?_, ?_, ?_, ?_, ?_, ?_, ?_, ?_, trivial⟩
      · -- 0
       rintro _ S hF hS D hp K hK
       try dsimp only at hF ⊢
       refine d_need (small := [(6, (.pointer (some ⟨p1, 0, none⟩)))]) ⟨look_b rfl rfl, trivial⟩ ?_
       refine tp rfl (lv_move rfl) ?_
       exact d_closes ⟨look_b rfl rfl, trivial⟩ 0 rfl rfl rfl hS (AgreeR.refl _) (t_sat (fun _ h => h) (hK () trivial))
      · -- 1
       rintro _ S hF hS D hp K hK
       try dsimp only at hF ⊢
       refine d_need (small := [(9, (.pointer (some ⟨b5, 0, none⟩)))]) ⟨look_b rfl rfl, trivial⟩ ?_
       refine tp rfl (lv_fieldAddr (o' := 1) Try.underlying41 rfl Try.sizeOf3 rfl rfl) ?_
       exact d_closes ⟨look_b rfl rfl, trivial⟩ 1 rfl rfl rfl hS (AgreeR.refl _) (t_sat (fun _ h => h) (hK () trivial))
      · -- 2
       rintro _ S hF hS D hp K hK
       try dsimp only at hF ⊢
       have s1 := hp 1 rfl
       refine d_need (small := [(47, (.pointer (some ⟨b5, 1, none⟩)))]) ⟨look_row rfl 1 rfl s1, trivial⟩ ?_
       refine tp rfl (lv_load Try.isAgg3 rfl (gives_blk (.head _) rfl)) ?_
       exact d_closes ⟨look_row rfl 1 rfl s1, trivial⟩ 2 rfl rfl rfl hS (AgreeR.refl _) (t_sat (fun _ h => h) (hK () trivial))
      · -- 3
       rintro _ S hF hS D hp K hK
       try dsimp only at hF ⊢
       refine d_need (small := [(9, (.pointer (some ⟨b5, 0, none⟩)))]) ⟨look_b rfl rfl, trivial⟩ ?_
       refine tp rfl (lv_fieldAddr (o' := 2) Try.underlying41 rfl Try.sizeOf3 rfl rfl) ?_
       exact d_closes ⟨look_b rfl rfl, trivial⟩ 3 rfl rfl rfl hS (AgreeR.refl _) (t_sat (fun _ h => h) (hK () trivial))
      · -- 4
       rintro _ S hF hS D hp K hK
       try dsimp only at hF ⊢
       have s3 := hp 3 rfl
       refine d_need (small := [(49, (.pointer (some ⟨b5, 2, none⟩)))]) ⟨look_row rfl 3 rfl s3, trivial⟩ ?_
       refine tp rfl (lv_load Try.isAgg3 rfl (gives_blk (.head _) rfl)) ?_
       exact d_closes ⟨look_row rfl 3 rfl s3, trivial⟩ 4 rfl rfl rfl hS (AgreeR.refl _) (t_sat (fun _ h => h) (hK () trivial))
      · -- 5
       rintro _ S hF hS D hp K hK
       try dsimp only at hF ⊢
       have s0 := hp 0 rfl
       have s2 := hp 2 rfl
       have s4 := hp 4 rfl
       refine d_need (small := [(46, (.pointer (some ⟨p1, 0, none⟩))), (48, (.int .i64 xy)), (50, (.int .i64 xz))]) ⟨look_row rfl 0 rfl s0, look_row rfl 2 rfl s2, look_row rfl 4 rfl s4, trivial⟩ ?_
       refine t_f3 ?_
       refine t_cF hS ?_
       refine t_f3 ?_
       refine tc rfl (en_fn Try.call12 rfl) (tset_ok (n := hclamp n) (ks := ks) xy xz) ?_
       rintro _ _ ⟨rfl, rfl⟩
       rw [show pushE (remK ks xy) xy = 1 from (push_out hin 0).1]
       refine t_f1 ?_
       refine t_f1 ?_
       refine t_f3 ?_
       refine t_f3 ?_
       exact d_closes ⟨look_row rfl 0 rfl s0, look_row rfl 2 rfl s2, look_row rfl 4 rfl s4, trivial⟩ 5 rfl rfl rfl hS (AgreeR.refl _) (t_sat (fun _ h => h) (hK () trivial))
      · -- 6
       rintro _ S hF hS D hp K hK
       try dsimp only at hF ⊢
       refine d_need (small := [(7, (.pointer (some ⟨b3, 0, none⟩)))]) ⟨look_b rfl rfl, trivial⟩ ?_
       refine tp rfl (lv_move rfl) ?_
       exact d_closes ⟨look_b rfl rfl, trivial⟩ 6 rfl rfl rfl hS (AgreeR.refl _) (t_sat (fun _ h => h) (hK () trivial))
      · -- 7
       rintro _ S hF hS D hp K hK
       try dsimp only at hF ⊢
       refine d_need (small := [(9, (.pointer (some ⟨b5, 0, none⟩)))]) ⟨look_b rfl rfl, trivial⟩ ?_
       refine tp rfl (lv_fieldAddr (o' := 1) Try.underlying41 rfl Try.sizeOf3 rfl rfl) ?_
       exact d_closes ⟨look_b rfl rfl, trivial⟩ 7 rfl rfl rfl hS (AgreeR.refl _) (t_sat (fun _ h => h) (hK () trivial))
      · -- 8
       rintro _ S hF hS D hp K hK
       try dsimp only at hF ⊢
       have s7 := hp 7 rfl
       refine d_need (small := [(53, (.pointer (some ⟨b5, 1, none⟩)))]) ⟨look_row rfl 7 rfl s7, trivial⟩ ?_
       refine tp rfl (lv_load Try.isAgg3 rfl (gives_blk (.head _) rfl)) ?_
       exact d_closes ⟨look_row rfl 7 rfl s7, trivial⟩ 8 rfl rfl rfl hS (AgreeR.refl _) (t_sat (fun _ h => h) (hK () trivial))
      · -- 9
       rintro _ S hF hS D hp K hK
       try dsimp only at hF ⊢
       refine d_need (small := [(9, (.pointer (some ⟨b5, 0, none⟩)))]) ⟨look_b rfl rfl, trivial⟩ ?_
       refine tp rfl (lv_fieldAddr (o' := 2) Try.underlying41 rfl Try.sizeOf3 rfl rfl) ?_
       exact d_closes ⟨look_b rfl rfl, trivial⟩ 9 rfl rfl rfl hS (AgreeR.refl _) (t_sat (fun _ h => h) (hK () trivial))
      · -- 10
       rintro _ S hF hS D hp K hK
       try dsimp only at hF ⊢
       have s9 := hp 9 rfl
       refine d_need (small := [(55, (.pointer (some ⟨b5, 2, none⟩)))]) ⟨look_row rfl 9 rfl s9, trivial⟩ ?_
       refine tp rfl (lv_load Try.isAgg3 rfl (gives_blk (.head _) rfl)) ?_
       exact d_closes ⟨look_row rfl 9 rfl s9, trivial⟩ 10 rfl rfl rfl hS (AgreeR.refl _) (t_sat (fun _ h => h) (hK () trivial))
      · -- 11
       rintro _ S hF hS D hp K hK
       try dsimp only at hF ⊢
       have s6 := hp 6 rfl
       have s8 := hp 8 rfl
       have s10 := hp 10 rfl
       refine d_need (small := [(52, (.pointer (some ⟨b3, 0, none⟩))), (54, (.int .i64 xy)), (56, (.int .i64 xz))]) ⟨look_row rfl 6 rfl s6, look_row rfl 8 rfl s8, look_row rfl 10 rfl s10, trivial⟩ ?_
       refine t_f1 ?_
       refine tc rfl (en_fn Try.call18 rfl) (rset_no (es := es) xy xz (by omega) hr) ?_
       rintro _ _ ⟨rfl, rfl⟩
       refine t_f1 ?_
       exact d_closes ⟨look_row rfl 6 rfl s6, look_row rfl 8 rfl s8, look_row rfl 10 rfl s10, trivial⟩ 11 rfl rfl rfl hS (AgreeR.refl _) (t_sat (fun _ h => h) (hK () trivial))
      · -- 12
       rintro _ S hF hS D hp K hK
       try dsimp only at hF ⊢
       have s5 := hp 5 rfl
       have s11 := hp 11 rfl
       refine d_need (small := [(51, (.int .i64 1)), (57, (.int .i64 1))]) ⟨look_row rfl 5 rfl s5, look_row rfl 11 rfl s11, trivial⟩ ?_
       refine tp rfl (lv_eql (r := true) rfl rfl (by decide)) ?_
       exact d_closes ⟨look_row rfl 5 rfl s5, look_row rfl 11 rfl s11, trivial⟩ 12 rfl rfl rfl hS (AgreeR.refl _) (t_sat (fun _ h => h) (hK () trivial))
      · -- 13
       rintro _ S hF hS D hp K hK
       try dsimp only at hF ⊢
       have s12 := hp 12 rfl
       refine d_need (small := [(58, (.bool true))]) ⟨look_row rfl 12 rfl s12, trivial⟩ ?_
       refine tp rfl (lv_assign rfl) ?_
       exact d_closes ⟨look_row rfl 12 rfl s12, trivial⟩ 13 rfl rfl rfl hS (AgreeR.refl _) (t_sat (fun _ h => h) (hK () trivial))
     · -- behind
      rintro _ hF
      try dsimp only at hF ⊢
      refine t_weak (E' := [(0, (.int .i64 n)), (1, (.slice bsb xs.length csb)), (5, (.bool true)), (6, (.pointer (some ⟨p1, 0, none⟩))), (7, (.pointer (some ⟨b3, 0, none⟩))), (8, (.int .i64 ((i : Nat) : Int))), (9, (.pointer (some ⟨b5, 0, none⟩))), (10, (.bool true)), (26, (.bool false)), (34, (.bool true)), (42, (.int .i64 xx)), (43, (.bool true))]) ⟨rfl, rfl, rfl, rfl, rfl, rfl, rfl, rfl, rfl, rfl, rfl, rfl, trivial⟩ ?_
      refine q_in_n ?_
      refine q_then_n ?_
      exact t_weak (by exact ⟨rfl, rfl, rfl, rfl, rfl, rfl, rfl, rfl, rfl, rfl, trivial⟩) (hM15 (pushK (remK ks xy) xy xz) es ⟨(by rw [(push_out hin _).2]; exact hrow), (by first | exact hkl | (simp only [pushK_len, remK_len]; exact hkl) | (rw [duR_len]; exact hkl))⟩)
   · -- no
    refine tp rfl (lv_eql rfl rfl (beq_eq_false_iff_ne.2 h12)) ?_
    refine tp rfl (lv_assign rfl) ?_
    refine t_done ?_
    refine q_then_n (hK17 _ _ ?_)
    refine c_false rfl ?_
    refine c_seq (fun K19 hK19 => ?_)
    refine c_region ?_
    by_cases h13 : xx = 3
    · -- yes
     refine tp rfl (lv_eql rfl rfl (beq_iff_eq.2 h13)) ?_
     refine tp rfl (lv_assign rfl) ?_
     refine t_done ?_
     refine q_then_n (hK19 _ _ ?_)
     refine c_true rfl ?_
     refine c_draw (γ := Unit) (n := 10) Try.mixed rfl rfl (fun _ S => True) (fun _ => [(0, 61, (.pointer (some ⟨p1, 0, none⟩))), (1, 62, (.pointer (some ⟨b5, 1, none⟩))), (2, 63, (.int .i64 xy)), (3, 64, (.bool (stopB ks xy))), (4, 65, (.pointer (some ⟨b3, 0, none⟩))), (5, 66, (.pointer (some ⟨b5, 1, none⟩))), (6, 67, (.int .i64 xy)), (7, 68, (.bool (decide (((((es).filter fun e => e.1 != xy).length : Nat) : Int) < (((es).length : Nat) : Int))))), (8, 69, (.bool true)), (9, 10, (.bool true))]) (fun _ S => (Blk b5 [(.int .i64 xx), (.int .i64 xy), (.int .i64 xz)] 41) :: (bif S 7 then (RowP 52 55 b3 n ((es).filter fun e => e.1 != xy)) else (RowP 52 55 b3 n es)) :: (Blk p1 [(.pointer (some ⟨q2, 0, none⟩))] 37) :: (bif S 3 then (HeapO q2 (hclamp n) (remK ks xy)) else (HeapO q2 (hclamp n) ks)) :: R) (()) trivial (fun _ h => h) (fun _ _ h => h) ?_ ?_
     · -- steps
      refine ⟨?_, ?_, ?_, ?_, ?_, ?_, ?_, ?_, ?_, ?_, trivial⟩
      · -- 0
       rintro _ S hF hS D hp K hK
       try dsimp only at hF ⊢
       refine d_need (small := [(6, (.pointer (some ⟨p1, 0, none⟩)))]) ⟨look_b rfl rfl, trivial⟩ ?_
       refine tp rfl (lv_move rfl) ?_
       exact d_closes ⟨look_b rfl rfl, trivial⟩ 0 rfl rfl rfl hS (AgreeR.refl _) (t_sat (fun _ h => h) (hK () trivial))
      · -- 1
       rintro _ S hF hS D hp K hK
       try dsimp only at hF ⊢
       refine d_need (small := [(9, (.pointer (some ⟨b5, 0, none⟩)))]) ⟨look_b rfl rfl, trivial⟩ ?_
       refine tp rfl (lv_fieldAddr (o' := 1) Try.underlying41 rfl Try.sizeOf3 rfl rfl) ?_
       exact d_closes ⟨look_b rfl rfl, trivial⟩ 1 rfl rfl rfl hS (AgreeR.refl _) (t_sat (fun _ h => h) (hK () trivial))
      · -- 2
       rintro _ S hF hS D hp K hK
       try dsimp only at hF ⊢
       have s1 := hp 1 rfl
       refine d_need (small := [(62, (.pointer (some ⟨b5, 1, none⟩)))]) ⟨look_row rfl 1 rfl s1, trivial⟩ ?_
       refine tp rfl (lv_load Try.isAgg3 rfl (gives_blk (.head _) rfl)) ?_
       exact d_closes ⟨look_row rfl 1 rfl s1, trivial⟩ 2 rfl rfl rfl hS (AgreeR.refl _) (t_sat (fun _ h => h) (hK () trivial))
      · -- 3
       rintro _ S hF hS D hp K hK
       try dsimp only at hF ⊢
       have s0 := hp 0 rfl
       have s2 := hp 2 rfl
       refine d_need (small := [(61, (.pointer (some ⟨p1, 0, none⟩))), (63, (.int .i64 xy))]) ⟨look_row rfl 0 rfl s0, look_row rfl 2 rfl s2, trivial⟩ ?_
       refine t_f3 ?_
       refine t_cF hS ?_
       refine t_f3 ?_
       refine tc rfl (en_fn Try.call13 rfl) (tstop_ok (n := hclamp n) (ks := ks) xy) ?_
       rintro _ _ ⟨rfl, rfl⟩
       refine t_f1 ?_
       refine t_f1 ?_
       refine t_f3 ?_
       refine t_f3 ?_
       exact d_closes ⟨look_row rfl 0 rfl s0, look_row rfl 2 rfl s2, trivial⟩ 3 rfl rfl rfl hS (AgreeR.refl _) (t_sat (fun _ h => h) (hK () trivial))
      · -- 4
       rintro _ S hF hS D hp K hK
       try dsimp only at hF ⊢
       refine d_need (small := [(7, (.pointer (some ⟨b3, 0, none⟩)))]) ⟨look_b rfl rfl, trivial⟩ ?_
       refine tp rfl (lv_move rfl) ?_
       exact d_closes ⟨look_b rfl rfl, trivial⟩ 4 rfl rfl rfl hS (AgreeR.refl _) (t_sat (fun _ h => h) (hK () trivial))
      · -- 5
       rintro _ S hF hS D hp K hK
       try dsimp only at hF ⊢
       refine d_need (small := [(9, (.pointer (some ⟨b5, 0, none⟩)))]) ⟨look_b rfl rfl, trivial⟩ ?_
       refine tp rfl (lv_fieldAddr (o' := 1) Try.underlying41 rfl Try.sizeOf3 rfl rfl) ?_
       exact d_closes ⟨look_b rfl rfl, trivial⟩ 5 rfl rfl rfl hS (AgreeR.refl _) (t_sat (fun _ h => h) (hK () trivial))
      · -- 6
       rintro _ S hF hS D hp K hK
       try dsimp only at hF ⊢
       have s5 := hp 5 rfl
       refine d_need (small := [(66, (.pointer (some ⟨b5, 1, none⟩)))]) ⟨look_row rfl 5 rfl s5, trivial⟩ ?_
       refine tp rfl (lv_load Try.isAgg3 rfl (gives_blk (.head _) rfl)) ?_
       exact d_closes ⟨look_row rfl 5 rfl s5, trivial⟩ 6 rfl rfl rfl hS (AgreeR.refl _) (t_sat (fun _ h => h) (hK () trivial))
      · -- 7
       rintro _ S hF hS D hp K hK
       try dsimp only at hF ⊢
       have s4 := hp 4 rfl
       have s6 := hp 6 rfl
       refine d_need (small := [(65, (.pointer (some ⟨b3, 0, none⟩))), (67, (.int .i64 xy))]) ⟨look_row rfl 4 rfl s4, look_row rfl 6 rfl s6, trivial⟩ ?_
       refine t_f1 ?_
       refine t_cF hS ?_
       refine tc rfl (en_fn Try.call19 rfl) (rstop_ok (es := es) xy (by omega)) ?_
       rintro _ _ ⟨rfl, rfl⟩
       refine t_f1 ?_
       exact d_closes ⟨look_row rfl 4 rfl s4, look_row rfl 6 rfl s6, trivial⟩ 7 rfl rfl rfl hS (AgreeR.refl _) (t_sat (fun _ h => h) (hK () trivial))
      · -- 8
       rintro _ S hF hS D hp K hK
       try dsimp only at hF ⊢
       have s3 := hp 3 rfl
       have s7 := hp 7 rfl
       refine d_need (small := [(64, (.bool (stopB ks xy))), (68, (.bool (decide (((((es).filter fun e => e.1 != xy).length : Nat) : Int) < (((es).length : Nat) : Int)))))]) ⟨look_row rfl 3 rfl s3, look_row rfl 7 rfl s7, trivial⟩ ?_
       refine tp rfl (lv_eqb Try.underlying4 rfl rfl (beq_iff_eq.2 (hrow.stopB xy).symm)) ?_
       exact d_closes ⟨look_row rfl 3 rfl s3, look_row rfl 7 rfl s7, trivial⟩ 8 rfl rfl rfl hS (AgreeR.refl _) (t_sat (fun _ h => h) (hK () trivial))
      · -- 9
       rintro _ S hF hS D hp K hK
       try dsimp only at hF ⊢
       have s8 := hp 8 rfl
       refine d_need (small := [(69, (.bool true))]) ⟨look_row rfl 8 rfl s8, trivial⟩ ?_
       refine tp rfl (lv_assign rfl) ?_
       exact d_closes ⟨look_row rfl 8 rfl s8, trivial⟩ 9 rfl rfl rfl hS (AgreeR.refl _) (t_sat (fun _ h => h) (hK () trivial))
     · -- behind
      rintro _ hF
      try dsimp only at hF ⊢
      refine t_weak (E' := [(0, (.int .i64 n)), (1, (.slice bsb xs.length csb)), (5, (.bool true)), (6, (.pointer (some ⟨p1, 0, none⟩))), (7, (.pointer (some ⟨b3, 0, none⟩))), (8, (.int .i64 ((i : Nat) : Int))), (9, (.pointer (some ⟨b5, 0, none⟩))), (10, (.bool true)), (26, (.bool false)), (34, (.bool true)), (42, (.int .i64 xx)), (43, (.bool false)), (59, (.bool true))]) ⟨rfl, rfl, rfl, rfl, rfl, rfl, rfl, rfl, rfl, rfl, rfl, rfl, rfl, trivial⟩ ?_
      refine q_in_n ?_
      refine q_then_n ?_
      exact t_weak (by exact ⟨rfl, rfl, rfl, rfl, rfl, rfl, rfl, rfl, rfl, rfl, trivial⟩) (hM15 (remK ks xy) ((es).filter fun e => e.1 != xy) ⟨(hrow.stop _), (by first | exact hkl | (simp only [pushK_len, remK_len]; exact hkl) | (rw [duR_len]; exact hkl))⟩)
    · -- no
     refine tp rfl (lv_eql rfl rfl (beq_eq_false_iff_ne.2 h13)) ?_
     refine tp rfl (lv_assign rfl) ?_
     refine t_done ?_
     refine q_then_n (hK19 _ _ ?_)
     refine c_false rfl ?_
     refine c_seq (fun K20 hK20 => ?_)
     refine c_region ?_
     by_cases h14 : xx = 4
     · -- yes
      refine tp rfl (lv_eql rfl rfl (beq_iff_eq.2 h14)) ?_
      refine tp rfl (lv_assign rfl) ?_
      refine t_done ?_
      refine q_then_n (hK20 _ _ ?_)
      refine c_true rfl ?_
      refine c_seq (fun K21 hK21 => ?_)
      refine c_region ?_
      have hdc := due_cnt ks xz
      have hcn := hrow.len
      have hcl := cnt_le ks
      refine tp rfl (lv_move rfl) ?_
      refine tp rfl (lv_fieldAddr (o' := 2) Try.underlying41 rfl Try.sizeOf3 rfl rfl) ?_
      refine tp rfl (lv_load Try.isAgg3 rfl (gives_blk (.head _) rfl)) ?_
      refine t_f3 ?_
      refine t_f3 ?_
      refine tc rfl (en_fn Try.call14 rfl) (tdue_ok (n := hclamp n) (ks := ks) xz) ?_
      rintro _ _ ⟨bs15, cp16, hok17, hle18, rfl, rfl⟩
      refine tp rfl (lv_assign rfl) ?_
      refine t_done ?_
      refine q_then_n (hK21 _ _ ?_)
      refine c_seq (fun K22 hK22 => ?_)
      refine c_region ?_
      have hdl := (hrow.due xz).1
      refine tp rfl (lv_move rfl) ?_
      refine tp rfl (lv_move rfl) ?_
      refine tp rfl (lv_fieldAddr (o' := 2) Try.underlying41 rfl Try.sizeOf3 rfl rfl) ?_
      refine tp rfl (lv_load Try.isAgg3 rfl (gives_blk (.tail _ (.tail _ (.tail _ (.head _)))) rfl)) ?_
      refine t_f4 ?_
      refine tc rfl (en_fn Try.call20 rfl) (rdue_ok (es := es) xz (by omega)) ?_
      rintro _ _ ⟨bs19, cp20, hok21, hle22, rfl, rfl⟩
      rw [← hdl] at hok21 hle22 ⊢
      refine tc rfl (en_fn Try.call17 rfl) (ints_ok (dueL ks xz) (dueL ks xz) (rd_sl (.tail _ (.tail _ (.head _)))) (rd_sl (.head _)) hok17 hok21 (by first | omega | (simp; omega) | (simp; done)) (by first | omega | (simp; omega) | (simp; done))) ?_
      rintro _ _ ⟨rfl, rfl⟩
      rw [eqI_refl]
      refine tp rfl (lv_assign rfl) ?_
      refine t_done ?_
      refine q_then_n (hK22 _ _ ?_)
      refine c_seq (fun K23 hK23 => ?_)
      refine c_region ?_
      refine tp rfl (lv_assign rfl) ?_
      refine t_done ?_
      refine q_then_n (hK23 _ _ ?_)
      refine c_block ?_
      refine t_drop ?_
      refine c_loop (γ := (Nat) × (List Int)) (fun (k, l) => k ≤ (dueL ks xz).length ∧ l.length = (dueL ks xz).length) (fun (k, l) => [(0, (.int .i64 n)), (1, (.slice bsb xs.length csb)), (5, (.bool true)), (6, (.pointer (some ⟨p1, 0, none⟩))), (7, (.pointer (some ⟨b3, 0, none⟩))), (8, (.int .i64 ((i : Nat) : Int))), (9, (.pointer (some ⟨b5, 0, none⟩))), (10, (.bool true)), (11, (.slice bs15 ((dueL ks xz).length) cp16)), (12, (.int .i64 ((k : Nat) : Int))), (26, (.bool false)), (34, (.bool true)), (42, (.int .i64 xx)), (43, (.bool false)), (59, (.bool false)), (70, (.bool true))]) (fun (k, l) => (RowP 52 55 b3 n ((es).dropWhile fun e => decide (e.2 ≤ xz))) :: (SlV 3 1 (.slice bs15 ((dueL ks xz).length) cp16) ((dueL ks xz).length) (ints .i64 l)) :: (Blk p1 [(.pointer (some ⟨q2, 0, none⟩))] 37) :: (HeapO q2 (hclamp n) (duR ks xz)) :: (Blk b5 [(.int .i64 xx), (.int .i64 xy), (.int .i64 xz)] 41) :: R) (fun (k, l) => (dueL ks xz).length - k) (0, dueL ks xz) ⟨by omega, rfl⟩ ⟨rfl, rfl, rfl, rfl, rfl, rfl, rfl, rfl, rfl, rfl, rfl, rfl, rfl, rfl, rfl, rfl, trivial⟩ (fun _ h => h) ?_
      rintro ⟨k, l⟩ K24 hF hK24
      try dsimp only at hF hK24 ⊢
      obtain ⟨hk, hl⟩ := hF
      refine c_seq (fun K25 hK25 => ?_)
      refine c_seq (fun K26 hK26 => ?_)
      refine c_region ?_
      refine tp rfl (lv_move rfl) ?_
      refine tp rfl (lv_move rfl) ?_
      refine tp rfl (lv_len Try.underlying30 rfl rfl) ?_
      by_cases h23 : ((k : Nat) : Int) < (((dueL ks xz).length : Nat) : Int)
      · -- yes
       refine tp rfl (lv_lss rfl rfl (decide_eq_true h23)) ?_
       refine t_done ?_
       refine q_then_n (hK26 _ _ ?_)
       refine c_true rfl ?_
       refine c_skip ?_
       refine q_then_n (hK25 _ _ ?_)
       refine c_seq (fun K27 hK27 => ?_)
       refine c_block ?_
       refine c_region ?_
       refine tp rfl (lv_move rfl) ?_
       refine tp rfl (lv_move rfl) ?_
       refine tp rfl (lv_indexAddr (k' := k) Try.underlying30 Try.sizeOf3 rfl rfl hok17 (by omega) (by omega) (by omega)) ?_
       refine t_f1 ?_
       refine ts (sv_sl Try.sizeOf3 rfl rfl rfl (by rw [ints_length]; omega) ints_set) ?_
       refine t_done ?_
       refine q_in_n ?_
       refine q_then_n (hK27 _ _ ?_)
       refine c_region ?_
       refine tp rfl (lv_move rfl) ?_
       refine tp rfl (lv_add (c := ((k + 1 : Nat) : Int)) rfl rfl (wr_i64_succ (by omega))) ?_
       refine tp rfl (lv_assign rfl) ?_
       refine t_done ?_
       refine q_then_n ?_
       refine t_f1 ?_
       exact t_weak (by exact ⟨rfl, rfl, rfl, rfl, rfl, rfl, rfl, rfl, rfl, rfl, rfl, rfl, rfl, rfl, rfl, rfl, trivial⟩) ((hK24 (k + 1, l.set k (-7)) ⟨by omega, by dsimp only; rw [List.length_set]; exact hl⟩ (by dsimp only; omega)))
      · -- no
       refine tp rfl (lv_lss rfl rfl (decide_eq_false h23)) ?_
       refine t_done ?_
       refine q_then_n (hK26 _ _ ?_)
       refine c_false rfl ?_
       refine c_exit ?_
       refine q_then_x ?_
       refine q_then_x ?_
       refine q_in_x ?_
       refine q_in_n ?_
       refine q_then_n ?_
       refine t_f1 ?_
       refine t_drop ?_
       refine t_f2 ?_
       refine t_f2 ?_
       refine t_f2 ?_
       refine t_f3 ?_
       exact t_weak (by exact ⟨rfl, rfl, rfl, rfl, rfl, rfl, rfl, rfl, rfl, rfl, trivial⟩) (hM15 (duR ks xz) ((es).dropWhile fun e => decide (e.2 ≤ xz)) ⟨(hrow.due _).2, (by first | exact hkl | (simp only [pushK_len, remK_len]; exact hkl) | (rw [duR_len]; exact hkl))⟩)
     · -- no
      refine tp rfl (lv_eql rfl rfl (beq_eq_false_iff_ne.2 h14)) ?_
      refine tp rfl (lv_assign rfl) ?_
      refine t_done ?_
      refine q_then_n (hK20 _ _ ?_)
      refine c_false rfl ?_
      refine c_skip ?_
      refine q_in_n ?_
      refine q_then_n ?_
      exact t_weak (by exact ⟨rfl, rfl, rfl, rfl, rfl, rfl, rfl, rfl, rfl, rfl, trivial⟩) (hM15 ks es ⟨hrow, (by first | exact hkl | (simp only [pushK_len, remK_len]; exact hkl) | (rw [duR_len]; exact hkl))⟩)
 · -- not both
  refine t_cut0 (E' := [(0, (.int .i64 n)), (1, (.slice bsb xs.length csb)), (5, (.bool true)), (6, (.pointer (some ⟨p1, 0, none⟩))), (7, (.pointer (some ⟨b3, 0, none⟩))), (8, (.int .i64 ((i : Nat) : Int))), (26, (.bool false)), (34, (.bool false))]) ?_ (fun KK hKK => ?_)
  ·
   refine q_then_n (hK11 _ _ ?_)
   refine c_false rfl ?_
   refine c_exit ?_
   refine q_then_x ?_
   refine q_then_x ?_
   refine q_in_x ?_
   refine q_then_n (hK7 _ _ ?_)
   refine c_seq (fun K12 hK12 => ?_)
   refine c_region ?_
   refine tp rfl (lv_move rfl) ?_
   refine tp rfl (lv_assign rfl) ?_
   refine t_done ?_
   refine q_then_n (hK12 _ _ ?_)
   refine c_ret ?_
   refine t_drop ?_
   refine t_drop ?_
   refine t_drop ?_
   refine q_ret rfl rfl ?_
   exact ⟨rfl, rfl⟩
  · -- which
   by_cases hc4A : ((i : Nat) : Int) < ((xs.length : Nat) : Int)
   ·
    have hc4B : ¬ (((i : Nat) : Int) < 200) := fun hh => hc4 ⟨hc4A, hh⟩
    refine tp rfl (lv_move rfl) ?_
    refine tp rfl (lv_move rfl) ?_
    refine tp rfl (lv_len Try.underlying39 rfl rfl) ?_
    refine tp rfl (lv_lss rfl rfl (decide_eq_true hc4A)) ?_
    refine tp rfl (lv_move rfl) ?_
    refine t_guard rfl rfl ?_
    refine tp rfl (lv_move rfl) ?_
    refine t_guard rfl rfl ?_
    refine tp rfl (lv_lss rfl rfl (decide_eq_false hc4B)) ?_
    refine tp rfl (lv_pick_t rfl rfl) ?_
    exact t_done (t_weak (by exact ⟨rfl, rfl, rfl, rfl, rfl, rfl, rfl, rfl, trivial⟩) hKK)
   ·
    refine tp rfl (lv_move rfl) ?_
    refine tp rfl (lv_move rfl) ?_
    refine tp rfl (lv_len Try.underlying39 rfl rfl) ?_
    refine tp rfl (lv_lss rfl rfl (decide_eq_false hc4A)) ?_
    refine tp rfl (lv_move rfl) ?_
    refine t_skip rfl rfl rfl ?_
    refine t_skip rfl rfl rfl ?_
    refine tp rfl (lv_pick_f rfl rfl) ?_
    exact t_done (t_weak (by exact ⟨rfl, rfl, rfl, rfl, rfl, rfl, rfl, rfl, trivial⟩) hKK)
end Go.Proofs.Ytombnfgkgcjihaa
