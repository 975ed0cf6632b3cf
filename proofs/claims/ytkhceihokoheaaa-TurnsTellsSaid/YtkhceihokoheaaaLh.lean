/- TurnsTells: the law's walk. -/
import Derived.Test.YtkhceihokoheaaaLg
import Derived.Test.YtkhceihokoheaaaRb
set_option maxRecDepth 100000
set_option linter.unusedVariables false
set_option linter.unusedSimpArgs false
namespace Go.Proofs.Ytkhceihokoheaaa
open Go Go.Proofs Sp
set_option maxHeartbeats 40000000 in
theorem tells_ok {R : List HP} (n : Int) {bl : Option Addr} {cl : Nat} (l : List St4) (hl : Rd R bl (recs st4F l)) (okl : SlOk bl l.length) (ll : l.length ≤ 9223372036854775807) (hg : ∀ x ∈ l, GoodS R x) :
    Ok Try.prog 9 [(.int .i64 n), (.slice bl l.length cl)] R
      (fun v M => v = .bool true ∧ M = R) := by
  obtain ⟨q, hq⟩ : ∃ q : Int, qOf n = q := ⟨_, rfl⟩
  have hqb : 1 ≤ q ∧ q ≤ 1048576 := by rw [← hq]; unfold qOf; omega
  refine ok_of (N := 206) Try.func9 rfl rfl rfl (fun W => ?_)
  refine c_seq (fun K1 hK1 => ?_)
  refine c_region ?_
  refine tp rfl (lv_assign rfl) ?_
  refine t_done ?_
  refine q_then_n (hK1 _ _ ?_)
  refine c_seq (fun K2 hK2 => ?_)
  refine c_region ?_
  refine tc rfl (en_fn Try.call10 rfl) (shown_ok) ?_
  rintro _ _ ⟨rfl, hMR⟩
  rw [hMR]; clear hMR
  refine tp rfl (lv_assign rfl) ?_
  refine t_done ?_
  refine q_then_n (hK2 _ _ ?_)
  refine c_seq (fun K3 hK3 => ?_)
  refine c_region ?_
  refine tp rfl (lv_move rfl) ?_
  refine tc rfl (en_fn Try.call11 rfl) (tnew_ok n) ?_
  rintro _ _ ⟨p1, rfl, rfl⟩
  rw [show qOf n = q from hq]
  refine tp rfl (lv_assign rfl) ?_
  refine t_done ?_
  refine q_then_n (hK3 _ _ ?_)
  refine c_seq (fun K4 hK4 => ?_)
  refine c_region ?_
  refine tp rfl (lv_move rfl) ?_
  refine tc rfl (en_fn Try.call18 rfl) (rtnew_ok n) ?_
  rintro _ _ ⟨p2, rfl, rfl⟩
  rw [show qOf n = q from hq]
  refine tp rfl (lv_assign rfl) ?_
  refine t_done ?_
  refine q_then_n (hK4 _ _ ?_)
  refine c_seq (fun K5 hK5 => ?_)
  refine c_seq (fun K6 hK6 => ?_)
  refine c_region ?_
  refine tp rfl (lv_move rfl) ?_
  refine tp rfl (lv_eqnil Try.underlying24 rfl rfl) ?_
  refine t_done ?_
  refine q_then_n (hK6 _ _ ?_)
  refine c_false rfl ?_
  refine c_skip ?_
  refine q_then_n (hK5 _ _ ?_)
  refine c_seq (fun K7 hK7 => ?_)
  refine c_seq (fun K8 hK8 => ?_)
  refine c_region ?_
  refine tp rfl (lv_assign rfl) ?_
  refine t_done ?_
  refine q_then_n (hK8 _ _ ?_)
  refine c_block ?_
  refine c_loop (γ := (Nat) × (List M3) × (Nat)) (fun (i, ms, a) => i ≤ l.length ∧ i ≤ 150 ∧ ms.length ≤ i) (fun (i, ms, a) => [(0, (.int .i64 n)), (1, (.slice bl l.length cl)), (5, (.bool true)), (6, (.pointer (some ⟨p1, 0, none⟩))), (7, (.pointer (some ⟨p2, 0, none⟩))), (8, (.int .i64 ((i : Nat) : Int))), (29, (.bool false))]) (fun (i, ms, a) => (RTurnsO p2 q ms a) :: (TurnsO p1 q ms a) :: R) (fun (i, ms, a) => l.length - i) (0, [], 0) ⟨by omega, by omega, by simp⟩ ⟨rfl, rfl, rfl, rfl, rfl, rfl, rfl, trivial⟩ (fun _ h => h) ?_
  rintro ⟨i, ms, a⟩ K9 hF hK9
  try dsimp only at hF hK9 ⊢
  obtain ⟨hi, hi2, hml⟩ := hF
  refine c_seq (fun K10 hK10 => ?_)
  refine c_seq (fun K11 hK11 => ?_)
  refine c_region ?_
  by_cases hc3 : ((i : Nat) : Int) < ((l.length : Nat) : Int) ∧ ((i : Nat) : Int) < 150
  · -- both
    have hc3a := hc3.1
    have hc3b := hc3.2
    refine tp rfl (lv_move rfl) ?_
    refine tp rfl (lv_move rfl) ?_
    refine tp rfl (lv_len Try.underlying38 rfl rfl) ?_
    refine tp rfl (lv_lss rfl rfl (decide_eq_true hc3.1)) ?_
    refine tp rfl (lv_move rfl) ?_
    refine t_guard rfl rfl ?_
    refine tp rfl (lv_move rfl) ?_
    refine t_guard rfl rfl ?_
    refine tp rfl (lv_lss rfl rfl (decide_eq_true hc3.2)) ?_
    refine tp rfl (lv_pick_t rfl rfl) ?_
    refine t_done ?_
    refine q_then_n (hK11 _ _ ?_)
    refine c_true rfl ?_
    refine c_skip ?_
    refine q_then_n (hK10 _ _ ?_)
    refine c_seq (fun K12 hK12 => ?_)
    refine c_block ?_
    refine c_seq (fun K13 hK13 => ?_)
    refine c_region ?_
    refine t_f1 ?_
    refine t_learn (fun _ h => tfacts_of h) (fun ⟨_, _, _, hT⟩ => ?_)
    have hal := hT.at_
    refine tp rfl (lv_move rfl) ?_
    refine tp rfl (lv_move rfl) ?_
    refine tp rfl (lv_indexAddr (k' := i * 4) Try.underlying38 Try.sizeOf41 rfl rfl okl (by omega) (by omega) (by omega)) ?_
    refine tp rfl (lv_loadAgg_ad (cs := [(.int .i64 ((l.getD i St4.d).kd)), (.int .i64 ((l.getD i St4.d).id)), (.int .i64 ((l.getD i St4.d).w)), (l.getD i St4.d).lv]) Try.isAgg41 Try.sizeOf41 rfl (gives_all4 (Rd.gives (Rd.cons (Rd.cons hl)) ((recs_get (k := i) (j := 0) st4F_len (d := St4.d) (by omega) (Nat.le_of_ble_eq_true rfl)).trans rfl)) (Rd.gives (Rd.cons (Rd.cons hl)) ((recs_get (k := i) (j := 1) st4F_len (d := St4.d) (by omega) (Nat.le_of_ble_eq_true rfl)).trans rfl)) (Rd.gives (Rd.cons (Rd.cons hl)) ((recs_get (k := i) (j := 2) st4F_len (d := St4.d) (by omega) (Nat.le_of_ble_eq_true rfl)).trans rfl)) (Rd.gives (Rd.cons (Rd.cons hl)) ((recs_get (k := i) (j := 3) st4F_len (d := St4.d) (by omega) (Nat.le_of_ble_eq_true rfl)).trans rfl)))) ?_
    obtain ⟨_, bw, cw, hlv, hlw, okw, hrw⟩ := hg _ (st4_mem (show i < l.length by omega))
    rw [hlv]
    refine tm rfl (mv_alloc Try.zeroValue41 rfl) ?_
    rintro _ _ ⟨b4, rfl, rfl⟩
    refine ts (sv_blkAgg (news := [(.int .i64 ((l.getD i St4.d).kd)), (.int .i64 ((l.getD i St4.d).id)), (.int .i64 ((l.getD i St4.d).w)), (.slice bw ((l.getD i St4.d).ws.length) cw)]) Try.sizeOf41 rfl rfl rfl rfl (Nat.le_of_ble_eq_true rfl) rfl) ?_
    refine t_done ?_
    refine q_then_n (hK13 _ _ ?_)
    refine c_seq (fun K14 hK14 => ?_)
    refine c_region ?_
    refine tp rfl (lv_assign rfl) ?_
    refine t_done ?_
    refine q_then_n (hK14 _ _ ?_)
    refine c_seq (fun K15 hK15 => ?_)
    have hM15 : ∀ (m2 : List M3) (a2 : Nat), m2.length ≤ i + 1 → Tri K15 W 206 [(0, (.int .i64 n)), (1, (.slice bl l.length cl)), (5, (.bool true)), (6, (.pointer (some ⟨p1, 0, none⟩))), (7, (.pointer (some ⟨p2, 0, none⟩))), (8, (.int .i64 ((i : Nat) : Int))), (9, (.pointer (some ⟨b4, 0, none⟩))), (10, (.bool true)), (29, (.bool false)), (37, (.bool true))] ((Blk b4 [(.int .i64 ((l.getD i St4.d).kd)), (.int .i64 ((l.getD i St4.d).id)), (.int .i64 ((l.getD i St4.d).w)), (.slice bw ((l.getD i St4.d).ws.length) cw)] 41) :: (TurnsO p1 q m2 a2) :: (RTurnsO p2 q m2 a2) :: R) := by
      rintro m2 a2 hF
      have hml2 := hF
      refine hK15 _ _ ?_
      refine c_seq (fun K16 hK16 => ?_)
      refine c_region ?_
      refine t_f1 ?_
      refine t_learn (fun _ h => tfacts_of h) (fun ⟨_, _, _, hT2⟩ => ?_)
      have hal2 := hT2.at_
      have hpg := placeM_ge m2 (l.getD i St4.d).id
      refine tp rfl (lv_move rfl) ?_
      refine tp rfl (lv_fieldAddr (o' := 1) Try.underlying41 rfl Try.sizeOf3 rfl rfl) ?_
      refine tp rfl (lv_load Try.isAgg3 rfl (gives_blk (.tail _ (.head _)) rfl)) ?_
      refine tc rfl (en_fn Try.call16 rfl) (tcredit_ok (q := q) (ms := m2) (a := a2) ((l.getD i St4.d).id) (by omega)) ?_
      rintro _ _ ⟨rfl, rfl⟩
      refine tp rfl (lv_move rfl) ?_
      refine tp rfl (lv_extract rfl rfl) ?_
      refine tp rfl (lv_extract rfl rfl) ?_
      refine tp rfl (lv_assign rfl) ?_
      refine tp rfl (lv_assign rfl) ?_
      refine t_done ?_
      refine q_then_n (hK16 _ _ ?_)
      refine c_seq (fun K17 hK17 => ?_)
      refine c_region ?_
      refine tp rfl (lv_move rfl) ?_
      refine tp rfl (lv_fieldAddr (o' := 1) Try.underlying41 rfl Try.sizeOf3 rfl rfl) ?_
      refine tp rfl (lv_load Try.isAgg3 rfl (gives_blk (.tail _ (.head _)) rfl)) ?_
      refine t_f2 ?_
      refine tc rfl (en_fn Try.call22 rfl) (rtfindO_ok (q := q) (ms := m2) (a := a2) ((l.getD i St4.d).id) (by omega)) ?_
      rintro _ _ ⟨rfl, rfl⟩
      refine tp rfl (lv_assign rfl) ?_
      refine t_done ?_
      refine q_then_n (hK17 _ _ ?_)
      refine c_seq (fun K18 hK18 => ?_)
      refine c_region ?_
      refine tp rfl (lv_move rfl) ?_
      refine t_f1 ?_
      refine tc rfl (en_fn Try.call17 rfl) (tturn_ok (q := q) (ms := m2) (a := a2) (by omega)) ?_
      rintro _ _ ⟨rfl, rfl⟩
      refine tp rfl (lv_move rfl) ?_
      refine tp rfl (lv_extract rfl rfl) ?_
      refine tp rfl (lv_extract rfl rfl) ?_
      refine tp rfl (lv_assign rfl) ?_
      refine tp rfl (lv_assign rfl) ?_
      refine t_done ?_
      refine q_then_n (hK18 _ _ ?_)
      refine c_seq (fun K19 hK19 => ?_)
      refine t_f1 ?_
      refine t_openRT (fun bs5 cp6 hok7 hle8 => ?_)
      by_cases hp : placeM m2 ((l.getD i St4.d).id) ≥ 0
      · -- there
        obtain ⟨kp, hkp⟩ : ∃ k : Nat, placeM m2 ((l.getD i St4.d).id) = (k : Int) := ⟨(placeM m2 ((l.getD i St4.d).id)).toNat, by omega⟩
        have hkl : kp < m2.length := by omega
        have ha2 : a2 < m2.length := by rcases hal2 with h | ⟨_, h⟩; exact h; rw [h] at hkl; simp at hkl
        rw [show credV m2 ((l.getD i St4.d).id) = (m2.getD kp M3.z).c from by unfold credV; rw [if_pos hp, hkp, Int.toNat_natCast], show decide (placeM m2 ((l.getD i St4.d).id) ≥ 0) = true from decide_eq_true hp, show decide (m2.length ≠ 0) = true from decide_eq_true (by omega), hkp]
        refine c_draw (γ := Unit) (n := 69) Try.mixed rfl rfl (fun _ S => True) (fun _ => [(0, 136, (.bool true)), (1, 137, (.bool false)), (2, 138, (.bool false)), (3, 139, (.pointer (some ⟨p1, 0, none⟩))), (4, 140, (.int .i64 ((m2.length : Nat) : Int))), (5, 141, (.pointer (some ⟨p2, 0, none⟩))), (6, 142, (.pointer (some ⟨p2, 0, none⟩))), (7, 143, (.pointer (some ⟨p2, 1, none⟩))), (8, 144, (.slice bs5 m2.length cp6)), (9, 145, (.int .i64 ((m2.length : Nat) : Int))), (10, 146, (.bool false)), (11, 147, (.bool false)), (12, 148, (.bool false)), (13, 149, (.bool true)), (14, 150, (.int .i64 ((kp : Nat) : Int))), (15, 151, (.bool true)), (16, 152, (.bool false)), (17, 153, (.bool false)), (18, 154, (.bool false)), (19, 155, (.bool true)), (20, 156, (.bool true)), (21, 157, (.int .i64 ((m2.getD kp M3.z).c))), (22, 158, (.pointer (some ⟨p2, 0, none⟩))), (23, 159, (.pointer (some ⟨p2, 0, none⟩))), (24, 160, (.pointer (some ⟨p2, 1, none⟩))), (25, 161, (.slice bs5 m2.length cp6)), (26, 162, (.int .i64 ((kp : Nat) : Int))), (27, 163, (.pointer (some (ad bs5 (kp * 3))))), (28, 164, (.pointer (some (ad bs5 (kp * 3 + 2))))), (29, 165, (.int .i64 ((m2.getD kp M3.z).c))), (30, 166, (.bool false)), (31, 167, (.bool false)), (32, 168, (.bool false)), (33, 169, (.bool false)), (34, 170, (.bool true)), (35, 171, (.bool false)), (36, 172, (.bool false)), (37, 173, undef), (38, 174, undef), (39, 175, (.bool false)), (40, 176, (.bool false)), (41, 177, (.bool false)), (42, 178, (.bool true)), (43, 179, (.pointer (some ⟨p2, 0, none⟩))), (44, 180, (.pointer (some ⟨p2, 0, none⟩))), (45, 181, (.pointer (some ⟨p2, 1, none⟩))), (46, 182, (.slice bs5 m2.length cp6)), (47, 183, (.int .i64 ((m2.length : Nat) : Int))), (48, 184, (.bool true)), (49, 185, (.bool false)), (50, 186, (.bool false)), (51, 187, (.bool false)), (52, 188, (.bool true)), (53, 189, (.bool true)), (54, 190, (.int .i64 ((m2.getD a2 M3.z).id))), (55, 191, (.pointer (some ⟨p2, 0, none⟩))), (56, 192, (.pointer (some ⟨p2, 0, none⟩))), (57, 193, (.pointer (some ⟨p2, 1, none⟩))), (58, 194, (.slice bs5 m2.length cp6)), (59, 195, (.pointer (some ⟨p2, 0, none⟩))), (60, 196, (.pointer (some ⟨p2, 0, none⟩))), (61, 197, (.pointer (some ⟨p2, 2, none⟩))), (62, 198, (.int .i64 ((a2 : Nat) : Int))), (63, 199, (.pointer (some (ad bs5 (a2 * 3))))), (64, 200, (.pointer (some (ad bs5 (a2 * 3))))), (65, 201, (.int .i64 ((m2.getD a2 M3.z).id))), (66, 202, (.bool false)), (67, 203, (.bool false)), (68, 204, (.bool false))]) (fun _ S => (Blk p2 [(.int .i64 q), (.slice bs5 m2.length cp6), (.int .i64 ((a2 : Nat) : Int))] 57) :: (SlV 59 3 (.slice bs5 m2.length cp6) m2.length (recs m3F m2)) :: (TurnsO p1 q m2 a2) :: (Blk b4 [(.int .i64 ((l.getD i St4.d).kd)), (.int .i64 ((l.getD i St4.d).id)), (.int .i64 ((l.getD i St4.d).w)), (.slice bw ((l.getD i St4.d).ws.length) cw)] 41) :: R) (()) trivial (fun _ h => h) (fun _ _ h => h) ?_ ?_
        · -- steps
         refine ⟨?_, ?_, ?_, ?_, ?_, ?_, ?_, ?_, ?_, ?_, ?_, ?_, ?_, ?_, ?_, ?_, ?_, ?_, ?_, ?_, ?_, ?_, ?_, ?_, ?_, ?_, ?_, ?_, ?_, ?_, ?_, ?_, ?_, ?_, ?_, ?_, ?_, ?_, ?_, ?_, ?_, ?_, ?_, ?_, ?_, ?_, ?_, ?_, ?_, ?_, ?_, ?_, ?_, ?_, ?_, ?_, ?_, ?_, ?_, ?_, ?_, ?_, ?_, ?_, ?_, ?_, ?_, ?_, ?_, trivial⟩
         · -- 0
          rintro _ S hF hS D hp K hK
          try dsimp only at hF ⊢
          refine d_need (small := [(10, (.bool true))]) ⟨look_b rfl rfl, trivial⟩ ?_
          refine tp rfl (lv_move rfl) ?_
          exact d_closes ⟨look_b rfl rfl, trivial⟩ 0 rfl rfl rfl hS (AgreeR.refl _) (t_sat (fun _ h => h) (hK () trivial))
         · -- 1
          rintro _ S hF hS D hp K hK
          try dsimp only at hF ⊢
          have s0 := hp 0 rfl
          refine d_need (small := [(136, (.bool true))]) ⟨look_row rfl 0 rfl s0, trivial⟩ ?_
          refine tp rfl (lv_not (c := false) rfl rfl) ?_
          exact d_closes ⟨look_row rfl 0 rfl s0, trivial⟩ 1 rfl rfl rfl hS (AgreeR.refl _) (t_sat (fun _ h => h) (hK () trivial))
         · -- 2
          rintro _ S hF hS D hp K hK
          try dsimp only at hF ⊢
          have s1 := hp 1 rfl
          refine d_need (small := [(137, (.bool false))]) ⟨look_row rfl 1 rfl s1, trivial⟩ ?_
          refine tp rfl (lv_move rfl) ?_
          exact d_closes ⟨look_row rfl 1 rfl s1, trivial⟩ 2 rfl rfl rfl hS (AgreeR.refl _) (t_sat (fun _ h => h) (hK () trivial))
         · -- 3
          rintro _ S hF hS D hp K hK
          try dsimp only at hF ⊢
          have s2 := hp 2 rfl
          refine d_need (small := [(6, (.pointer (some ⟨p1, 0, none⟩))), (138, (.bool false))]) ⟨look_b rfl rfl, look_row rfl 2 rfl s2, trivial⟩ ?_
          refine t_guard rfl rfl ?_
          refine tp rfl (lv_move rfl) ?_
          exact d_closes ⟨look_b rfl rfl, look_row rfl 2 rfl s2, trivial⟩ 3 rfl rfl rfl hS (AgreeR.refl _) (t_sat (fun _ h => h) (hK () trivial))
         · -- 4
          rintro _ S hF hS D hp K hK
          try dsimp only at hF ⊢
          have s2 := hp 2 rfl
          have s3 := hp 3 rfl
          refine d_need (small := [(138, (.bool false)), (139, (.pointer (some ⟨p1, 0, none⟩)))]) ⟨look_row rfl 2 rfl s2, look_row rfl 3 rfl s3, trivial⟩ ?_
          refine t_guard rfl rfl ?_
          refine t_f2 ?_
          refine tc rfl (en_fn Try.call23 rfl) (tlen_ok (q := q) (ms := m2) (a := a2) (by omega)) ?_
          rintro _ _ ⟨rfl, rfl⟩
          refine t_f2 ?_
          refine t_f2 ?_
          exact d_closes ⟨look_row rfl 2 rfl s2, look_row rfl 3 rfl s3, trivial⟩ 4 rfl rfl rfl hS (AgreeR.refl _) (t_sat (fun _ h => h) (hK () trivial))
         · -- 5
          rintro _ S hF hS D hp K hK
          try dsimp only at hF ⊢
          have s2 := hp 2 rfl
          refine d_need (small := [(7, (.pointer (some ⟨p2, 0, none⟩))), (138, (.bool false))]) ⟨look_b rfl rfl, look_row rfl 2 rfl s2, trivial⟩ ?_
          refine t_guard rfl rfl ?_
          refine tp rfl (lv_move rfl) ?_
          exact d_closes ⟨look_b rfl rfl, look_row rfl 2 rfl s2, trivial⟩ 5 rfl rfl rfl hS (AgreeR.refl _) (t_sat (fun _ h => h) (hK () trivial))
         · -- 6
          rintro _ S hF hS D hp K hK
          try dsimp only at hF ⊢
          have s2 := hp 2 rfl
          have s5 := hp 5 rfl
          refine d_need (small := [(138, (.bool false)), (141, (.pointer (some ⟨p2, 0, none⟩)))]) ⟨look_row rfl 2 rfl s2, look_row rfl 5 rfl s5, trivial⟩ ?_
          refine t_guard rfl rfl ?_
          refine tp rfl (lv_nilCheck rfl) ?_
          exact d_closes ⟨look_row rfl 2 rfl s2, look_row rfl 5 rfl s5, trivial⟩ 6 rfl rfl rfl hS (AgreeR.refl _) (t_sat (fun _ h => h) (hK () trivial))
         · -- 7
          rintro _ S hF hS D hp K hK
          try dsimp only at hF ⊢
          have s2 := hp 2 rfl
          have s6 := hp 6 rfl
          refine d_need (small := [(138, (.bool false)), (142, (.pointer (some ⟨p2, 0, none⟩)))]) ⟨look_row rfl 2 rfl s2, look_row rfl 6 rfl s6, trivial⟩ ?_
          refine t_guard rfl rfl ?_
          refine tp rfl (lv_fieldAddr (o' := 1) Try.underlying57 rfl Try.sizeOf55 rfl rfl) ?_
          exact d_closes ⟨look_row rfl 2 rfl s2, look_row rfl 6 rfl s6, trivial⟩ 7 rfl rfl rfl hS (AgreeR.refl _) (t_sat (fun _ h => h) (hK () trivial))
         · -- 8
          rintro _ S hF hS D hp K hK
          try dsimp only at hF ⊢
          have s2 := hp 2 rfl
          have s7 := hp 7 rfl
          refine d_need (small := [(138, (.bool false)), (143, (.pointer (some ⟨p2, 1, none⟩)))]) ⟨look_row rfl 2 rfl s2, look_row rfl 7 rfl s7, trivial⟩ ?_
          refine t_guard rfl rfl ?_
          refine tp rfl (lv_load Try.isAgg55 rfl (gives_blk (.head _) rfl)) ?_
          exact d_closes ⟨look_row rfl 2 rfl s2, look_row rfl 7 rfl s7, trivial⟩ 8 rfl rfl rfl hS (AgreeR.refl _) (t_sat (fun _ h => h) (hK () trivial))
         · -- 9
          rintro _ S hF hS D hp K hK
          try dsimp only at hF ⊢
          have s2 := hp 2 rfl
          have s8 := hp 8 rfl
          refine d_need (small := [(138, (.bool false)), (144, (.slice bs5 m2.length cp6))]) ⟨look_row rfl 2 rfl s2, look_row rfl 8 rfl s8, trivial⟩ ?_
          refine t_guard rfl rfl ?_
          refine tp rfl (lv_len Try.underlying55 rfl rfl) ?_
          exact d_closes ⟨look_row rfl 2 rfl s2, look_row rfl 8 rfl s8, trivial⟩ 9 rfl rfl rfl hS (AgreeR.refl _) (t_sat (fun _ h => h) (hK () trivial))
         · -- 10
          rintro _ S hF hS D hp K hK
          try dsimp only at hF ⊢
          have s2 := hp 2 rfl
          have s4 := hp 4 rfl
          have s9 := hp 9 rfl
          refine d_need (small := [(138, (.bool false)), (140, (.int .i64 ((m2.length : Nat) : Int))), (145, (.int .i64 ((m2.length : Nat) : Int)))]) ⟨look_row rfl 2 rfl s2, look_row rfl 4 rfl s4, look_row rfl 9 rfl s9, trivial⟩ ?_
          refine t_guard rfl rfl ?_
          refine tp rfl (lv_neq rfl rfl (bne_eq_false_iff_eq.2 rfl)) ?_
          exact d_closes ⟨look_row rfl 2 rfl s2, look_row rfl 4 rfl s4, look_row rfl 9 rfl s9, trivial⟩ 10 rfl rfl rfl hS (AgreeR.refl _) (t_sat (fun _ h => h) (hK () trivial))
         · -- 11
          rintro _ S hF hS D hp K hK
          try dsimp only at hF ⊢
          have s2 := hp 2 rfl
          have s10 := hp 10 rfl
          refine d_need (small := [(138, (.bool false)), (146, (.bool false))]) ⟨look_row rfl 2 rfl s2, look_row rfl 10 rfl s10, trivial⟩ ?_
          refine tp rfl (lv_pick_f rfl rfl) ?_
          exact d_closes ⟨look_row rfl 2 rfl s2, look_row rfl 10 rfl s10, trivial⟩ 11 rfl rfl rfl hS (AgreeR.refl _) (t_sat (fun _ h => h) (hK () trivial))
         · -- 12
          rintro _ S hF hS D hp K hK
          try dsimp only at hF ⊢
          have s11 := hp 11 rfl
          refine d_need (small := [(147, (.bool false))]) ⟨look_row rfl 11 rfl s11, trivial⟩ ?_
          refine tp rfl (lv_move rfl) ?_
          exact d_closes ⟨look_row rfl 11 rfl s11, trivial⟩ 12 rfl rfl rfl hS (AgreeR.refl _) (t_sat (fun _ h => h) (hK () trivial))
         · -- 13
          rintro _ S hF hS D hp K hK
          try dsimp only at hF ⊢
          have s12 := hp 12 rfl
          refine d_need (small := [(19, (.bool true)), (148, (.bool false))]) ⟨look_b rfl rfl, look_row rfl 12 rfl s12, trivial⟩ ?_
          refine t_guard rfl rfl ?_
          refine tp rfl (lv_move rfl) ?_
          exact d_closes ⟨look_b rfl rfl, look_row rfl 12 rfl s12, trivial⟩ 13 rfl rfl rfl hS (AgreeR.refl _) (t_sat (fun _ h => h) (hK () trivial))
         · -- 14
          rintro _ S hF hS D hp K hK
          try dsimp only at hF ⊢
          have s12 := hp 12 rfl
          refine d_need (small := [(20, (.int .i64 ((kp : Nat) : Int))), (148, (.bool false))]) ⟨look_b rfl rfl, look_row rfl 12 rfl s12, trivial⟩ ?_
          refine t_guard rfl rfl ?_
          refine tp rfl (lv_move rfl) ?_
          exact d_closes ⟨look_b rfl rfl, look_row rfl 12 rfl s12, trivial⟩ 14 rfl rfl rfl hS (AgreeR.refl _) (t_sat (fun _ h => h) (hK () trivial))
         · -- 15
          rintro _ S hF hS D hp K hK
          try dsimp only at hF ⊢
          have s12 := hp 12 rfl
          have s14 := hp 14 rfl
          refine d_need (small := [(148, (.bool false)), (150, (.int .i64 ((kp : Nat) : Int)))]) ⟨look_row rfl 12 rfl s12, look_row rfl 14 rfl s14, trivial⟩ ?_
          refine t_guard rfl rfl ?_
          refine tp rfl (lv_geq rfl rfl (decide_eq_true (by omega))) ?_
          exact d_closes ⟨look_row rfl 12 rfl s12, look_row rfl 14 rfl s14, trivial⟩ 15 rfl rfl rfl hS (AgreeR.refl _) (t_sat (fun _ h => h) (hK () trivial))
         · -- 16
          rintro _ S hF hS D hp K hK
          try dsimp only at hF ⊢
          have s12 := hp 12 rfl
          have s13 := hp 13 rfl
          have s15 := hp 15 rfl
          refine d_need (small := [(148, (.bool false)), (149, (.bool true)), (151, (.bool true))]) ⟨look_row rfl 12 rfl s12, look_row rfl 13 rfl s13, look_row rfl 15 rfl s15, trivial⟩ ?_
          refine t_guard rfl rfl ?_
          refine tp rfl (lv_neb Try.underlying4 rfl rfl rfl) ?_
          exact d_closes ⟨look_row rfl 12 rfl s12, look_row rfl 13 rfl s13, look_row rfl 15 rfl s15, trivial⟩ 16 rfl rfl rfl hS (AgreeR.refl _) (t_sat (fun _ h => h) (hK () trivial))
         · -- 17
          rintro _ S hF hS D hp K hK
          try dsimp only at hF ⊢
          have s12 := hp 12 rfl
          have s16 := hp 16 rfl
          refine d_need (small := [(148, (.bool false)), (152, (.bool false))]) ⟨look_row rfl 12 rfl s12, look_row rfl 16 rfl s16, trivial⟩ ?_
          refine tp rfl (lv_pick_f rfl rfl) ?_
          exact d_closes ⟨look_row rfl 12 rfl s12, look_row rfl 16 rfl s16, trivial⟩ 17 rfl rfl rfl hS (AgreeR.refl _) (t_sat (fun _ h => h) (hK () trivial))
         · -- 18
          rintro _ S hF hS D hp K hK
          try dsimp only at hF ⊢
          have s17 := hp 17 rfl
          refine d_need (small := [(153, (.bool false))]) ⟨look_row rfl 17 rfl s17, trivial⟩ ?_
          refine tp rfl (lv_move rfl) ?_
          exact d_closes ⟨look_row rfl 17 rfl s17, trivial⟩ 18 rfl rfl rfl hS (AgreeR.refl _) (t_sat (fun _ h => h) (hK () trivial))
         · -- 19
          rintro _ S hF hS D hp K hK
          try dsimp only at hF ⊢
          have s18 := hp 18 rfl
          refine d_need (small := [(19, (.bool true)), (154, (.bool false))]) ⟨look_b rfl rfl, look_row rfl 18 rfl s18, trivial⟩ ?_
          refine t_guard rfl rfl ?_
          refine tp rfl (lv_move rfl) ?_
          exact d_closes ⟨look_b rfl rfl, look_row rfl 18 rfl s18, trivial⟩ 19 rfl rfl rfl hS (AgreeR.refl _) (t_sat (fun _ h => h) (hK () trivial))
         · -- 20
          rintro _ S hF hS D hp K hK
          try dsimp only at hF ⊢
          have s18 := hp 18 rfl
          have s19 := hp 19 rfl
          refine d_need (small := [(154, (.bool false)), (155, (.bool true))]) ⟨look_row rfl 18 rfl s18, look_row rfl 19 rfl s19, trivial⟩ ?_
          refine t_guard rfl rfl ?_
          refine tp rfl (lv_move rfl) ?_
          exact d_closes ⟨look_row rfl 18 rfl s18, look_row rfl 19 rfl s19, trivial⟩ 20 rfl rfl rfl hS (AgreeR.refl _) (t_sat (fun _ h => h) (hK () trivial))
         · -- 21
          rintro _ S hF hS D hp K hK
          try dsimp only at hF ⊢
          have s20 := hp 20 rfl
          refine d_need (small := [(18, (.int .i64 ((m2.getD kp M3.z).c))), (156, (.bool true))]) ⟨look_b rfl rfl, look_row rfl 20 rfl s20, trivial⟩ ?_
          refine t_guard rfl rfl ?_
          refine tp rfl (lv_move rfl) ?_
          exact d_closes ⟨look_b rfl rfl, look_row rfl 20 rfl s20, trivial⟩ 21 rfl rfl rfl hS (AgreeR.refl _) (t_sat (fun _ h => h) (hK () trivial))
         · -- 22
          rintro _ S hF hS D hp K hK
          try dsimp only at hF ⊢
          have s20 := hp 20 rfl
          refine d_need (small := [(7, (.pointer (some ⟨p2, 0, none⟩))), (156, (.bool true))]) ⟨look_b rfl rfl, look_row rfl 20 rfl s20, trivial⟩ ?_
          refine t_guard rfl rfl ?_
          refine tp rfl (lv_move rfl) ?_
          exact d_closes ⟨look_b rfl rfl, look_row rfl 20 rfl s20, trivial⟩ 22 rfl rfl rfl hS (AgreeR.refl _) (t_sat (fun _ h => h) (hK () trivial))
         · -- 23
          rintro _ S hF hS D hp K hK
          try dsimp only at hF ⊢
          have s20 := hp 20 rfl
          have s22 := hp 22 rfl
          refine d_need (small := [(156, (.bool true)), (158, (.pointer (some ⟨p2, 0, none⟩)))]) ⟨look_row rfl 20 rfl s20, look_row rfl 22 rfl s22, trivial⟩ ?_
          refine t_guard rfl rfl ?_
          refine tp rfl (lv_nilCheck rfl) ?_
          exact d_closes ⟨look_row rfl 20 rfl s20, look_row rfl 22 rfl s22, trivial⟩ 23 rfl rfl rfl hS (AgreeR.refl _) (t_sat (fun _ h => h) (hK () trivial))
         · -- 24
          rintro _ S hF hS D hp K hK
          try dsimp only at hF ⊢
          have s20 := hp 20 rfl
          have s23 := hp 23 rfl
          refine d_need (small := [(156, (.bool true)), (159, (.pointer (some ⟨p2, 0, none⟩)))]) ⟨look_row rfl 20 rfl s20, look_row rfl 23 rfl s23, trivial⟩ ?_
          refine t_guard rfl rfl ?_
          refine tp rfl (lv_fieldAddr (o' := 1) Try.underlying57 rfl Try.sizeOf55 rfl rfl) ?_
          exact d_closes ⟨look_row rfl 20 rfl s20, look_row rfl 23 rfl s23, trivial⟩ 24 rfl rfl rfl hS (AgreeR.refl _) (t_sat (fun _ h => h) (hK () trivial))
         · -- 25
          rintro _ S hF hS D hp K hK
          try dsimp only at hF ⊢
          have s20 := hp 20 rfl
          have s24 := hp 24 rfl
          refine d_need (small := [(156, (.bool true)), (160, (.pointer (some ⟨p2, 1, none⟩)))]) ⟨look_row rfl 20 rfl s20, look_row rfl 24 rfl s24, trivial⟩ ?_
          refine t_guard rfl rfl ?_
          refine tp rfl (lv_load Try.isAgg55 rfl (gives_blk (.head _) rfl)) ?_
          exact d_closes ⟨look_row rfl 20 rfl s20, look_row rfl 24 rfl s24, trivial⟩ 25 rfl rfl rfl hS (AgreeR.refl _) (t_sat (fun _ h => h) (hK () trivial))
         · -- 26
          rintro _ S hF hS D hp K hK
          try dsimp only at hF ⊢
          have s20 := hp 20 rfl
          refine d_need (small := [(20, (.int .i64 ((kp : Nat) : Int))), (156, (.bool true))]) ⟨look_b rfl rfl, look_row rfl 20 rfl s20, trivial⟩ ?_
          refine t_guard rfl rfl ?_
          refine tp rfl (lv_move rfl) ?_
          exact d_closes ⟨look_b rfl rfl, look_row rfl 20 rfl s20, trivial⟩ 26 rfl rfl rfl hS (AgreeR.refl _) (t_sat (fun _ h => h) (hK () trivial))
         · -- 27
          rintro _ S hF hS D hp K hK
          try dsimp only at hF ⊢
          have s20 := hp 20 rfl
          have s25 := hp 25 rfl
          have s26 := hp 26 rfl
          refine d_need (small := [(156, (.bool true)), (161, (.slice bs5 m2.length cp6)), (162, (.int .i64 ((kp : Nat) : Int)))]) ⟨look_row rfl 20 rfl s20, look_row rfl 25 rfl s25, look_row rfl 26 rfl s26, trivial⟩ ?_
          refine t_guard rfl rfl ?_
          refine tp rfl (lv_indexAddr (k' := kp * 3) Try.underlying55 Try.sizeOf59 rfl rfl hok7 (by omega) (by omega) (by omega)) ?_
          exact d_closes ⟨look_row rfl 20 rfl s20, look_row rfl 25 rfl s25, look_row rfl 26 rfl s26, trivial⟩ 27 rfl rfl rfl hS (AgreeR.refl _) (t_sat (fun _ h => h) (hK () trivial))
         · -- 28
          rintro _ S hF hS D hp K hK
          try dsimp only at hF ⊢
          have s20 := hp 20 rfl
          have s27 := hp 27 rfl
          refine d_need (small := [(156, (.bool true)), (163, (.pointer (some (ad bs5 (kp * 3)))))]) ⟨look_row rfl 20 rfl s20, look_row rfl 27 rfl s27, trivial⟩ ?_
          refine t_guard rfl rfl ?_
          refine tp rfl (lv_fieldAddr_ad (o' := kp * 3 + 2) Try.underlying59 rfl Try.sizeOf3 rfl rfl) ?_
          exact d_closes ⟨look_row rfl 20 rfl s20, look_row rfl 27 rfl s27, trivial⟩ 28 rfl rfl rfl hS (AgreeR.refl _) (t_sat (fun _ h => h) (hK () trivial))
         · -- 29
          rintro _ S hF hS D hp K hK
          try dsimp only at hF ⊢
          have s20 := hp 20 rfl
          have s28 := hp 28 rfl
          refine d_need (small := [(156, (.bool true)), (164, (.pointer (some (ad bs5 (kp * 3 + 2)))))]) ⟨look_row rfl 20 rfl s20, look_row rfl 28 rfl s28, trivial⟩ ?_
          refine t_guard rfl rfl ?_
          refine tp rfl (lv_load Try.isAgg3 rfl (gives_sl (.tail _ (.head _)) ((recs_get (k := kp) (j := 2) m3F_len (d := M3.z) (by omega) (Nat.le_of_ble_eq_true rfl)).trans rfl))) ?_
          exact d_closes ⟨look_row rfl 20 rfl s20, look_row rfl 28 rfl s28, trivial⟩ 29 rfl rfl rfl hS (AgreeR.refl _) (t_sat (fun _ h => h) (hK () trivial))
         · -- 30
          rintro _ S hF hS D hp K hK
          try dsimp only at hF ⊢
          have s20 := hp 20 rfl
          have s21 := hp 21 rfl
          have s29 := hp 29 rfl
          refine d_need (small := [(156, (.bool true)), (157, (.int .i64 ((m2.getD kp M3.z).c))), (165, (.int .i64 ((m2.getD kp M3.z).c)))]) ⟨look_row rfl 20 rfl s20, look_row rfl 21 rfl s21, look_row rfl 29 rfl s29, trivial⟩ ?_
          refine t_guard rfl rfl ?_
          refine tp rfl (lv_neq rfl rfl (bne_eq_false_iff_eq.2 rfl)) ?_
          exact d_closes ⟨look_row rfl 20 rfl s20, look_row rfl 21 rfl s21, look_row rfl 29 rfl s29, trivial⟩ 30 rfl rfl rfl hS (AgreeR.refl _) (t_sat (fun _ h => h) (hK () trivial))
         · -- 31
          rintro _ S hF hS D hp K hK
          try dsimp only at hF ⊢
          have s18 := hp 18 rfl
          have s20 := hp 20 rfl
          have s30 := hp 30 rfl
          refine d_need (small := [(154, (.bool false)), (156, (.bool true)), (166, (.bool false))]) ⟨look_row rfl 18 rfl s18, look_row rfl 20 rfl s20, look_row rfl 30 rfl s30, trivial⟩ ?_
          refine t_guard rfl rfl ?_
          refine tp rfl (lv_pick_t rfl rfl) ?_
          exact d_closes ⟨look_row rfl 18 rfl s18, look_row rfl 20 rfl s20, look_row rfl 30 rfl s30, trivial⟩ 31 rfl rfl rfl hS (AgreeR.refl _) (t_sat (fun _ h => h) (hK () trivial))
         · -- 32
          rintro _ S hF hS D hp K hK
          try dsimp only at hF ⊢
          have s18 := hp 18 rfl
          have s31 := hp 31 rfl
          refine d_need (small := [(154, (.bool false)), (167, (.bool false))]) ⟨look_row rfl 18 rfl s18, look_row rfl 31 rfl s31, trivial⟩ ?_
          refine tp rfl (lv_pick_f rfl rfl) ?_
          exact d_closes ⟨look_row rfl 18 rfl s18, look_row rfl 31 rfl s31, trivial⟩ 32 rfl rfl rfl hS (AgreeR.refl _) (t_sat (fun _ h => h) (hK () trivial))
         · -- 33
          rintro _ S hF hS D hp K hK
          try dsimp only at hF ⊢
          have s32 := hp 32 rfl
          refine d_need (small := [(168, (.bool false))]) ⟨look_row rfl 32 rfl s32, trivial⟩ ?_
          refine tp rfl (lv_move rfl) ?_
          exact d_closes ⟨look_row rfl 32 rfl s32, trivial⟩ 33 rfl rfl rfl hS (AgreeR.refl _) (t_sat (fun _ h => h) (hK () trivial))
         · -- 34
          rintro _ S hF hS D hp K hK
          try dsimp only at hF ⊢
          have s33 := hp 33 rfl
          refine d_need (small := [(19, (.bool true)), (169, (.bool false))]) ⟨look_b rfl rfl, look_row rfl 33 rfl s33, trivial⟩ ?_
          refine t_guard rfl rfl ?_
          refine tp rfl (lv_move rfl) ?_
          exact d_closes ⟨look_b rfl rfl, look_row rfl 33 rfl s33, trivial⟩ 34 rfl rfl rfl hS (AgreeR.refl _) (t_sat (fun _ h => h) (hK () trivial))
         · -- 35
          rintro _ S hF hS D hp K hK
          try dsimp only at hF ⊢
          have s33 := hp 33 rfl
          have s34 := hp 34 rfl
          refine d_need (small := [(169, (.bool false)), (170, (.bool true))]) ⟨look_row rfl 33 rfl s33, look_row rfl 34 rfl s34, trivial⟩ ?_
          refine t_guard rfl rfl ?_
          refine tp rfl (lv_not (c := false) rfl rfl) ?_
          exact d_closes ⟨look_row rfl 33 rfl s33, look_row rfl 34 rfl s34, trivial⟩ 35 rfl rfl rfl hS (AgreeR.refl _) (t_sat (fun _ h => h) (hK () trivial))
         · -- 36
          rintro _ S hF hS D hp K hK
          try dsimp only at hF ⊢
          have s33 := hp 33 rfl
          have s35 := hp 35 rfl
          refine d_need (small := [(169, (.bool false)), (171, (.bool false))]) ⟨look_row rfl 33 rfl s33, look_row rfl 35 rfl s35, trivial⟩ ?_
          refine t_guard rfl rfl ?_
          refine tp rfl (lv_move rfl) ?_
          exact d_closes ⟨look_row rfl 33 rfl s33, look_row rfl 35 rfl s35, trivial⟩ 36 rfl rfl rfl hS (AgreeR.refl _) (t_sat (fun _ h => h) (hK () trivial))
         · -- 37
          rintro _ S hF hS D hp K hK
          try dsimp only at hF ⊢
          have s36 := hp 36 rfl
          refine d_need (small := [(18, (.int .i64 ((m2.getD kp M3.z).c))), (172, (.bool false))]) ⟨look_b rfl rfl, look_row rfl 36 rfl s36, trivial⟩ ?_
          refine t_skip rfl rfl rfl ?_
          exact d_closes ⟨look_b rfl rfl, look_row rfl 36 rfl s36, trivial⟩ 37 rfl rfl rfl hS (AgreeR.refl _) (t_sat (fun _ h => h) (hK () trivial))
         · -- 38
          rintro _ S hF hS D hp K hK
          try dsimp only at hF ⊢
          have s36 := hp 36 rfl
          have s37 := hp 37 rfl
          refine d_need (small := [(172, (.bool false)), (173, undef)]) ⟨look_row rfl 36 rfl s36, look_row rfl 37 rfl s37, trivial⟩ ?_
          refine t_skip rfl rfl rfl ?_
          exact d_closes ⟨look_row rfl 36 rfl s36, look_row rfl 37 rfl s37, trivial⟩ 38 rfl rfl rfl hS (AgreeR.refl _) (t_sat (fun _ h => h) (hK () trivial))
         · -- 39
          rintro _ S hF hS D hp K hK
          try dsimp only at hF ⊢
          have s33 := hp 33 rfl
          have s36 := hp 36 rfl
          have s38 := hp 38 rfl
          refine d_need (small := [(169, (.bool false)), (172, (.bool false)), (174, undef)]) ⟨look_row rfl 33 rfl s33, look_row rfl 36 rfl s36, look_row rfl 38 rfl s38, trivial⟩ ?_
          refine t_guard rfl rfl ?_
          refine tp rfl (lv_pick_f rfl rfl) ?_
          exact d_closes ⟨look_row rfl 33 rfl s33, look_row rfl 36 rfl s36, look_row rfl 38 rfl s38, trivial⟩ 39 rfl rfl rfl hS (AgreeR.refl _) (t_sat (fun _ h => h) (hK () trivial))
         · -- 40
          rintro _ S hF hS D hp K hK
          try dsimp only at hF ⊢
          have s33 := hp 33 rfl
          have s39 := hp 39 rfl
          refine d_need (small := [(169, (.bool false)), (175, (.bool false))]) ⟨look_row rfl 33 rfl s33, look_row rfl 39 rfl s39, trivial⟩ ?_
          refine tp rfl (lv_pick_f rfl rfl) ?_
          exact d_closes ⟨look_row rfl 33 rfl s33, look_row rfl 39 rfl s39, trivial⟩ 40 rfl rfl rfl hS (AgreeR.refl _) (t_sat (fun _ h => h) (hK () trivial))
         · -- 41
          rintro _ S hF hS D hp K hK
          try dsimp only at hF ⊢
          have s40 := hp 40 rfl
          refine d_need (small := [(176, (.bool false))]) ⟨look_row rfl 40 rfl s40, trivial⟩ ?_
          refine tp rfl (lv_move rfl) ?_
          exact d_closes ⟨look_row rfl 40 rfl s40, trivial⟩ 41 rfl rfl rfl hS (AgreeR.refl _) (t_sat (fun _ h => h) (hK () trivial))
         · -- 42
          rintro _ S hF hS D hp K hK
          try dsimp only at hF ⊢
          have s41 := hp 41 rfl
          refine d_need (small := [(22, (.bool true)), (177, (.bool false))]) ⟨look_b rfl rfl, look_row rfl 41 rfl s41, trivial⟩ ?_
          refine t_guard rfl rfl ?_
          refine tp rfl (lv_move rfl) ?_
          exact d_closes ⟨look_b rfl rfl, look_row rfl 41 rfl s41, trivial⟩ 42 rfl rfl rfl hS (AgreeR.refl _) (t_sat (fun _ h => h) (hK () trivial))
         · -- 43
          rintro _ S hF hS D hp K hK
          try dsimp only at hF ⊢
          have s41 := hp 41 rfl
          refine d_need (small := [(7, (.pointer (some ⟨p2, 0, none⟩))), (177, (.bool false))]) ⟨look_b rfl rfl, look_row rfl 41 rfl s41, trivial⟩ ?_
          refine t_guard rfl rfl ?_
          refine tp rfl (lv_move rfl) ?_
          exact d_closes ⟨look_b rfl rfl, look_row rfl 41 rfl s41, trivial⟩ 43 rfl rfl rfl hS (AgreeR.refl _) (t_sat (fun _ h => h) (hK () trivial))
         · -- 44
          rintro _ S hF hS D hp K hK
          try dsimp only at hF ⊢
          have s41 := hp 41 rfl
          have s43 := hp 43 rfl
          refine d_need (small := [(177, (.bool false)), (179, (.pointer (some ⟨p2, 0, none⟩)))]) ⟨look_row rfl 41 rfl s41, look_row rfl 43 rfl s43, trivial⟩ ?_
          refine t_guard rfl rfl ?_
          refine tp rfl (lv_nilCheck rfl) ?_
          exact d_closes ⟨look_row rfl 41 rfl s41, look_row rfl 43 rfl s43, trivial⟩ 44 rfl rfl rfl hS (AgreeR.refl _) (t_sat (fun _ h => h) (hK () trivial))
         · -- 45
          rintro _ S hF hS D hp K hK
          try dsimp only at hF ⊢
          have s41 := hp 41 rfl
          have s44 := hp 44 rfl
          refine d_need (small := [(177, (.bool false)), (180, (.pointer (some ⟨p2, 0, none⟩)))]) ⟨look_row rfl 41 rfl s41, look_row rfl 44 rfl s44, trivial⟩ ?_
          refine t_guard rfl rfl ?_
          refine tp rfl (lv_fieldAddr (o' := 1) Try.underlying57 rfl Try.sizeOf55 rfl rfl) ?_
          exact d_closes ⟨look_row rfl 41 rfl s41, look_row rfl 44 rfl s44, trivial⟩ 45 rfl rfl rfl hS (AgreeR.refl _) (t_sat (fun _ h => h) (hK () trivial))
         · -- 46
          rintro _ S hF hS D hp K hK
          try dsimp only at hF ⊢
          have s41 := hp 41 rfl
          have s45 := hp 45 rfl
          refine d_need (small := [(177, (.bool false)), (181, (.pointer (some ⟨p2, 1, none⟩)))]) ⟨look_row rfl 41 rfl s41, look_row rfl 45 rfl s45, trivial⟩ ?_
          refine t_guard rfl rfl ?_
          refine tp rfl (lv_load Try.isAgg55 rfl (gives_blk (.head _) rfl)) ?_
          exact d_closes ⟨look_row rfl 41 rfl s41, look_row rfl 45 rfl s45, trivial⟩ 46 rfl rfl rfl hS (AgreeR.refl _) (t_sat (fun _ h => h) (hK () trivial))
         · -- 47
          rintro _ S hF hS D hp K hK
          try dsimp only at hF ⊢
          have s41 := hp 41 rfl
          have s46 := hp 46 rfl
          refine d_need (small := [(177, (.bool false)), (182, (.slice bs5 m2.length cp6))]) ⟨look_row rfl 41 rfl s41, look_row rfl 46 rfl s46, trivial⟩ ?_
          refine t_guard rfl rfl ?_
          refine tp rfl (lv_len Try.underlying55 rfl rfl) ?_
          exact d_closes ⟨look_row rfl 41 rfl s41, look_row rfl 46 rfl s46, trivial⟩ 47 rfl rfl rfl hS (AgreeR.refl _) (t_sat (fun _ h => h) (hK () trivial))
         · -- 48
          rintro _ S hF hS D hp K hK
          try dsimp only at hF ⊢
          have s41 := hp 41 rfl
          have s47 := hp 47 rfl
          refine d_need (small := [(177, (.bool false)), (183, (.int .i64 ((m2.length : Nat) : Int)))]) ⟨look_row rfl 41 rfl s41, look_row rfl 47 rfl s47, trivial⟩ ?_
          refine t_guard rfl rfl ?_
          refine tp rfl (lv_gtr rfl rfl (decide_eq_true (by omega))) ?_
          exact d_closes ⟨look_row rfl 41 rfl s41, look_row rfl 47 rfl s47, trivial⟩ 48 rfl rfl rfl hS (AgreeR.refl _) (t_sat (fun _ h => h) (hK () trivial))
         · -- 49
          rintro _ S hF hS D hp K hK
          try dsimp only at hF ⊢
          have s41 := hp 41 rfl
          have s42 := hp 42 rfl
          have s48 := hp 48 rfl
          refine d_need (small := [(177, (.bool false)), (178, (.bool true)), (184, (.bool true))]) ⟨look_row rfl 41 rfl s41, look_row rfl 42 rfl s42, look_row rfl 48 rfl s48, trivial⟩ ?_
          refine t_guard rfl rfl ?_
          refine tp rfl (lv_neb Try.underlying4 rfl rfl rfl) ?_
          exact d_closes ⟨look_row rfl 41 rfl s41, look_row rfl 42 rfl s42, look_row rfl 48 rfl s48, trivial⟩ 49 rfl rfl rfl hS (AgreeR.refl _) (t_sat (fun _ h => h) (hK () trivial))
         · -- 50
          rintro _ S hF hS D hp K hK
          try dsimp only at hF ⊢
          have s41 := hp 41 rfl
          have s49 := hp 49 rfl
          refine d_need (small := [(177, (.bool false)), (185, (.bool false))]) ⟨look_row rfl 41 rfl s41, look_row rfl 49 rfl s49, trivial⟩ ?_
          refine tp rfl (lv_pick_f rfl rfl) ?_
          exact d_closes ⟨look_row rfl 41 rfl s41, look_row rfl 49 rfl s49, trivial⟩ 50 rfl rfl rfl hS (AgreeR.refl _) (t_sat (fun _ h => h) (hK () trivial))
         · -- 51
          rintro _ S hF hS D hp K hK
          try dsimp only at hF ⊢
          have s50 := hp 50 rfl
          refine d_need (small := [(186, (.bool false))]) ⟨look_row rfl 50 rfl s50, trivial⟩ ?_
          refine tp rfl (lv_move rfl) ?_
          exact d_closes ⟨look_row rfl 50 rfl s50, trivial⟩ 51 rfl rfl rfl hS (AgreeR.refl _) (t_sat (fun _ h => h) (hK () trivial))
         · -- 52
          rintro _ S hF hS D hp K hK
          try dsimp only at hF ⊢
          have s51 := hp 51 rfl
          refine d_need (small := [(22, (.bool true)), (187, (.bool false))]) ⟨look_b rfl rfl, look_row rfl 51 rfl s51, trivial⟩ ?_
          refine t_guard rfl rfl ?_
          refine tp rfl (lv_move rfl) ?_
          exact d_closes ⟨look_b rfl rfl, look_row rfl 51 rfl s51, trivial⟩ 52 rfl rfl rfl hS (AgreeR.refl _) (t_sat (fun _ h => h) (hK () trivial))
         · -- 53
          rintro _ S hF hS D hp K hK
          try dsimp only at hF ⊢
          have s51 := hp 51 rfl
          have s52 := hp 52 rfl
          refine d_need (small := [(187, (.bool false)), (188, (.bool true))]) ⟨look_row rfl 51 rfl s51, look_row rfl 52 rfl s52, trivial⟩ ?_
          refine t_guard rfl rfl ?_
          refine tp rfl (lv_move rfl) ?_
          exact d_closes ⟨look_row rfl 51 rfl s51, look_row rfl 52 rfl s52, trivial⟩ 53 rfl rfl rfl hS (AgreeR.refl _) (t_sat (fun _ h => h) (hK () trivial))
         · -- 54
          rintro _ S hF hS D hp K hK
          try dsimp only at hF ⊢
          have s53 := hp 53 rfl
          refine d_need (small := [(21, (.int .i64 ((m2.getD a2 M3.z).id))), (189, (.bool true))]) ⟨look_b rfl rfl, look_row rfl 53 rfl s53, trivial⟩ ?_
          refine t_guard rfl rfl ?_
          refine tp rfl (lv_move rfl) ?_
          exact d_closes ⟨look_b rfl rfl, look_row rfl 53 rfl s53, trivial⟩ 54 rfl rfl rfl hS (AgreeR.refl _) (t_sat (fun _ h => h) (hK () trivial))
         · -- 55
          rintro _ S hF hS D hp K hK
          try dsimp only at hF ⊢
          have s53 := hp 53 rfl
          refine d_need (small := [(7, (.pointer (some ⟨p2, 0, none⟩))), (189, (.bool true))]) ⟨look_b rfl rfl, look_row rfl 53 rfl s53, trivial⟩ ?_
          refine t_guard rfl rfl ?_
          refine tp rfl (lv_move rfl) ?_
          exact d_closes ⟨look_b rfl rfl, look_row rfl 53 rfl s53, trivial⟩ 55 rfl rfl rfl hS (AgreeR.refl _) (t_sat (fun _ h => h) (hK () trivial))
         · -- 56
          rintro _ S hF hS D hp K hK
          try dsimp only at hF ⊢
          have s53 := hp 53 rfl
          have s55 := hp 55 rfl
          refine d_need (small := [(189, (.bool true)), (191, (.pointer (some ⟨p2, 0, none⟩)))]) ⟨look_row rfl 53 rfl s53, look_row rfl 55 rfl s55, trivial⟩ ?_
          refine t_guard rfl rfl ?_
          refine tp rfl (lv_nilCheck rfl) ?_
          exact d_closes ⟨look_row rfl 53 rfl s53, look_row rfl 55 rfl s55, trivial⟩ 56 rfl rfl rfl hS (AgreeR.refl _) (t_sat (fun _ h => h) (hK () trivial))
         · -- 57
          rintro _ S hF hS D hp K hK
          try dsimp only at hF ⊢
          have s53 := hp 53 rfl
          have s56 := hp 56 rfl
          refine d_need (small := [(189, (.bool true)), (192, (.pointer (some ⟨p2, 0, none⟩)))]) ⟨look_row rfl 53 rfl s53, look_row rfl 56 rfl s56, trivial⟩ ?_
          refine t_guard rfl rfl ?_
          refine tp rfl (lv_fieldAddr (o' := 1) Try.underlying57 rfl Try.sizeOf55 rfl rfl) ?_
          exact d_closes ⟨look_row rfl 53 rfl s53, look_row rfl 56 rfl s56, trivial⟩ 57 rfl rfl rfl hS (AgreeR.refl _) (t_sat (fun _ h => h) (hK () trivial))
         · -- 58
          rintro _ S hF hS D hp K hK
          try dsimp only at hF ⊢
          have s53 := hp 53 rfl
          have s57 := hp 57 rfl
          refine d_need (small := [(189, (.bool true)), (193, (.pointer (some ⟨p2, 1, none⟩)))]) ⟨look_row rfl 53 rfl s53, look_row rfl 57 rfl s57, trivial⟩ ?_
          refine t_guard rfl rfl ?_
          refine tp rfl (lv_load Try.isAgg55 rfl (gives_blk (.head _) rfl)) ?_
          exact d_closes ⟨look_row rfl 53 rfl s53, look_row rfl 57 rfl s57, trivial⟩ 58 rfl rfl rfl hS (AgreeR.refl _) (t_sat (fun _ h => h) (hK () trivial))
         · -- 59
          rintro _ S hF hS D hp K hK
          try dsimp only at hF ⊢
          have s53 := hp 53 rfl
          refine d_need (small := [(7, (.pointer (some ⟨p2, 0, none⟩))), (189, (.bool true))]) ⟨look_b rfl rfl, look_row rfl 53 rfl s53, trivial⟩ ?_
          refine t_guard rfl rfl ?_
          refine tp rfl (lv_move rfl) ?_
          exact d_closes ⟨look_b rfl rfl, look_row rfl 53 rfl s53, trivial⟩ 59 rfl rfl rfl hS (AgreeR.refl _) (t_sat (fun _ h => h) (hK () trivial))
         · -- 60
          rintro _ S hF hS D hp K hK
          try dsimp only at hF ⊢
          have s53 := hp 53 rfl
          have s59 := hp 59 rfl
          refine d_need (small := [(189, (.bool true)), (195, (.pointer (some ⟨p2, 0, none⟩)))]) ⟨look_row rfl 53 rfl s53, look_row rfl 59 rfl s59, trivial⟩ ?_
          refine t_guard rfl rfl ?_
          refine tp rfl (lv_nilCheck rfl) ?_
          exact d_closes ⟨look_row rfl 53 rfl s53, look_row rfl 59 rfl s59, trivial⟩ 60 rfl rfl rfl hS (AgreeR.refl _) (t_sat (fun _ h => h) (hK () trivial))
         · -- 61
          rintro _ S hF hS D hp K hK
          try dsimp only at hF ⊢
          have s53 := hp 53 rfl
          have s60 := hp 60 rfl
          refine d_need (small := [(189, (.bool true)), (196, (.pointer (some ⟨p2, 0, none⟩)))]) ⟨look_row rfl 53 rfl s53, look_row rfl 60 rfl s60, trivial⟩ ?_
          refine t_guard rfl rfl ?_
          refine tp rfl (lv_fieldAddr (o' := 2) Try.underlying57 rfl Try.sizeOf3 rfl rfl) ?_
          exact d_closes ⟨look_row rfl 53 rfl s53, look_row rfl 60 rfl s60, trivial⟩ 61 rfl rfl rfl hS (AgreeR.refl _) (t_sat (fun _ h => h) (hK () trivial))
         · -- 62
          rintro _ S hF hS D hp K hK
          try dsimp only at hF ⊢
          have s53 := hp 53 rfl
          have s61 := hp 61 rfl
          refine d_need (small := [(189, (.bool true)), (197, (.pointer (some ⟨p2, 2, none⟩)))]) ⟨look_row rfl 53 rfl s53, look_row rfl 61 rfl s61, trivial⟩ ?_
          refine t_guard rfl rfl ?_
          refine tp rfl (lv_load Try.isAgg3 rfl (gives_blk (.head _) rfl)) ?_
          exact d_closes ⟨look_row rfl 53 rfl s53, look_row rfl 61 rfl s61, trivial⟩ 62 rfl rfl rfl hS (AgreeR.refl _) (t_sat (fun _ h => h) (hK () trivial))
         · -- 63
          rintro _ S hF hS D hp K hK
          try dsimp only at hF ⊢
          have s53 := hp 53 rfl
          have s58 := hp 58 rfl
          have s62 := hp 62 rfl
          refine d_need (small := [(189, (.bool true)), (194, (.slice bs5 m2.length cp6)), (198, (.int .i64 ((a2 : Nat) : Int)))]) ⟨look_row rfl 53 rfl s53, look_row rfl 58 rfl s58, look_row rfl 62 rfl s62, trivial⟩ ?_
          refine t_guard rfl rfl ?_
          refine tp rfl (lv_indexAddr (k' := a2 * 3) Try.underlying55 Try.sizeOf59 rfl rfl hok7 (by omega) (by omega) (by omega)) ?_
          exact d_closes ⟨look_row rfl 53 rfl s53, look_row rfl 58 rfl s58, look_row rfl 62 rfl s62, trivial⟩ 63 rfl rfl rfl hS (AgreeR.refl _) (t_sat (fun _ h => h) (hK () trivial))
         · -- 64
          rintro _ S hF hS D hp K hK
          try dsimp only at hF ⊢
          have s53 := hp 53 rfl
          have s63 := hp 63 rfl
          refine d_need (small := [(189, (.bool true)), (199, (.pointer (some (ad bs5 (a2 * 3)))))]) ⟨look_row rfl 53 rfl s53, look_row rfl 63 rfl s63, trivial⟩ ?_
          refine t_guard rfl rfl ?_
          refine tp rfl (lv_fieldAddr_ad (o' := a2 * 3) Try.underlying59 rfl Try.sizeOf3 rfl rfl) ?_
          exact d_closes ⟨look_row rfl 53 rfl s53, look_row rfl 63 rfl s63, trivial⟩ 64 rfl rfl rfl hS (AgreeR.refl _) (t_sat (fun _ h => h) (hK () trivial))
         · -- 65
          rintro _ S hF hS D hp K hK
          try dsimp only at hF ⊢
          have s53 := hp 53 rfl
          have s64 := hp 64 rfl
          refine d_need (small := [(189, (.bool true)), (200, (.pointer (some (ad bs5 (a2 * 3)))))]) ⟨look_row rfl 53 rfl s53, look_row rfl 64 rfl s64, trivial⟩ ?_
          refine t_guard rfl rfl ?_
          refine tp rfl (lv_load Try.isAgg3 rfl (gives_sl (.tail _ (.head _)) ((recs_get (k := a2) (j := 0) m3F_len (d := M3.z) (by omega) (Nat.le_of_ble_eq_true rfl)).trans rfl))) ?_
          exact d_closes ⟨look_row rfl 53 rfl s53, look_row rfl 64 rfl s64, trivial⟩ 65 rfl rfl rfl hS (AgreeR.refl _) (t_sat (fun _ h => h) (hK () trivial))
         · -- 66
          rintro _ S hF hS D hp K hK
          try dsimp only at hF ⊢
          have s53 := hp 53 rfl
          have s54 := hp 54 rfl
          have s65 := hp 65 rfl
          refine d_need (small := [(189, (.bool true)), (190, (.int .i64 ((m2.getD a2 M3.z).id))), (201, (.int .i64 ((m2.getD a2 M3.z).id)))]) ⟨look_row rfl 53 rfl s53, look_row rfl 54 rfl s54, look_row rfl 65 rfl s65, trivial⟩ ?_
          refine t_guard rfl rfl ?_
          refine tp rfl (lv_neq rfl rfl (bne_eq_false_iff_eq.2 rfl)) ?_
          exact d_closes ⟨look_row rfl 53 rfl s53, look_row rfl 54 rfl s54, look_row rfl 65 rfl s65, trivial⟩ 66 rfl rfl rfl hS (AgreeR.refl _) (t_sat (fun _ h => h) (hK () trivial))
         · -- 67
          rintro _ S hF hS D hp K hK
          try dsimp only at hF ⊢
          have s51 := hp 51 rfl
          have s53 := hp 53 rfl
          have s66 := hp 66 rfl
          refine d_need (small := [(187, (.bool false)), (189, (.bool true)), (202, (.bool false))]) ⟨look_row rfl 51 rfl s51, look_row rfl 53 rfl s53, look_row rfl 66 rfl s66, trivial⟩ ?_
          refine t_guard rfl rfl ?_
          refine tp rfl (lv_pick_t rfl rfl) ?_
          exact d_closes ⟨look_row rfl 51 rfl s51, look_row rfl 53 rfl s53, look_row rfl 66 rfl s66, trivial⟩ 67 rfl rfl rfl hS (AgreeR.refl _) (t_sat (fun _ h => h) (hK () trivial))
         · -- 68
          rintro _ S hF hS D hp K hK
          try dsimp only at hF ⊢
          have s51 := hp 51 rfl
          have s67 := hp 67 rfl
          refine d_need (small := [(187, (.bool false)), (203, (.bool false))]) ⟨look_row rfl 51 rfl s51, look_row rfl 67 rfl s67, trivial⟩ ?_
          refine tp rfl (lv_pick_f rfl rfl) ?_
          exact d_closes ⟨look_row rfl 51 rfl s51, look_row rfl 67 rfl s67, trivial⟩ 68 rfl rfl rfl hS (AgreeR.refl _) (t_sat (fun _ h => h) (hK () trivial))
        · -- behind
         rintro _ hF
         try dsimp only at hF ⊢
         refine t_weak (E' := [(0, (.int .i64 n)), (1, (.slice bl l.length cl)), (5, (.bool true)), (6, (.pointer (some ⟨p1, 0, none⟩))), (7, (.pointer (some ⟨p2, 0, none⟩))), (8, (.int .i64 ((i : Nat) : Int))), (9, (.pointer (some ⟨b4, 0, none⟩))), (10, (.bool true)), (18, (.int .i64 ((m2.getD kp M3.z).c))), (19, (.bool true)), (20, (.int .i64 ((kp : Nat) : Int))), (21, (.int .i64 ((m2.getD a2 M3.z).id))), (22, (.bool true)), (29, (.bool false)), (37, (.bool true)), (204, (.bool false))]) ⟨rfl, rfl, rfl, rfl, rfl, rfl, rfl, rfl, rfl, rfl, rfl, rfl, rfl, rfl, rfl, rfl, trivial⟩ ?_
         refine q_then_n (hK19 _ _ ?_)
         refine c_false rfl ?_
         refine c_skip ?_
         refine q_in_n ?_
         refine q_then_n (hK12 _ _ ?_)
         refine c_region ?_
         refine t_f1 ?_
         refine t_f1 ?_
         refine t_shutRT rfl rfl hok7 hle8 ?_
         refine tp rfl (lv_move rfl) ?_
         refine tp rfl (lv_add (c := ((i + 1 : Nat) : Int)) rfl rfl (wr_i64_succ (by omega))) ?_
         refine tp rfl (lv_assign rfl) ?_
         refine t_done ?_
         refine q_then_n ?_
         refine t_f2 ?_
         refine t_drop ?_
         exact t_weak (by exact ⟨rfl, rfl, rfl, rfl, rfl, rfl, rfl, trivial⟩) ((hK9 (i + 1, m2, a2) ⟨by omega, by omega, hml2⟩ (by dsimp only; omega)))
      · -- not there
        rw [show credV m2 ((l.getD i St4.d).id) = 0 from by unfold credV; rw [if_neg hp], show decide (placeM m2 ((l.getD i St4.d).id) ≥ 0) = false from decide_eq_false hp]
        by_cases hne : m2.length ≠ 0
        · -- true
         have ha2 : a2 < m2.length := by rcases hal2 with h | ⟨_, h⟩; exact h; rw [h] at hne; simp at hne
         rw [show decide (m2.length ≠ 0) = true from decide_eq_true hne]
         refine c_draw (γ := Unit) (n := 69) Try.mixed rfl rfl (fun _ S => True) (fun _ => [(0, 136, (.bool true)), (1, 137, (.bool false)), (2, 138, (.bool false)), (3, 139, (.pointer (some ⟨p1, 0, none⟩))), (4, 140, (.int .i64 ((m2.length : Nat) : Int))), (5, 141, (.pointer (some ⟨p2, 0, none⟩))), (6, 142, (.pointer (some ⟨p2, 0, none⟩))), (7, 143, (.pointer (some ⟨p2, 1, none⟩))), (8, 144, (.slice bs5 m2.length cp6)), (9, 145, (.int .i64 ((m2.length : Nat) : Int))), (10, 146, (.bool false)), (11, 147, (.bool false)), (12, 148, (.bool false)), (13, 149, (.bool false)), (14, 150, (.int .i64 (placeM m2 ((l.getD i St4.d).id)))), (15, 151, (.bool false)), (16, 152, (.bool false)), (17, 153, (.bool false)), (18, 154, (.bool false)), (19, 155, (.bool false)), (20, 156, (.bool false)), (21, 157, undef), (22, 158, undef), (23, 159, undef), (24, 160, undef), (25, 161, undef), (26, 162, undef), (27, 163, undef), (28, 164, undef), (29, 165, undef), (30, 166, undef), (31, 167, (.bool false)), (32, 168, (.bool false)), (33, 169, (.bool false)), (34, 170, (.bool false)), (35, 171, (.bool true)), (36, 172, (.bool true)), (37, 173, (.int .i64 0)), (38, 174, (.bool false)), (39, 175, (.bool false)), (40, 176, (.bool false)), (41, 177, (.bool false)), (42, 178, (.bool true)), (43, 179, (.pointer (some ⟨p2, 0, none⟩))), (44, 180, (.pointer (some ⟨p2, 0, none⟩))), (45, 181, (.pointer (some ⟨p2, 1, none⟩))), (46, 182, (.slice bs5 m2.length cp6)), (47, 183, (.int .i64 ((m2.length : Nat) : Int))), (48, 184, (.bool true)), (49, 185, (.bool false)), (50, 186, (.bool false)), (51, 187, (.bool false)), (52, 188, (.bool true)), (53, 189, (.bool true)), (54, 190, (.int .i64 ((m2.getD a2 M3.z).id))), (55, 191, (.pointer (some ⟨p2, 0, none⟩))), (56, 192, (.pointer (some ⟨p2, 0, none⟩))), (57, 193, (.pointer (some ⟨p2, 1, none⟩))), (58, 194, (.slice bs5 m2.length cp6)), (59, 195, (.pointer (some ⟨p2, 0, none⟩))), (60, 196, (.pointer (some ⟨p2, 0, none⟩))), (61, 197, (.pointer (some ⟨p2, 2, none⟩))), (62, 198, (.int .i64 ((a2 : Nat) : Int))), (63, 199, (.pointer (some (ad bs5 (a2 * 3))))), (64, 200, (.pointer (some (ad bs5 (a2 * 3))))), (65, 201, (.int .i64 ((m2.getD a2 M3.z).id))), (66, 202, (.bool false)), (67, 203, (.bool false)), (68, 204, (.bool false))]) (fun _ S => (Blk p2 [(.int .i64 q), (.slice bs5 m2.length cp6), (.int .i64 ((a2 : Nat) : Int))] 57) :: (SlV 59 3 (.slice bs5 m2.length cp6) m2.length (recs m3F m2)) :: (TurnsO p1 q m2 a2) :: (Blk b4 [(.int .i64 ((l.getD i St4.d).kd)), (.int .i64 ((l.getD i St4.d).id)), (.int .i64 ((l.getD i St4.d).w)), (.slice bw ((l.getD i St4.d).ws.length) cw)] 41) :: R) (()) trivial (fun _ h => h) (fun _ _ h => h) ?_ ?_
         · -- steps
          refine ⟨?_, ?_, ?_, ?_, ?_, ?_, ?_, ?_, ?_, ?_, ?_, ?_, ?_, ?_, ?_, ?_, ?_, ?_, ?_, ?_, ?_, ?_, ?_, ?_, ?_, ?_, ?_, ?_, ?_, ?_, ?_, ?_, ?_, ?_, ?_, ?_, ?_, ?_, ?_, ?_, ?_, ?_, ?_, ?_, ?_, ?_, ?_, ?_, ?_, ?_, ?_, ?_, ?_, ?_, ?_, ?_, ?_, ?_, ?_, ?_, ?_, ?_, ?_, ?_, ?_, ?_, ?_, ?_, ?_, trivial⟩
          · -- 0
           rintro _ S hF hS D hp K hK
           try dsimp only at hF ⊢
           refine d_need (small := [(10, (.bool true))]) ⟨look_b rfl rfl, trivial⟩ ?_
           refine tp rfl (lv_move rfl) ?_
           exact d_closes ⟨look_b rfl rfl, trivial⟩ 0 rfl rfl rfl hS (AgreeR.refl _) (t_sat (fun _ h => h) (hK () trivial))
          · -- 1
           rintro _ S hF hS D hp K hK
           try dsimp only at hF ⊢
           have s0 := hp 0 rfl
           refine d_need (small := [(136, (.bool true))]) ⟨look_row rfl 0 rfl s0, trivial⟩ ?_
           refine tp rfl (lv_not (c := false) rfl rfl) ?_
           exact d_closes ⟨look_row rfl 0 rfl s0, trivial⟩ 1 rfl rfl rfl hS (AgreeR.refl _) (t_sat (fun _ h => h) (hK () trivial))
          · -- 2
           rintro _ S hF hS D hp K hK
           try dsimp only at hF ⊢
           have s1 := hp 1 rfl
           refine d_need (small := [(137, (.bool false))]) ⟨look_row rfl 1 rfl s1, trivial⟩ ?_
           refine tp rfl (lv_move rfl) ?_
           exact d_closes ⟨look_row rfl 1 rfl s1, trivial⟩ 2 rfl rfl rfl hS (AgreeR.refl _) (t_sat (fun _ h => h) (hK () trivial))
          · -- 3
           rintro _ S hF hS D hp K hK
           try dsimp only at hF ⊢
           have s2 := hp 2 rfl
           refine d_need (small := [(6, (.pointer (some ⟨p1, 0, none⟩))), (138, (.bool false))]) ⟨look_b rfl rfl, look_row rfl 2 rfl s2, trivial⟩ ?_
           refine t_guard rfl rfl ?_
           refine tp rfl (lv_move rfl) ?_
           exact d_closes ⟨look_b rfl rfl, look_row rfl 2 rfl s2, trivial⟩ 3 rfl rfl rfl hS (AgreeR.refl _) (t_sat (fun _ h => h) (hK () trivial))
          · -- 4
           rintro _ S hF hS D hp K hK
           try dsimp only at hF ⊢
           have s2 := hp 2 rfl
           have s3 := hp 3 rfl
           refine d_need (small := [(138, (.bool false)), (139, (.pointer (some ⟨p1, 0, none⟩)))]) ⟨look_row rfl 2 rfl s2, look_row rfl 3 rfl s3, trivial⟩ ?_
           refine t_guard rfl rfl ?_
           refine t_f2 ?_
           refine tc rfl (en_fn Try.call23 rfl) (tlen_ok (q := q) (ms := m2) (a := a2) (by omega)) ?_
           rintro _ _ ⟨rfl, rfl⟩
           refine t_f2 ?_
           refine t_f2 ?_
           exact d_closes ⟨look_row rfl 2 rfl s2, look_row rfl 3 rfl s3, trivial⟩ 4 rfl rfl rfl hS (AgreeR.refl _) (t_sat (fun _ h => h) (hK () trivial))
          · -- 5
           rintro _ S hF hS D hp K hK
           try dsimp only at hF ⊢
           have s2 := hp 2 rfl
           refine d_need (small := [(7, (.pointer (some ⟨p2, 0, none⟩))), (138, (.bool false))]) ⟨look_b rfl rfl, look_row rfl 2 rfl s2, trivial⟩ ?_
           refine t_guard rfl rfl ?_
           refine tp rfl (lv_move rfl) ?_
           exact d_closes ⟨look_b rfl rfl, look_row rfl 2 rfl s2, trivial⟩ 5 rfl rfl rfl hS (AgreeR.refl _) (t_sat (fun _ h => h) (hK () trivial))
          · -- 6
           rintro _ S hF hS D hp K hK
           try dsimp only at hF ⊢
           have s2 := hp 2 rfl
           have s5 := hp 5 rfl
           refine d_need (small := [(138, (.bool false)), (141, (.pointer (some ⟨p2, 0, none⟩)))]) ⟨look_row rfl 2 rfl s2, look_row rfl 5 rfl s5, trivial⟩ ?_
           refine t_guard rfl rfl ?_
           refine tp rfl (lv_nilCheck rfl) ?_
           exact d_closes ⟨look_row rfl 2 rfl s2, look_row rfl 5 rfl s5, trivial⟩ 6 rfl rfl rfl hS (AgreeR.refl _) (t_sat (fun _ h => h) (hK () trivial))
          · -- 7
           rintro _ S hF hS D hp K hK
           try dsimp only at hF ⊢
           have s2 := hp 2 rfl
           have s6 := hp 6 rfl
           refine d_need (small := [(138, (.bool false)), (142, (.pointer (some ⟨p2, 0, none⟩)))]) ⟨look_row rfl 2 rfl s2, look_row rfl 6 rfl s6, trivial⟩ ?_
           refine t_guard rfl rfl ?_
           refine tp rfl (lv_fieldAddr (o' := 1) Try.underlying57 rfl Try.sizeOf55 rfl rfl) ?_
           exact d_closes ⟨look_row rfl 2 rfl s2, look_row rfl 6 rfl s6, trivial⟩ 7 rfl rfl rfl hS (AgreeR.refl _) (t_sat (fun _ h => h) (hK () trivial))
          · -- 8
           rintro _ S hF hS D hp K hK
           try dsimp only at hF ⊢
           have s2 := hp 2 rfl
           have s7 := hp 7 rfl
           refine d_need (small := [(138, (.bool false)), (143, (.pointer (some ⟨p2, 1, none⟩)))]) ⟨look_row rfl 2 rfl s2, look_row rfl 7 rfl s7, trivial⟩ ?_
           refine t_guard rfl rfl ?_
           refine tp rfl (lv_load Try.isAgg55 rfl (gives_blk (.head _) rfl)) ?_
           exact d_closes ⟨look_row rfl 2 rfl s2, look_row rfl 7 rfl s7, trivial⟩ 8 rfl rfl rfl hS (AgreeR.refl _) (t_sat (fun _ h => h) (hK () trivial))
          · -- 9
           rintro _ S hF hS D hp K hK
           try dsimp only at hF ⊢
           have s2 := hp 2 rfl
           have s8 := hp 8 rfl
           refine d_need (small := [(138, (.bool false)), (144, (.slice bs5 m2.length cp6))]) ⟨look_row rfl 2 rfl s2, look_row rfl 8 rfl s8, trivial⟩ ?_
           refine t_guard rfl rfl ?_
           refine tp rfl (lv_len Try.underlying55 rfl rfl) ?_
           exact d_closes ⟨look_row rfl 2 rfl s2, look_row rfl 8 rfl s8, trivial⟩ 9 rfl rfl rfl hS (AgreeR.refl _) (t_sat (fun _ h => h) (hK () trivial))
          · -- 10
           rintro _ S hF hS D hp K hK
           try dsimp only at hF ⊢
           have s2 := hp 2 rfl
           have s4 := hp 4 rfl
           have s9 := hp 9 rfl
           refine d_need (small := [(138, (.bool false)), (140, (.int .i64 ((m2.length : Nat) : Int))), (145, (.int .i64 ((m2.length : Nat) : Int)))]) ⟨look_row rfl 2 rfl s2, look_row rfl 4 rfl s4, look_row rfl 9 rfl s9, trivial⟩ ?_
           refine t_guard rfl rfl ?_
           refine tp rfl (lv_neq rfl rfl (bne_eq_false_iff_eq.2 rfl)) ?_
           exact d_closes ⟨look_row rfl 2 rfl s2, look_row rfl 4 rfl s4, look_row rfl 9 rfl s9, trivial⟩ 10 rfl rfl rfl hS (AgreeR.refl _) (t_sat (fun _ h => h) (hK () trivial))
          · -- 11
           rintro _ S hF hS D hp K hK
           try dsimp only at hF ⊢
           have s2 := hp 2 rfl
           have s10 := hp 10 rfl
           refine d_need (small := [(138, (.bool false)), (146, (.bool false))]) ⟨look_row rfl 2 rfl s2, look_row rfl 10 rfl s10, trivial⟩ ?_
           refine tp rfl (lv_pick_f rfl rfl) ?_
           exact d_closes ⟨look_row rfl 2 rfl s2, look_row rfl 10 rfl s10, trivial⟩ 11 rfl rfl rfl hS (AgreeR.refl _) (t_sat (fun _ h => h) (hK () trivial))
          · -- 12
           rintro _ S hF hS D hp K hK
           try dsimp only at hF ⊢
           have s11 := hp 11 rfl
           refine d_need (small := [(147, (.bool false))]) ⟨look_row rfl 11 rfl s11, trivial⟩ ?_
           refine tp rfl (lv_move rfl) ?_
           exact d_closes ⟨look_row rfl 11 rfl s11, trivial⟩ 12 rfl rfl rfl hS (AgreeR.refl _) (t_sat (fun _ h => h) (hK () trivial))
          · -- 13
           rintro _ S hF hS D hp K hK
           try dsimp only at hF ⊢
           have s12 := hp 12 rfl
           refine d_need (small := [(19, (.bool false)), (148, (.bool false))]) ⟨look_b rfl rfl, look_row rfl 12 rfl s12, trivial⟩ ?_
           refine t_guard rfl rfl ?_
           refine tp rfl (lv_move rfl) ?_
           exact d_closes ⟨look_b rfl rfl, look_row rfl 12 rfl s12, trivial⟩ 13 rfl rfl rfl hS (AgreeR.refl _) (t_sat (fun _ h => h) (hK () trivial))
          · -- 14
           rintro _ S hF hS D hp K hK
           try dsimp only at hF ⊢
           have s12 := hp 12 rfl
           refine d_need (small := [(20, (.int .i64 (placeM m2 ((l.getD i St4.d).id)))), (148, (.bool false))]) ⟨look_b rfl rfl, look_row rfl 12 rfl s12, trivial⟩ ?_
           refine t_guard rfl rfl ?_
           refine tp rfl (lv_move rfl) ?_
           exact d_closes ⟨look_b rfl rfl, look_row rfl 12 rfl s12, trivial⟩ 14 rfl rfl rfl hS (AgreeR.refl _) (t_sat (fun _ h => h) (hK () trivial))
          · -- 15
           rintro _ S hF hS D hp K hK
           try dsimp only at hF ⊢
           have s12 := hp 12 rfl
           have s14 := hp 14 rfl
           refine d_need (small := [(148, (.bool false)), (150, (.int .i64 (placeM m2 ((l.getD i St4.d).id))))]) ⟨look_row rfl 12 rfl s12, look_row rfl 14 rfl s14, trivial⟩ ?_
           refine t_guard rfl rfl ?_
           refine tp rfl (lv_geq rfl rfl (decide_eq_false (by omega))) ?_
           exact d_closes ⟨look_row rfl 12 rfl s12, look_row rfl 14 rfl s14, trivial⟩ 15 rfl rfl rfl hS (AgreeR.refl _) (t_sat (fun _ h => h) (hK () trivial))
          · -- 16
           rintro _ S hF hS D hp K hK
           try dsimp only at hF ⊢
           have s12 := hp 12 rfl
           have s13 := hp 13 rfl
           have s15 := hp 15 rfl
           refine d_need (small := [(148, (.bool false)), (149, (.bool false)), (151, (.bool false))]) ⟨look_row rfl 12 rfl s12, look_row rfl 13 rfl s13, look_row rfl 15 rfl s15, trivial⟩ ?_
           refine t_guard rfl rfl ?_
           refine tp rfl (lv_neb Try.underlying4 rfl rfl rfl) ?_
           exact d_closes ⟨look_row rfl 12 rfl s12, look_row rfl 13 rfl s13, look_row rfl 15 rfl s15, trivial⟩ 16 rfl rfl rfl hS (AgreeR.refl _) (t_sat (fun _ h => h) (hK () trivial))
          · -- 17
           rintro _ S hF hS D hp K hK
           try dsimp only at hF ⊢
           have s12 := hp 12 rfl
           have s16 := hp 16 rfl
           refine d_need (small := [(148, (.bool false)), (152, (.bool false))]) ⟨look_row rfl 12 rfl s12, look_row rfl 16 rfl s16, trivial⟩ ?_
           refine tp rfl (lv_pick_f rfl rfl) ?_
           exact d_closes ⟨look_row rfl 12 rfl s12, look_row rfl 16 rfl s16, trivial⟩ 17 rfl rfl rfl hS (AgreeR.refl _) (t_sat (fun _ h => h) (hK () trivial))
          · -- 18
           rintro _ S hF hS D hp K hK
           try dsimp only at hF ⊢
           have s17 := hp 17 rfl
           refine d_need (small := [(153, (.bool false))]) ⟨look_row rfl 17 rfl s17, trivial⟩ ?_
           refine tp rfl (lv_move rfl) ?_
           exact d_closes ⟨look_row rfl 17 rfl s17, trivial⟩ 18 rfl rfl rfl hS (AgreeR.refl _) (t_sat (fun _ h => h) (hK () trivial))
          · -- 19
           rintro _ S hF hS D hp K hK
           try dsimp only at hF ⊢
           have s18 := hp 18 rfl
           refine d_need (small := [(19, (.bool false)), (154, (.bool false))]) ⟨look_b rfl rfl, look_row rfl 18 rfl s18, trivial⟩ ?_
           refine t_guard rfl rfl ?_
           refine tp rfl (lv_move rfl) ?_
           exact d_closes ⟨look_b rfl rfl, look_row rfl 18 rfl s18, trivial⟩ 19 rfl rfl rfl hS (AgreeR.refl _) (t_sat (fun _ h => h) (hK () trivial))
          · -- 20
           rintro _ S hF hS D hp K hK
           try dsimp only at hF ⊢
           have s18 := hp 18 rfl
           have s19 := hp 19 rfl
           refine d_need (small := [(154, (.bool false)), (155, (.bool false))]) ⟨look_row rfl 18 rfl s18, look_row rfl 19 rfl s19, trivial⟩ ?_
           refine t_guard rfl rfl ?_
           refine tp rfl (lv_move rfl) ?_
           exact d_closes ⟨look_row rfl 18 rfl s18, look_row rfl 19 rfl s19, trivial⟩ 20 rfl rfl rfl hS (AgreeR.refl _) (t_sat (fun _ h => h) (hK () trivial))
          · -- 21
           rintro _ S hF hS D hp K hK
           try dsimp only at hF ⊢
           have s20 := hp 20 rfl
           refine d_need (small := [(18, (.int .i64 0)), (156, (.bool false))]) ⟨look_b rfl rfl, look_row rfl 20 rfl s20, trivial⟩ ?_
           refine t_skip rfl rfl rfl ?_
           exact d_closes ⟨look_b rfl rfl, look_row rfl 20 rfl s20, trivial⟩ 21 rfl rfl rfl hS (AgreeR.refl _) (t_sat (fun _ h => h) (hK () trivial))
          · -- 22
           rintro _ S hF hS D hp K hK
           try dsimp only at hF ⊢
           have s20 := hp 20 rfl
           refine d_need (small := [(7, (.pointer (some ⟨p2, 0, none⟩))), (156, (.bool false))]) ⟨look_b rfl rfl, look_row rfl 20 rfl s20, trivial⟩ ?_
           refine t_skip rfl rfl rfl ?_
           exact d_closes ⟨look_b rfl rfl, look_row rfl 20 rfl s20, trivial⟩ 22 rfl rfl rfl hS (AgreeR.refl _) (t_sat (fun _ h => h) (hK () trivial))
          · -- 23
           rintro _ S hF hS D hp K hK
           try dsimp only at hF ⊢
           have s20 := hp 20 rfl
           have s22 := hp 22 rfl
           refine d_need (small := [(156, (.bool false)), (158, undef)]) ⟨look_row rfl 20 rfl s20, look_row rfl 22 rfl s22, trivial⟩ ?_
           refine t_skip rfl rfl rfl ?_
           exact d_closes ⟨look_row rfl 20 rfl s20, look_row rfl 22 rfl s22, trivial⟩ 23 rfl rfl rfl hS (AgreeR.refl _) (t_sat (fun _ h => h) (hK () trivial))
          · -- 24
           rintro _ S hF hS D hp K hK
           try dsimp only at hF ⊢
           have s20 := hp 20 rfl
           have s23 := hp 23 rfl
           refine d_need (small := [(156, (.bool false)), (159, undef)]) ⟨look_row rfl 20 rfl s20, look_row rfl 23 rfl s23, trivial⟩ ?_
           refine t_skip rfl rfl rfl ?_
           exact d_closes ⟨look_row rfl 20 rfl s20, look_row rfl 23 rfl s23, trivial⟩ 24 rfl rfl rfl hS (AgreeR.refl _) (t_sat (fun _ h => h) (hK () trivial))
          · -- 25
           rintro _ S hF hS D hp K hK
           try dsimp only at hF ⊢
           have s20 := hp 20 rfl
           have s24 := hp 24 rfl
           refine d_need (small := [(156, (.bool false)), (160, undef)]) ⟨look_row rfl 20 rfl s20, look_row rfl 24 rfl s24, trivial⟩ ?_
           refine t_skip rfl rfl rfl ?_
           exact d_closes ⟨look_row rfl 20 rfl s20, look_row rfl 24 rfl s24, trivial⟩ 25 rfl rfl rfl hS (AgreeR.refl _) (t_sat (fun _ h => h) (hK () trivial))
          · -- 26
           rintro _ S hF hS D hp K hK
           try dsimp only at hF ⊢
           have s20 := hp 20 rfl
           refine d_need (small := [(20, (.int .i64 (placeM m2 ((l.getD i St4.d).id)))), (156, (.bool false))]) ⟨look_b rfl rfl, look_row rfl 20 rfl s20, trivial⟩ ?_
           refine t_skip rfl rfl rfl ?_
           exact d_closes ⟨look_b rfl rfl, look_row rfl 20 rfl s20, trivial⟩ 26 rfl rfl rfl hS (AgreeR.refl _) (t_sat (fun _ h => h) (hK () trivial))
          · -- 27
           rintro _ S hF hS D hp K hK
           try dsimp only at hF ⊢
           have s20 := hp 20 rfl
           have s25 := hp 25 rfl
           have s26 := hp 26 rfl
           refine d_need (small := [(156, (.bool false)), (161, undef), (162, undef)]) ⟨look_row rfl 20 rfl s20, look_row rfl 25 rfl s25, look_row rfl 26 rfl s26, trivial⟩ ?_
           refine t_skip rfl rfl rfl ?_
           exact d_closes ⟨look_row rfl 20 rfl s20, look_row rfl 25 rfl s25, look_row rfl 26 rfl s26, trivial⟩ 27 rfl rfl rfl hS (AgreeR.refl _) (t_sat (fun _ h => h) (hK () trivial))
          · -- 28
           rintro _ S hF hS D hp K hK
           try dsimp only at hF ⊢
           have s20 := hp 20 rfl
           have s27 := hp 27 rfl
           refine d_need (small := [(156, (.bool false)), (163, undef)]) ⟨look_row rfl 20 rfl s20, look_row rfl 27 rfl s27, trivial⟩ ?_
           refine t_skip rfl rfl rfl ?_
           exact d_closes ⟨look_row rfl 20 rfl s20, look_row rfl 27 rfl s27, trivial⟩ 28 rfl rfl rfl hS (AgreeR.refl _) (t_sat (fun _ h => h) (hK () trivial))
          · -- 29
           rintro _ S hF hS D hp K hK
           try dsimp only at hF ⊢
           have s20 := hp 20 rfl
           have s28 := hp 28 rfl
           refine d_need (small := [(156, (.bool false)), (164, undef)]) ⟨look_row rfl 20 rfl s20, look_row rfl 28 rfl s28, trivial⟩ ?_
           refine t_skip rfl rfl rfl ?_
           exact d_closes ⟨look_row rfl 20 rfl s20, look_row rfl 28 rfl s28, trivial⟩ 29 rfl rfl rfl hS (AgreeR.refl _) (t_sat (fun _ h => h) (hK () trivial))
          · -- 30
           rintro _ S hF hS D hp K hK
           try dsimp only at hF ⊢
           have s20 := hp 20 rfl
           have s21 := hp 21 rfl
           have s29 := hp 29 rfl
           refine d_need (small := [(156, (.bool false)), (157, undef), (165, undef)]) ⟨look_row rfl 20 rfl s20, look_row rfl 21 rfl s21, look_row rfl 29 rfl s29, trivial⟩ ?_
           refine t_skip rfl rfl rfl ?_
           exact d_closes ⟨look_row rfl 20 rfl s20, look_row rfl 21 rfl s21, look_row rfl 29 rfl s29, trivial⟩ 30 rfl rfl rfl hS (AgreeR.refl _) (t_sat (fun _ h => h) (hK () trivial))
          · -- 31
           rintro _ S hF hS D hp K hK
           try dsimp only at hF ⊢
           have s18 := hp 18 rfl
           have s20 := hp 20 rfl
           have s30 := hp 30 rfl
           refine d_need (small := [(154, (.bool false)), (156, (.bool false)), (166, undef)]) ⟨look_row rfl 18 rfl s18, look_row rfl 20 rfl s20, look_row rfl 30 rfl s30, trivial⟩ ?_
           refine t_guard rfl rfl ?_
           refine tp rfl (lv_pick_f rfl rfl) ?_
           exact d_closes ⟨look_row rfl 18 rfl s18, look_row rfl 20 rfl s20, look_row rfl 30 rfl s30, trivial⟩ 31 rfl rfl rfl hS (AgreeR.refl _) (t_sat (fun _ h => h) (hK () trivial))
          · -- 32
           rintro _ S hF hS D hp K hK
           try dsimp only at hF ⊢
           have s18 := hp 18 rfl
           have s31 := hp 31 rfl
           refine d_need (small := [(154, (.bool false)), (167, (.bool false))]) ⟨look_row rfl 18 rfl s18, look_row rfl 31 rfl s31, trivial⟩ ?_
           refine tp rfl (lv_pick_f rfl rfl) ?_
           exact d_closes ⟨look_row rfl 18 rfl s18, look_row rfl 31 rfl s31, trivial⟩ 32 rfl rfl rfl hS (AgreeR.refl _) (t_sat (fun _ h => h) (hK () trivial))
          · -- 33
           rintro _ S hF hS D hp K hK
           try dsimp only at hF ⊢
           have s32 := hp 32 rfl
           refine d_need (small := [(168, (.bool false))]) ⟨look_row rfl 32 rfl s32, trivial⟩ ?_
           refine tp rfl (lv_move rfl) ?_
           exact d_closes ⟨look_row rfl 32 rfl s32, trivial⟩ 33 rfl rfl rfl hS (AgreeR.refl _) (t_sat (fun _ h => h) (hK () trivial))
          · -- 34
           rintro _ S hF hS D hp K hK
           try dsimp only at hF ⊢
           have s33 := hp 33 rfl
           refine d_need (small := [(19, (.bool false)), (169, (.bool false))]) ⟨look_b rfl rfl, look_row rfl 33 rfl s33, trivial⟩ ?_
           refine t_guard rfl rfl ?_
           refine tp rfl (lv_move rfl) ?_
           exact d_closes ⟨look_b rfl rfl, look_row rfl 33 rfl s33, trivial⟩ 34 rfl rfl rfl hS (AgreeR.refl _) (t_sat (fun _ h => h) (hK () trivial))
          · -- 35
           rintro _ S hF hS D hp K hK
           try dsimp only at hF ⊢
           have s33 := hp 33 rfl
           have s34 := hp 34 rfl
           refine d_need (small := [(169, (.bool false)), (170, (.bool false))]) ⟨look_row rfl 33 rfl s33, look_row rfl 34 rfl s34, trivial⟩ ?_
           refine t_guard rfl rfl ?_
           refine tp rfl (lv_not (c := true) rfl rfl) ?_
           exact d_closes ⟨look_row rfl 33 rfl s33, look_row rfl 34 rfl s34, trivial⟩ 35 rfl rfl rfl hS (AgreeR.refl _) (t_sat (fun _ h => h) (hK () trivial))
          · -- 36
           rintro _ S hF hS D hp K hK
           try dsimp only at hF ⊢
           have s33 := hp 33 rfl
           have s35 := hp 35 rfl
           refine d_need (small := [(169, (.bool false)), (171, (.bool true))]) ⟨look_row rfl 33 rfl s33, look_row rfl 35 rfl s35, trivial⟩ ?_
           refine t_guard rfl rfl ?_
           refine tp rfl (lv_move rfl) ?_
           exact d_closes ⟨look_row rfl 33 rfl s33, look_row rfl 35 rfl s35, trivial⟩ 36 rfl rfl rfl hS (AgreeR.refl _) (t_sat (fun _ h => h) (hK () trivial))
          · -- 37
           rintro _ S hF hS D hp K hK
           try dsimp only at hF ⊢
           have s36 := hp 36 rfl
           refine d_need (small := [(18, (.int .i64 0)), (172, (.bool true))]) ⟨look_b rfl rfl, look_row rfl 36 rfl s36, trivial⟩ ?_
           refine t_guard rfl rfl ?_
           refine tp rfl (lv_move rfl) ?_
           exact d_closes ⟨look_b rfl rfl, look_row rfl 36 rfl s36, trivial⟩ 37 rfl rfl rfl hS (AgreeR.refl _) (t_sat (fun _ h => h) (hK () trivial))
          · -- 38
           rintro _ S hF hS D hp K hK
           try dsimp only at hF ⊢
           have s36 := hp 36 rfl
           have s37 := hp 37 rfl
           refine d_need (small := [(172, (.bool true)), (173, (.int .i64 0))]) ⟨look_row rfl 36 rfl s36, look_row rfl 37 rfl s37, trivial⟩ ?_
           refine t_guard rfl rfl ?_
           refine tp rfl (lv_neq (r := false) rfl rfl (by decide)) ?_
           exact d_closes ⟨look_row rfl 36 rfl s36, look_row rfl 37 rfl s37, trivial⟩ 38 rfl rfl rfl hS (AgreeR.refl _) (t_sat (fun _ h => h) (hK () trivial))
          · -- 39
           rintro _ S hF hS D hp K hK
           try dsimp only at hF ⊢
           have s33 := hp 33 rfl
           have s36 := hp 36 rfl
           have s38 := hp 38 rfl
           refine d_need (small := [(169, (.bool false)), (172, (.bool true)), (174, (.bool false))]) ⟨look_row rfl 33 rfl s33, look_row rfl 36 rfl s36, look_row rfl 38 rfl s38, trivial⟩ ?_
           refine t_guard rfl rfl ?_
           refine tp rfl (lv_pick_t rfl rfl) ?_
           exact d_closes ⟨look_row rfl 33 rfl s33, look_row rfl 36 rfl s36, look_row rfl 38 rfl s38, trivial⟩ 39 rfl rfl rfl hS (AgreeR.refl _) (t_sat (fun _ h => h) (hK () trivial))
          · -- 40
           rintro _ S hF hS D hp K hK
           try dsimp only at hF ⊢
           have s33 := hp 33 rfl
           have s39 := hp 39 rfl
           refine d_need (small := [(169, (.bool false)), (175, (.bool false))]) ⟨look_row rfl 33 rfl s33, look_row rfl 39 rfl s39, trivial⟩ ?_
           refine tp rfl (lv_pick_f rfl rfl) ?_
           exact d_closes ⟨look_row rfl 33 rfl s33, look_row rfl 39 rfl s39, trivial⟩ 40 rfl rfl rfl hS (AgreeR.refl _) (t_sat (fun _ h => h) (hK () trivial))
          · -- 41
           rintro _ S hF hS D hp K hK
           try dsimp only at hF ⊢
           have s40 := hp 40 rfl
           refine d_need (small := [(176, (.bool false))]) ⟨look_row rfl 40 rfl s40, trivial⟩ ?_
           refine tp rfl (lv_move rfl) ?_
           exact d_closes ⟨look_row rfl 40 rfl s40, trivial⟩ 41 rfl rfl rfl hS (AgreeR.refl _) (t_sat (fun _ h => h) (hK () trivial))
          · -- 42
           rintro _ S hF hS D hp K hK
           try dsimp only at hF ⊢
           have s41 := hp 41 rfl
           refine d_need (small := [(22, (.bool true)), (177, (.bool false))]) ⟨look_b rfl rfl, look_row rfl 41 rfl s41, trivial⟩ ?_
           refine t_guard rfl rfl ?_
           refine tp rfl (lv_move rfl) ?_
           exact d_closes ⟨look_b rfl rfl, look_row rfl 41 rfl s41, trivial⟩ 42 rfl rfl rfl hS (AgreeR.refl _) (t_sat (fun _ h => h) (hK () trivial))
          · -- 43
           rintro _ S hF hS D hp K hK
           try dsimp only at hF ⊢
           have s41 := hp 41 rfl
           refine d_need (small := [(7, (.pointer (some ⟨p2, 0, none⟩))), (177, (.bool false))]) ⟨look_b rfl rfl, look_row rfl 41 rfl s41, trivial⟩ ?_
           refine t_guard rfl rfl ?_
           refine tp rfl (lv_move rfl) ?_
           exact d_closes ⟨look_b rfl rfl, look_row rfl 41 rfl s41, trivial⟩ 43 rfl rfl rfl hS (AgreeR.refl _) (t_sat (fun _ h => h) (hK () trivial))
          · -- 44
           rintro _ S hF hS D hp K hK
           try dsimp only at hF ⊢
           have s41 := hp 41 rfl
           have s43 := hp 43 rfl
           refine d_need (small := [(177, (.bool false)), (179, (.pointer (some ⟨p2, 0, none⟩)))]) ⟨look_row rfl 41 rfl s41, look_row rfl 43 rfl s43, trivial⟩ ?_
           refine t_guard rfl rfl ?_
           refine tp rfl (lv_nilCheck rfl) ?_
           exact d_closes ⟨look_row rfl 41 rfl s41, look_row rfl 43 rfl s43, trivial⟩ 44 rfl rfl rfl hS (AgreeR.refl _) (t_sat (fun _ h => h) (hK () trivial))
          · -- 45
           rintro _ S hF hS D hp K hK
           try dsimp only at hF ⊢
           have s41 := hp 41 rfl
           have s44 := hp 44 rfl
           refine d_need (small := [(177, (.bool false)), (180, (.pointer (some ⟨p2, 0, none⟩)))]) ⟨look_row rfl 41 rfl s41, look_row rfl 44 rfl s44, trivial⟩ ?_
           refine t_guard rfl rfl ?_
           refine tp rfl (lv_fieldAddr (o' := 1) Try.underlying57 rfl Try.sizeOf55 rfl rfl) ?_
           exact d_closes ⟨look_row rfl 41 rfl s41, look_row rfl 44 rfl s44, trivial⟩ 45 rfl rfl rfl hS (AgreeR.refl _) (t_sat (fun _ h => h) (hK () trivial))
          · -- 46
           rintro _ S hF hS D hp K hK
           try dsimp only at hF ⊢
           have s41 := hp 41 rfl
           have s45 := hp 45 rfl
           refine d_need (small := [(177, (.bool false)), (181, (.pointer (some ⟨p2, 1, none⟩)))]) ⟨look_row rfl 41 rfl s41, look_row rfl 45 rfl s45, trivial⟩ ?_
           refine t_guard rfl rfl ?_
           refine tp rfl (lv_load Try.isAgg55 rfl (gives_blk (.head _) rfl)) ?_
           exact d_closes ⟨look_row rfl 41 rfl s41, look_row rfl 45 rfl s45, trivial⟩ 46 rfl rfl rfl hS (AgreeR.refl _) (t_sat (fun _ h => h) (hK () trivial))
          · -- 47
           rintro _ S hF hS D hp K hK
           try dsimp only at hF ⊢
           have s41 := hp 41 rfl
           have s46 := hp 46 rfl
           refine d_need (small := [(177, (.bool false)), (182, (.slice bs5 m2.length cp6))]) ⟨look_row rfl 41 rfl s41, look_row rfl 46 rfl s46, trivial⟩ ?_
           refine t_guard rfl rfl ?_
           refine tp rfl (lv_len Try.underlying55 rfl rfl) ?_
           exact d_closes ⟨look_row rfl 41 rfl s41, look_row rfl 46 rfl s46, trivial⟩ 47 rfl rfl rfl hS (AgreeR.refl _) (t_sat (fun _ h => h) (hK () trivial))
          · -- 48
           rintro _ S hF hS D hp K hK
           try dsimp only at hF ⊢
           have s41 := hp 41 rfl
           have s47 := hp 47 rfl
           refine d_need (small := [(177, (.bool false)), (183, (.int .i64 ((m2.length : Nat) : Int)))]) ⟨look_row rfl 41 rfl s41, look_row rfl 47 rfl s47, trivial⟩ ?_
           refine t_guard rfl rfl ?_
           refine tp rfl (lv_gtr rfl rfl (decide_eq_true (by omega))) ?_
           exact d_closes ⟨look_row rfl 41 rfl s41, look_row rfl 47 rfl s47, trivial⟩ 48 rfl rfl rfl hS (AgreeR.refl _) (t_sat (fun _ h => h) (hK () trivial))
          · -- 49
           rintro _ S hF hS D hp K hK
           try dsimp only at hF ⊢
           have s41 := hp 41 rfl
           have s42 := hp 42 rfl
           have s48 := hp 48 rfl
           refine d_need (small := [(177, (.bool false)), (178, (.bool true)), (184, (.bool true))]) ⟨look_row rfl 41 rfl s41, look_row rfl 42 rfl s42, look_row rfl 48 rfl s48, trivial⟩ ?_
           refine t_guard rfl rfl ?_
           refine tp rfl (lv_neb Try.underlying4 rfl rfl rfl) ?_
           exact d_closes ⟨look_row rfl 41 rfl s41, look_row rfl 42 rfl s42, look_row rfl 48 rfl s48, trivial⟩ 49 rfl rfl rfl hS (AgreeR.refl _) (t_sat (fun _ h => h) (hK () trivial))
          · -- 50
           rintro _ S hF hS D hp K hK
           try dsimp only at hF ⊢
           have s41 := hp 41 rfl
           have s49 := hp 49 rfl
           refine d_need (small := [(177, (.bool false)), (185, (.bool false))]) ⟨look_row rfl 41 rfl s41, look_row rfl 49 rfl s49, trivial⟩ ?_
           refine tp rfl (lv_pick_f rfl rfl) ?_
           exact d_closes ⟨look_row rfl 41 rfl s41, look_row rfl 49 rfl s49, trivial⟩ 50 rfl rfl rfl hS (AgreeR.refl _) (t_sat (fun _ h => h) (hK () trivial))
          · -- 51
           rintro _ S hF hS D hp K hK
           try dsimp only at hF ⊢
           have s50 := hp 50 rfl
           refine d_need (small := [(186, (.bool false))]) ⟨look_row rfl 50 rfl s50, trivial⟩ ?_
           refine tp rfl (lv_move rfl) ?_
           exact d_closes ⟨look_row rfl 50 rfl s50, trivial⟩ 51 rfl rfl rfl hS (AgreeR.refl _) (t_sat (fun _ h => h) (hK () trivial))
          · -- 52
           rintro _ S hF hS D hp K hK
           try dsimp only at hF ⊢
           have s51 := hp 51 rfl
           refine d_need (small := [(22, (.bool true)), (187, (.bool false))]) ⟨look_b rfl rfl, look_row rfl 51 rfl s51, trivial⟩ ?_
           refine t_guard rfl rfl ?_
           refine tp rfl (lv_move rfl) ?_
           exact d_closes ⟨look_b rfl rfl, look_row rfl 51 rfl s51, trivial⟩ 52 rfl rfl rfl hS (AgreeR.refl _) (t_sat (fun _ h => h) (hK () trivial))
          · -- 53
           rintro _ S hF hS D hp K hK
           try dsimp only at hF ⊢
           have s51 := hp 51 rfl
           have s52 := hp 52 rfl
           refine d_need (small := [(187, (.bool false)), (188, (.bool true))]) ⟨look_row rfl 51 rfl s51, look_row rfl 52 rfl s52, trivial⟩ ?_
           refine t_guard rfl rfl ?_
           refine tp rfl (lv_move rfl) ?_
           exact d_closes ⟨look_row rfl 51 rfl s51, look_row rfl 52 rfl s52, trivial⟩ 53 rfl rfl rfl hS (AgreeR.refl _) (t_sat (fun _ h => h) (hK () trivial))
          · -- 54
           rintro _ S hF hS D hp K hK
           try dsimp only at hF ⊢
           have s53 := hp 53 rfl
           refine d_need (small := [(21, (.int .i64 ((m2.getD a2 M3.z).id))), (189, (.bool true))]) ⟨look_b rfl rfl, look_row rfl 53 rfl s53, trivial⟩ ?_
           refine t_guard rfl rfl ?_
           refine tp rfl (lv_move rfl) ?_
           exact d_closes ⟨look_b rfl rfl, look_row rfl 53 rfl s53, trivial⟩ 54 rfl rfl rfl hS (AgreeR.refl _) (t_sat (fun _ h => h) (hK () trivial))
          · -- 55
           rintro _ S hF hS D hp K hK
           try dsimp only at hF ⊢
           have s53 := hp 53 rfl
           refine d_need (small := [(7, (.pointer (some ⟨p2, 0, none⟩))), (189, (.bool true))]) ⟨look_b rfl rfl, look_row rfl 53 rfl s53, trivial⟩ ?_
           refine t_guard rfl rfl ?_
           refine tp rfl (lv_move rfl) ?_
           exact d_closes ⟨look_b rfl rfl, look_row rfl 53 rfl s53, trivial⟩ 55 rfl rfl rfl hS (AgreeR.refl _) (t_sat (fun _ h => h) (hK () trivial))
          · -- 56
           rintro _ S hF hS D hp K hK
           try dsimp only at hF ⊢
           have s53 := hp 53 rfl
           have s55 := hp 55 rfl
           refine d_need (small := [(189, (.bool true)), (191, (.pointer (some ⟨p2, 0, none⟩)))]) ⟨look_row rfl 53 rfl s53, look_row rfl 55 rfl s55, trivial⟩ ?_
           refine t_guard rfl rfl ?_
           refine tp rfl (lv_nilCheck rfl) ?_
           exact d_closes ⟨look_row rfl 53 rfl s53, look_row rfl 55 rfl s55, trivial⟩ 56 rfl rfl rfl hS (AgreeR.refl _) (t_sat (fun _ h => h) (hK () trivial))
          · -- 57
           rintro _ S hF hS D hp K hK
           try dsimp only at hF ⊢
           have s53 := hp 53 rfl
           have s56 := hp 56 rfl
           refine d_need (small := [(189, (.bool true)), (192, (.pointer (some ⟨p2, 0, none⟩)))]) ⟨look_row rfl 53 rfl s53, look_row rfl 56 rfl s56, trivial⟩ ?_
           refine t_guard rfl rfl ?_
           refine tp rfl (lv_fieldAddr (o' := 1) Try.underlying57 rfl Try.sizeOf55 rfl rfl) ?_
           exact d_closes ⟨look_row rfl 53 rfl s53, look_row rfl 56 rfl s56, trivial⟩ 57 rfl rfl rfl hS (AgreeR.refl _) (t_sat (fun _ h => h) (hK () trivial))
          · -- 58
           rintro _ S hF hS D hp K hK
           try dsimp only at hF ⊢
           have s53 := hp 53 rfl
           have s57 := hp 57 rfl
           refine d_need (small := [(189, (.bool true)), (193, (.pointer (some ⟨p2, 1, none⟩)))]) ⟨look_row rfl 53 rfl s53, look_row rfl 57 rfl s57, trivial⟩ ?_
           refine t_guard rfl rfl ?_
           refine tp rfl (lv_load Try.isAgg55 rfl (gives_blk (.head _) rfl)) ?_
           exact d_closes ⟨look_row rfl 53 rfl s53, look_row rfl 57 rfl s57, trivial⟩ 58 rfl rfl rfl hS (AgreeR.refl _) (t_sat (fun _ h => h) (hK () trivial))
          · -- 59
           rintro _ S hF hS D hp K hK
           try dsimp only at hF ⊢
           have s53 := hp 53 rfl
           refine d_need (small := [(7, (.pointer (some ⟨p2, 0, none⟩))), (189, (.bool true))]) ⟨look_b rfl rfl, look_row rfl 53 rfl s53, trivial⟩ ?_
           refine t_guard rfl rfl ?_
           refine tp rfl (lv_move rfl) ?_
           exact d_closes ⟨look_b rfl rfl, look_row rfl 53 rfl s53, trivial⟩ 59 rfl rfl rfl hS (AgreeR.refl _) (t_sat (fun _ h => h) (hK () trivial))
          · -- 60
           rintro _ S hF hS D hp K hK
           try dsimp only at hF ⊢
           have s53 := hp 53 rfl
           have s59 := hp 59 rfl
           refine d_need (small := [(189, (.bool true)), (195, (.pointer (some ⟨p2, 0, none⟩)))]) ⟨look_row rfl 53 rfl s53, look_row rfl 59 rfl s59, trivial⟩ ?_
           refine t_guard rfl rfl ?_
           refine tp rfl (lv_nilCheck rfl) ?_
           exact d_closes ⟨look_row rfl 53 rfl s53, look_row rfl 59 rfl s59, trivial⟩ 60 rfl rfl rfl hS (AgreeR.refl _) (t_sat (fun _ h => h) (hK () trivial))
          · -- 61
           rintro _ S hF hS D hp K hK
           try dsimp only at hF ⊢
           have s53 := hp 53 rfl
           have s60 := hp 60 rfl
           refine d_need (small := [(189, (.bool true)), (196, (.pointer (some ⟨p2, 0, none⟩)))]) ⟨look_row rfl 53 rfl s53, look_row rfl 60 rfl s60, trivial⟩ ?_
           refine t_guard rfl rfl ?_
           refine tp rfl (lv_fieldAddr (o' := 2) Try.underlying57 rfl Try.sizeOf3 rfl rfl) ?_
           exact d_closes ⟨look_row rfl 53 rfl s53, look_row rfl 60 rfl s60, trivial⟩ 61 rfl rfl rfl hS (AgreeR.refl _) (t_sat (fun _ h => h) (hK () trivial))
          · -- 62
           rintro _ S hF hS D hp K hK
           try dsimp only at hF ⊢
           have s53 := hp 53 rfl
           have s61 := hp 61 rfl
           refine d_need (small := [(189, (.bool true)), (197, (.pointer (some ⟨p2, 2, none⟩)))]) ⟨look_row rfl 53 rfl s53, look_row rfl 61 rfl s61, trivial⟩ ?_
           refine t_guard rfl rfl ?_
           refine tp rfl (lv_load Try.isAgg3 rfl (gives_blk (.head _) rfl)) ?_
           exact d_closes ⟨look_row rfl 53 rfl s53, look_row rfl 61 rfl s61, trivial⟩ 62 rfl rfl rfl hS (AgreeR.refl _) (t_sat (fun _ h => h) (hK () trivial))
          · -- 63
           rintro _ S hF hS D hp K hK
           try dsimp only at hF ⊢
           have s53 := hp 53 rfl
           have s58 := hp 58 rfl
           have s62 := hp 62 rfl
           refine d_need (small := [(189, (.bool true)), (194, (.slice bs5 m2.length cp6)), (198, (.int .i64 ((a2 : Nat) : Int)))]) ⟨look_row rfl 53 rfl s53, look_row rfl 58 rfl s58, look_row rfl 62 rfl s62, trivial⟩ ?_
           refine t_guard rfl rfl ?_
           refine tp rfl (lv_indexAddr (k' := a2 * 3) Try.underlying55 Try.sizeOf59 rfl rfl hok7 (by omega) (by omega) (by omega)) ?_
           exact d_closes ⟨look_row rfl 53 rfl s53, look_row rfl 58 rfl s58, look_row rfl 62 rfl s62, trivial⟩ 63 rfl rfl rfl hS (AgreeR.refl _) (t_sat (fun _ h => h) (hK () trivial))
          · -- 64
           rintro _ S hF hS D hp K hK
           try dsimp only at hF ⊢
           have s53 := hp 53 rfl
           have s63 := hp 63 rfl
           refine d_need (small := [(189, (.bool true)), (199, (.pointer (some (ad bs5 (a2 * 3)))))]) ⟨look_row rfl 53 rfl s53, look_row rfl 63 rfl s63, trivial⟩ ?_
           refine t_guard rfl rfl ?_
           refine tp rfl (lv_fieldAddr_ad (o' := a2 * 3) Try.underlying59 rfl Try.sizeOf3 rfl rfl) ?_
           exact d_closes ⟨look_row rfl 53 rfl s53, look_row rfl 63 rfl s63, trivial⟩ 64 rfl rfl rfl hS (AgreeR.refl _) (t_sat (fun _ h => h) (hK () trivial))
          · -- 65
           rintro _ S hF hS D hp K hK
           try dsimp only at hF ⊢
           have s53 := hp 53 rfl
           have s64 := hp 64 rfl
           refine d_need (small := [(189, (.bool true)), (200, (.pointer (some (ad bs5 (a2 * 3)))))]) ⟨look_row rfl 53 rfl s53, look_row rfl 64 rfl s64, trivial⟩ ?_
           refine t_guard rfl rfl ?_
           refine tp rfl (lv_load Try.isAgg3 rfl (gives_sl (.tail _ (.head _)) ((recs_get (k := a2) (j := 0) m3F_len (d := M3.z) (by omega) (Nat.le_of_ble_eq_true rfl)).trans rfl))) ?_
           exact d_closes ⟨look_row rfl 53 rfl s53, look_row rfl 64 rfl s64, trivial⟩ 65 rfl rfl rfl hS (AgreeR.refl _) (t_sat (fun _ h => h) (hK () trivial))
          · -- 66
           rintro _ S hF hS D hp K hK
           try dsimp only at hF ⊢
           have s53 := hp 53 rfl
           have s54 := hp 54 rfl
           have s65 := hp 65 rfl
           refine d_need (small := [(189, (.bool true)), (190, (.int .i64 ((m2.getD a2 M3.z).id))), (201, (.int .i64 ((m2.getD a2 M3.z).id)))]) ⟨look_row rfl 53 rfl s53, look_row rfl 54 rfl s54, look_row rfl 65 rfl s65, trivial⟩ ?_
           refine t_guard rfl rfl ?_
           refine tp rfl (lv_neq rfl rfl (bne_eq_false_iff_eq.2 rfl)) ?_
           exact d_closes ⟨look_row rfl 53 rfl s53, look_row rfl 54 rfl s54, look_row rfl 65 rfl s65, trivial⟩ 66 rfl rfl rfl hS (AgreeR.refl _) (t_sat (fun _ h => h) (hK () trivial))
          · -- 67
           rintro _ S hF hS D hp K hK
           try dsimp only at hF ⊢
           have s51 := hp 51 rfl
           have s53 := hp 53 rfl
           have s66 := hp 66 rfl
           refine d_need (small := [(187, (.bool false)), (189, (.bool true)), (202, (.bool false))]) ⟨look_row rfl 51 rfl s51, look_row rfl 53 rfl s53, look_row rfl 66 rfl s66, trivial⟩ ?_
           refine t_guard rfl rfl ?_
           refine tp rfl (lv_pick_t rfl rfl) ?_
           exact d_closes ⟨look_row rfl 51 rfl s51, look_row rfl 53 rfl s53, look_row rfl 66 rfl s66, trivial⟩ 67 rfl rfl rfl hS (AgreeR.refl _) (t_sat (fun _ h => h) (hK () trivial))
          · -- 68
           rintro _ S hF hS D hp K hK
           try dsimp only at hF ⊢
           have s51 := hp 51 rfl
           have s67 := hp 67 rfl
           refine d_need (small := [(187, (.bool false)), (203, (.bool false))]) ⟨look_row rfl 51 rfl s51, look_row rfl 67 rfl s67, trivial⟩ ?_
           refine tp rfl (lv_pick_f rfl rfl) ?_
           exact d_closes ⟨look_row rfl 51 rfl s51, look_row rfl 67 rfl s67, trivial⟩ 68 rfl rfl rfl hS (AgreeR.refl _) (t_sat (fun _ h => h) (hK () trivial))
         · -- behind
          rintro _ hF
          try dsimp only at hF ⊢
          refine t_weak (E' := [(0, (.int .i64 n)), (1, (.slice bl l.length cl)), (5, (.bool true)), (6, (.pointer (some ⟨p1, 0, none⟩))), (7, (.pointer (some ⟨p2, 0, none⟩))), (8, (.int .i64 ((i : Nat) : Int))), (9, (.pointer (some ⟨b4, 0, none⟩))), (10, (.bool true)), (18, (.int .i64 0)), (19, (.bool false)), (20, (.int .i64 (placeM m2 ((l.getD i St4.d).id)))), (21, (.int .i64 ((m2.getD a2 M3.z).id))), (22, (.bool true)), (29, (.bool false)), (37, (.bool true)), (204, (.bool false))]) ⟨rfl, rfl, rfl, rfl, rfl, rfl, rfl, rfl, rfl, rfl, rfl, rfl, rfl, rfl, rfl, rfl, trivial⟩ ?_
          refine q_then_n (hK19 _ _ ?_)
          refine c_false rfl ?_
          refine c_skip ?_
          refine q_in_n ?_
          refine q_then_n (hK12 _ _ ?_)
          refine c_region ?_
          refine t_f1 ?_
          refine t_f1 ?_
          refine t_shutRT rfl rfl hok7 hle8 ?_
          refine tp rfl (lv_move rfl) ?_
          refine tp rfl (lv_add (c := ((i + 1 : Nat) : Int)) rfl rfl (wr_i64_succ (by omega))) ?_
          refine tp rfl (lv_assign rfl) ?_
          refine t_done ?_
          refine q_then_n ?_
          refine t_f2 ?_
          refine t_drop ?_
          exact t_weak (by exact ⟨rfl, rfl, rfl, rfl, rfl, rfl, rfl, trivial⟩) ((hK9 (i + 1, m2, a2) ⟨by omega, by omega, hml2⟩ (by dsimp only; omega)))
        · -- false
         rw [show decide (m2.length ≠ 0) = false from decide_eq_false hne]
         refine c_draw (γ := Unit) (n := 69) Try.mixed rfl rfl (fun _ S => True) (fun _ => [(0, 136, (.bool true)), (1, 137, (.bool false)), (2, 138, (.bool false)), (3, 139, (.pointer (some ⟨p1, 0, none⟩))), (4, 140, (.int .i64 ((m2.length : Nat) : Int))), (5, 141, (.pointer (some ⟨p2, 0, none⟩))), (6, 142, (.pointer (some ⟨p2, 0, none⟩))), (7, 143, (.pointer (some ⟨p2, 1, none⟩))), (8, 144, (.slice bs5 m2.length cp6)), (9, 145, (.int .i64 ((m2.length : Nat) : Int))), (10, 146, (.bool false)), (11, 147, (.bool false)), (12, 148, (.bool false)), (13, 149, (.bool false)), (14, 150, (.int .i64 (placeM m2 ((l.getD i St4.d).id)))), (15, 151, (.bool false)), (16, 152, (.bool false)), (17, 153, (.bool false)), (18, 154, (.bool false)), (19, 155, (.bool false)), (20, 156, (.bool false)), (21, 157, undef), (22, 158, undef), (23, 159, undef), (24, 160, undef), (25, 161, undef), (26, 162, undef), (27, 163, undef), (28, 164, undef), (29, 165, undef), (30, 166, undef), (31, 167, (.bool false)), (32, 168, (.bool false)), (33, 169, (.bool false)), (34, 170, (.bool false)), (35, 171, (.bool true)), (36, 172, (.bool true)), (37, 173, (.int .i64 0)), (38, 174, (.bool false)), (39, 175, (.bool false)), (40, 176, (.bool false)), (41, 177, (.bool false)), (42, 178, (.bool false)), (43, 179, (.pointer (some ⟨p2, 0, none⟩))), (44, 180, (.pointer (some ⟨p2, 0, none⟩))), (45, 181, (.pointer (some ⟨p2, 1, none⟩))), (46, 182, (.slice bs5 m2.length cp6)), (47, 183, (.int .i64 ((m2.length : Nat) : Int))), (48, 184, (.bool false)), (49, 185, (.bool false)), (50, 186, (.bool false)), (51, 187, (.bool false)), (52, 188, (.bool false)), (53, 189, (.bool false)), (54, 190, undef), (55, 191, undef), (56, 192, undef), (57, 193, undef), (58, 194, undef), (59, 195, undef), (60, 196, undef), (61, 197, undef), (62, 198, undef), (63, 199, undef), (64, 200, undef), (65, 201, undef), (66, 202, undef), (67, 203, (.bool false)), (68, 204, (.bool false))]) (fun _ S => (Blk p2 [(.int .i64 q), (.slice bs5 m2.length cp6), (.int .i64 ((a2 : Nat) : Int))] 57) :: (SlV 59 3 (.slice bs5 m2.length cp6) m2.length (recs m3F m2)) :: (TurnsO p1 q m2 a2) :: (Blk b4 [(.int .i64 ((l.getD i St4.d).kd)), (.int .i64 ((l.getD i St4.d).id)), (.int .i64 ((l.getD i St4.d).w)), (.slice bw ((l.getD i St4.d).ws.length) cw)] 41) :: R) (()) trivial (fun _ h => h) (fun _ _ h => h) ?_ ?_
         · -- steps
          refine ⟨?_, ?_, ?_, ?_, ?_, ?_, ?_, ?_, ?_, ?_, ?_, ?_, ?_, ?_, ?_, ?_, ?_, ?_, ?_, ?_, ?_, ?_, ?_, ?_, ?_, ?_, ?_, ?_, ?_, ?_, ?_, ?_, ?_, ?_, ?_, ?_, ?_, ?_, ?_, ?_, ?_, ?_, ?_, ?_, ?_, ?_, ?_, ?_, ?_, ?_, ?_, ?_, ?_, ?_, ?_, ?_, ?_, ?_, ?_, ?_, ?_, ?_, ?_, ?_, ?_, ?_, ?_, ?_, ?_, trivial⟩
          · -- 0
           rintro _ S hF hS D hp K hK
           try dsimp only at hF ⊢
           refine d_need (small := [(10, (.bool true))]) ⟨look_b rfl rfl, trivial⟩ ?_
           refine tp rfl (lv_move rfl) ?_
           exact d_closes ⟨look_b rfl rfl, trivial⟩ 0 rfl rfl rfl hS (AgreeR.refl _) (t_sat (fun _ h => h) (hK () trivial))
          · -- 1
           rintro _ S hF hS D hp K hK
           try dsimp only at hF ⊢
           have s0 := hp 0 rfl
           refine d_need (small := [(136, (.bool true))]) ⟨look_row rfl 0 rfl s0, trivial⟩ ?_
           refine tp rfl (lv_not (c := false) rfl rfl) ?_
           exact d_closes ⟨look_row rfl 0 rfl s0, trivial⟩ 1 rfl rfl rfl hS (AgreeR.refl _) (t_sat (fun _ h => h) (hK () trivial))
          · -- 2
           rintro _ S hF hS D hp K hK
           try dsimp only at hF ⊢
           have s1 := hp 1 rfl
           refine d_need (small := [(137, (.bool false))]) ⟨look_row rfl 1 rfl s1, trivial⟩ ?_
           refine tp rfl (lv_move rfl) ?_
           exact d_closes ⟨look_row rfl 1 rfl s1, trivial⟩ 2 rfl rfl rfl hS (AgreeR.refl _) (t_sat (fun _ h => h) (hK () trivial))
          · -- 3
           rintro _ S hF hS D hp K hK
           try dsimp only at hF ⊢
           have s2 := hp 2 rfl
           refine d_need (small := [(6, (.pointer (some ⟨p1, 0, none⟩))), (138, (.bool false))]) ⟨look_b rfl rfl, look_row rfl 2 rfl s2, trivial⟩ ?_
           refine t_guard rfl rfl ?_
           refine tp rfl (lv_move rfl) ?_
           exact d_closes ⟨look_b rfl rfl, look_row rfl 2 rfl s2, trivial⟩ 3 rfl rfl rfl hS (AgreeR.refl _) (t_sat (fun _ h => h) (hK () trivial))
          · -- 4
           rintro _ S hF hS D hp K hK
           try dsimp only at hF ⊢
           have s2 := hp 2 rfl
           have s3 := hp 3 rfl
           refine d_need (small := [(138, (.bool false)), (139, (.pointer (some ⟨p1, 0, none⟩)))]) ⟨look_row rfl 2 rfl s2, look_row rfl 3 rfl s3, trivial⟩ ?_
           refine t_guard rfl rfl ?_
           refine t_f2 ?_
           refine tc rfl (en_fn Try.call23 rfl) (tlen_ok (q := q) (ms := m2) (a := a2) (by omega)) ?_
           rintro _ _ ⟨rfl, rfl⟩
           refine t_f2 ?_
           refine t_f2 ?_
           exact d_closes ⟨look_row rfl 2 rfl s2, look_row rfl 3 rfl s3, trivial⟩ 4 rfl rfl rfl hS (AgreeR.refl _) (t_sat (fun _ h => h) (hK () trivial))
          · -- 5
           rintro _ S hF hS D hp K hK
           try dsimp only at hF ⊢
           have s2 := hp 2 rfl
           refine d_need (small := [(7, (.pointer (some ⟨p2, 0, none⟩))), (138, (.bool false))]) ⟨look_b rfl rfl, look_row rfl 2 rfl s2, trivial⟩ ?_
           refine t_guard rfl rfl ?_
           refine tp rfl (lv_move rfl) ?_
           exact d_closes ⟨look_b rfl rfl, look_row rfl 2 rfl s2, trivial⟩ 5 rfl rfl rfl hS (AgreeR.refl _) (t_sat (fun _ h => h) (hK () trivial))
          · -- 6
           rintro _ S hF hS D hp K hK
           try dsimp only at hF ⊢
           have s2 := hp 2 rfl
           have s5 := hp 5 rfl
           refine d_need (small := [(138, (.bool false)), (141, (.pointer (some ⟨p2, 0, none⟩)))]) ⟨look_row rfl 2 rfl s2, look_row rfl 5 rfl s5, trivial⟩ ?_
           refine t_guard rfl rfl ?_
           refine tp rfl (lv_nilCheck rfl) ?_
           exact d_closes ⟨look_row rfl 2 rfl s2, look_row rfl 5 rfl s5, trivial⟩ 6 rfl rfl rfl hS (AgreeR.refl _) (t_sat (fun _ h => h) (hK () trivial))
          · -- 7
           rintro _ S hF hS D hp K hK
           try dsimp only at hF ⊢
           have s2 := hp 2 rfl
           have s6 := hp 6 rfl
           refine d_need (small := [(138, (.bool false)), (142, (.pointer (some ⟨p2, 0, none⟩)))]) ⟨look_row rfl 2 rfl s2, look_row rfl 6 rfl s6, trivial⟩ ?_
           refine t_guard rfl rfl ?_
           refine tp rfl (lv_fieldAddr (o' := 1) Try.underlying57 rfl Try.sizeOf55 rfl rfl) ?_
           exact d_closes ⟨look_row rfl 2 rfl s2, look_row rfl 6 rfl s6, trivial⟩ 7 rfl rfl rfl hS (AgreeR.refl _) (t_sat (fun _ h => h) (hK () trivial))
          · -- 8
           rintro _ S hF hS D hp K hK
           try dsimp only at hF ⊢
           have s2 := hp 2 rfl
           have s7 := hp 7 rfl
           refine d_need (small := [(138, (.bool false)), (143, (.pointer (some ⟨p2, 1, none⟩)))]) ⟨look_row rfl 2 rfl s2, look_row rfl 7 rfl s7, trivial⟩ ?_
           refine t_guard rfl rfl ?_
           refine tp rfl (lv_load Try.isAgg55 rfl (gives_blk (.head _) rfl)) ?_
           exact d_closes ⟨look_row rfl 2 rfl s2, look_row rfl 7 rfl s7, trivial⟩ 8 rfl rfl rfl hS (AgreeR.refl _) (t_sat (fun _ h => h) (hK () trivial))
          · -- 9
           rintro _ S hF hS D hp K hK
           try dsimp only at hF ⊢
           have s2 := hp 2 rfl
           have s8 := hp 8 rfl
           refine d_need (small := [(138, (.bool false)), (144, (.slice bs5 m2.length cp6))]) ⟨look_row rfl 2 rfl s2, look_row rfl 8 rfl s8, trivial⟩ ?_
           refine t_guard rfl rfl ?_
           refine tp rfl (lv_len Try.underlying55 rfl rfl) ?_
           exact d_closes ⟨look_row rfl 2 rfl s2, look_row rfl 8 rfl s8, trivial⟩ 9 rfl rfl rfl hS (AgreeR.refl _) (t_sat (fun _ h => h) (hK () trivial))
          · -- 10
           rintro _ S hF hS D hp K hK
           try dsimp only at hF ⊢
           have s2 := hp 2 rfl
           have s4 := hp 4 rfl
           have s9 := hp 9 rfl
           refine d_need (small := [(138, (.bool false)), (140, (.int .i64 ((m2.length : Nat) : Int))), (145, (.int .i64 ((m2.length : Nat) : Int)))]) ⟨look_row rfl 2 rfl s2, look_row rfl 4 rfl s4, look_row rfl 9 rfl s9, trivial⟩ ?_
           refine t_guard rfl rfl ?_
           refine tp rfl (lv_neq rfl rfl (bne_eq_false_iff_eq.2 rfl)) ?_
           exact d_closes ⟨look_row rfl 2 rfl s2, look_row rfl 4 rfl s4, look_row rfl 9 rfl s9, trivial⟩ 10 rfl rfl rfl hS (AgreeR.refl _) (t_sat (fun _ h => h) (hK () trivial))
          · -- 11
           rintro _ S hF hS D hp K hK
           try dsimp only at hF ⊢
           have s2 := hp 2 rfl
           have s10 := hp 10 rfl
           refine d_need (small := [(138, (.bool false)), (146, (.bool false))]) ⟨look_row rfl 2 rfl s2, look_row rfl 10 rfl s10, trivial⟩ ?_
           refine tp rfl (lv_pick_f rfl rfl) ?_
           exact d_closes ⟨look_row rfl 2 rfl s2, look_row rfl 10 rfl s10, trivial⟩ 11 rfl rfl rfl hS (AgreeR.refl _) (t_sat (fun _ h => h) (hK () trivial))
          · -- 12
           rintro _ S hF hS D hp K hK
           try dsimp only at hF ⊢
           have s11 := hp 11 rfl
           refine d_need (small := [(147, (.bool false))]) ⟨look_row rfl 11 rfl s11, trivial⟩ ?_
           refine tp rfl (lv_move rfl) ?_
           exact d_closes ⟨look_row rfl 11 rfl s11, trivial⟩ 12 rfl rfl rfl hS (AgreeR.refl _) (t_sat (fun _ h => h) (hK () trivial))
          · -- 13
           rintro _ S hF hS D hp K hK
           try dsimp only at hF ⊢
           have s12 := hp 12 rfl
           refine d_need (small := [(19, (.bool false)), (148, (.bool false))]) ⟨look_b rfl rfl, look_row rfl 12 rfl s12, trivial⟩ ?_
           refine t_guard rfl rfl ?_
           refine tp rfl (lv_move rfl) ?_
           exact d_closes ⟨look_b rfl rfl, look_row rfl 12 rfl s12, trivial⟩ 13 rfl rfl rfl hS (AgreeR.refl _) (t_sat (fun _ h => h) (hK () trivial))
          · -- 14
           rintro _ S hF hS D hp K hK
           try dsimp only at hF ⊢
           have s12 := hp 12 rfl
           refine d_need (small := [(20, (.int .i64 (placeM m2 ((l.getD i St4.d).id)))), (148, (.bool false))]) ⟨look_b rfl rfl, look_row rfl 12 rfl s12, trivial⟩ ?_
           refine t_guard rfl rfl ?_
           refine tp rfl (lv_move rfl) ?_
           exact d_closes ⟨look_b rfl rfl, look_row rfl 12 rfl s12, trivial⟩ 14 rfl rfl rfl hS (AgreeR.refl _) (t_sat (fun _ h => h) (hK () trivial))
          · -- 15
           rintro _ S hF hS D hp K hK
           try dsimp only at hF ⊢
           have s12 := hp 12 rfl
           have s14 := hp 14 rfl
           refine d_need (small := [(148, (.bool false)), (150, (.int .i64 (placeM m2 ((l.getD i St4.d).id))))]) ⟨look_row rfl 12 rfl s12, look_row rfl 14 rfl s14, trivial⟩ ?_
           refine t_guard rfl rfl ?_
           refine tp rfl (lv_geq rfl rfl (decide_eq_false (by omega))) ?_
           exact d_closes ⟨look_row rfl 12 rfl s12, look_row rfl 14 rfl s14, trivial⟩ 15 rfl rfl rfl hS (AgreeR.refl _) (t_sat (fun _ h => h) (hK () trivial))
          · -- 16
           rintro _ S hF hS D hp K hK
           try dsimp only at hF ⊢
           have s12 := hp 12 rfl
           have s13 := hp 13 rfl
           have s15 := hp 15 rfl
           refine d_need (small := [(148, (.bool false)), (149, (.bool false)), (151, (.bool false))]) ⟨look_row rfl 12 rfl s12, look_row rfl 13 rfl s13, look_row rfl 15 rfl s15, trivial⟩ ?_
           refine t_guard rfl rfl ?_
           refine tp rfl (lv_neb Try.underlying4 rfl rfl rfl) ?_
           exact d_closes ⟨look_row rfl 12 rfl s12, look_row rfl 13 rfl s13, look_row rfl 15 rfl s15, trivial⟩ 16 rfl rfl rfl hS (AgreeR.refl _) (t_sat (fun _ h => h) (hK () trivial))
          · -- 17
           rintro _ S hF hS D hp K hK
           try dsimp only at hF ⊢
           have s12 := hp 12 rfl
           have s16 := hp 16 rfl
           refine d_need (small := [(148, (.bool false)), (152, (.bool false))]) ⟨look_row rfl 12 rfl s12, look_row rfl 16 rfl s16, trivial⟩ ?_
           refine tp rfl (lv_pick_f rfl rfl) ?_
           exact d_closes ⟨look_row rfl 12 rfl s12, look_row rfl 16 rfl s16, trivial⟩ 17 rfl rfl rfl hS (AgreeR.refl _) (t_sat (fun _ h => h) (hK () trivial))
          · -- 18
           rintro _ S hF hS D hp K hK
           try dsimp only at hF ⊢
           have s17 := hp 17 rfl
           refine d_need (small := [(153, (.bool false))]) ⟨look_row rfl 17 rfl s17, trivial⟩ ?_
           refine tp rfl (lv_move rfl) ?_
           exact d_closes ⟨look_row rfl 17 rfl s17, trivial⟩ 18 rfl rfl rfl hS (AgreeR.refl _) (t_sat (fun _ h => h) (hK () trivial))
          · -- 19
           rintro _ S hF hS D hp K hK
           try dsimp only at hF ⊢
           have s18 := hp 18 rfl
           refine d_need (small := [(19, (.bool false)), (154, (.bool false))]) ⟨look_b rfl rfl, look_row rfl 18 rfl s18, trivial⟩ ?_
           refine t_guard rfl rfl ?_
           refine tp rfl (lv_move rfl) ?_
           exact d_closes ⟨look_b rfl rfl, look_row rfl 18 rfl s18, trivial⟩ 19 rfl rfl rfl hS (AgreeR.refl _) (t_sat (fun _ h => h) (hK () trivial))
          · -- 20
           rintro _ S hF hS D hp K hK
           try dsimp only at hF ⊢
           have s18 := hp 18 rfl
           have s19 := hp 19 rfl
           refine d_need (small := [(154, (.bool false)), (155, (.bool false))]) ⟨look_row rfl 18 rfl s18, look_row rfl 19 rfl s19, trivial⟩ ?_
           refine t_guard rfl rfl ?_
           refine tp rfl (lv_move rfl) ?_
           exact d_closes ⟨look_row rfl 18 rfl s18, look_row rfl 19 rfl s19, trivial⟩ 20 rfl rfl rfl hS (AgreeR.refl _) (t_sat (fun _ h => h) (hK () trivial))
          · -- 21
           rintro _ S hF hS D hp K hK
           try dsimp only at hF ⊢
           have s20 := hp 20 rfl
           refine d_need (small := [(18, (.int .i64 0)), (156, (.bool false))]) ⟨look_b rfl rfl, look_row rfl 20 rfl s20, trivial⟩ ?_
           refine t_skip rfl rfl rfl ?_
           exact d_closes ⟨look_b rfl rfl, look_row rfl 20 rfl s20, trivial⟩ 21 rfl rfl rfl hS (AgreeR.refl _) (t_sat (fun _ h => h) (hK () trivial))
          · -- 22
           rintro _ S hF hS D hp K hK
           try dsimp only at hF ⊢
           have s20 := hp 20 rfl
           refine d_need (small := [(7, (.pointer (some ⟨p2, 0, none⟩))), (156, (.bool false))]) ⟨look_b rfl rfl, look_row rfl 20 rfl s20, trivial⟩ ?_
           refine t_skip rfl rfl rfl ?_
           exact d_closes ⟨look_b rfl rfl, look_row rfl 20 rfl s20, trivial⟩ 22 rfl rfl rfl hS (AgreeR.refl _) (t_sat (fun _ h => h) (hK () trivial))
          · -- 23
           rintro _ S hF hS D hp K hK
           try dsimp only at hF ⊢
           have s20 := hp 20 rfl
           have s22 := hp 22 rfl
           refine d_need (small := [(156, (.bool false)), (158, undef)]) ⟨look_row rfl 20 rfl s20, look_row rfl 22 rfl s22, trivial⟩ ?_
           refine t_skip rfl rfl rfl ?_
           exact d_closes ⟨look_row rfl 20 rfl s20, look_row rfl 22 rfl s22, trivial⟩ 23 rfl rfl rfl hS (AgreeR.refl _) (t_sat (fun _ h => h) (hK () trivial))
          · -- 24
           rintro _ S hF hS D hp K hK
           try dsimp only at hF ⊢
           have s20 := hp 20 rfl
           have s23 := hp 23 rfl
           refine d_need (small := [(156, (.bool false)), (159, undef)]) ⟨look_row rfl 20 rfl s20, look_row rfl 23 rfl s23, trivial⟩ ?_
           refine t_skip rfl rfl rfl ?_
           exact d_closes ⟨look_row rfl 20 rfl s20, look_row rfl 23 rfl s23, trivial⟩ 24 rfl rfl rfl hS (AgreeR.refl _) (t_sat (fun _ h => h) (hK () trivial))
          · -- 25
           rintro _ S hF hS D hp K hK
           try dsimp only at hF ⊢
           have s20 := hp 20 rfl
           have s24 := hp 24 rfl
           refine d_need (small := [(156, (.bool false)), (160, undef)]) ⟨look_row rfl 20 rfl s20, look_row rfl 24 rfl s24, trivial⟩ ?_
           refine t_skip rfl rfl rfl ?_
           exact d_closes ⟨look_row rfl 20 rfl s20, look_row rfl 24 rfl s24, trivial⟩ 25 rfl rfl rfl hS (AgreeR.refl _) (t_sat (fun _ h => h) (hK () trivial))
          · -- 26
           rintro _ S hF hS D hp K hK
           try dsimp only at hF ⊢
           have s20 := hp 20 rfl
           refine d_need (small := [(20, (.int .i64 (placeM m2 ((l.getD i St4.d).id)))), (156, (.bool false))]) ⟨look_b rfl rfl, look_row rfl 20 rfl s20, trivial⟩ ?_
           refine t_skip rfl rfl rfl ?_
           exact d_closes ⟨look_b rfl rfl, look_row rfl 20 rfl s20, trivial⟩ 26 rfl rfl rfl hS (AgreeR.refl _) (t_sat (fun _ h => h) (hK () trivial))
          · -- 27
           rintro _ S hF hS D hp K hK
           try dsimp only at hF ⊢
           have s20 := hp 20 rfl
           have s25 := hp 25 rfl
           have s26 := hp 26 rfl
           refine d_need (small := [(156, (.bool false)), (161, undef), (162, undef)]) ⟨look_row rfl 20 rfl s20, look_row rfl 25 rfl s25, look_row rfl 26 rfl s26, trivial⟩ ?_
           refine t_skip rfl rfl rfl ?_
           exact d_closes ⟨look_row rfl 20 rfl s20, look_row rfl 25 rfl s25, look_row rfl 26 rfl s26, trivial⟩ 27 rfl rfl rfl hS (AgreeR.refl _) (t_sat (fun _ h => h) (hK () trivial))
          · -- 28
           rintro _ S hF hS D hp K hK
           try dsimp only at hF ⊢
           have s20 := hp 20 rfl
           have s27 := hp 27 rfl
           refine d_need (small := [(156, (.bool false)), (163, undef)]) ⟨look_row rfl 20 rfl s20, look_row rfl 27 rfl s27, trivial⟩ ?_
           refine t_skip rfl rfl rfl ?_
           exact d_closes ⟨look_row rfl 20 rfl s20, look_row rfl 27 rfl s27, trivial⟩ 28 rfl rfl rfl hS (AgreeR.refl _) (t_sat (fun _ h => h) (hK () trivial))
          · -- 29
           rintro _ S hF hS D hp K hK
           try dsimp only at hF ⊢
           have s20 := hp 20 rfl
           have s28 := hp 28 rfl
           refine d_need (small := [(156, (.bool false)), (164, undef)]) ⟨look_row rfl 20 rfl s20, look_row rfl 28 rfl s28, trivial⟩ ?_
           refine t_skip rfl rfl rfl ?_
           exact d_closes ⟨look_row rfl 20 rfl s20, look_row rfl 28 rfl s28, trivial⟩ 29 rfl rfl rfl hS (AgreeR.refl _) (t_sat (fun _ h => h) (hK () trivial))
          · -- 30
           rintro _ S hF hS D hp K hK
           try dsimp only at hF ⊢
           have s20 := hp 20 rfl
           have s21 := hp 21 rfl
           have s29 := hp 29 rfl
           refine d_need (small := [(156, (.bool false)), (157, undef), (165, undef)]) ⟨look_row rfl 20 rfl s20, look_row rfl 21 rfl s21, look_row rfl 29 rfl s29, trivial⟩ ?_
           refine t_skip rfl rfl rfl ?_
           exact d_closes ⟨look_row rfl 20 rfl s20, look_row rfl 21 rfl s21, look_row rfl 29 rfl s29, trivial⟩ 30 rfl rfl rfl hS (AgreeR.refl _) (t_sat (fun _ h => h) (hK () trivial))
          · -- 31
           rintro _ S hF hS D hp K hK
           try dsimp only at hF ⊢
           have s18 := hp 18 rfl
           have s20 := hp 20 rfl
           have s30 := hp 30 rfl
           refine d_need (small := [(154, (.bool false)), (156, (.bool false)), (166, undef)]) ⟨look_row rfl 18 rfl s18, look_row rfl 20 rfl s20, look_row rfl 30 rfl s30, trivial⟩ ?_
           refine t_guard rfl rfl ?_
           refine tp rfl (lv_pick_f rfl rfl) ?_
           exact d_closes ⟨look_row rfl 18 rfl s18, look_row rfl 20 rfl s20, look_row rfl 30 rfl s30, trivial⟩ 31 rfl rfl rfl hS (AgreeR.refl _) (t_sat (fun _ h => h) (hK () trivial))
          · -- 32
           rintro _ S hF hS D hp K hK
           try dsimp only at hF ⊢
           have s18 := hp 18 rfl
           have s31 := hp 31 rfl
           refine d_need (small := [(154, (.bool false)), (167, (.bool false))]) ⟨look_row rfl 18 rfl s18, look_row rfl 31 rfl s31, trivial⟩ ?_
           refine tp rfl (lv_pick_f rfl rfl) ?_
           exact d_closes ⟨look_row rfl 18 rfl s18, look_row rfl 31 rfl s31, trivial⟩ 32 rfl rfl rfl hS (AgreeR.refl _) (t_sat (fun _ h => h) (hK () trivial))
          · -- 33
           rintro _ S hF hS D hp K hK
           try dsimp only at hF ⊢
           have s32 := hp 32 rfl
           refine d_need (small := [(168, (.bool false))]) ⟨look_row rfl 32 rfl s32, trivial⟩ ?_
           refine tp rfl (lv_move rfl) ?_
           exact d_closes ⟨look_row rfl 32 rfl s32, trivial⟩ 33 rfl rfl rfl hS (AgreeR.refl _) (t_sat (fun _ h => h) (hK () trivial))
          · -- 34
           rintro _ S hF hS D hp K hK
           try dsimp only at hF ⊢
           have s33 := hp 33 rfl
           refine d_need (small := [(19, (.bool false)), (169, (.bool false))]) ⟨look_b rfl rfl, look_row rfl 33 rfl s33, trivial⟩ ?_
           refine t_guard rfl rfl ?_
           refine tp rfl (lv_move rfl) ?_
           exact d_closes ⟨look_b rfl rfl, look_row rfl 33 rfl s33, trivial⟩ 34 rfl rfl rfl hS (AgreeR.refl _) (t_sat (fun _ h => h) (hK () trivial))
          · -- 35
           rintro _ S hF hS D hp K hK
           try dsimp only at hF ⊢
           have s33 := hp 33 rfl
           have s34 := hp 34 rfl
           refine d_need (small := [(169, (.bool false)), (170, (.bool false))]) ⟨look_row rfl 33 rfl s33, look_row rfl 34 rfl s34, trivial⟩ ?_
           refine t_guard rfl rfl ?_
           refine tp rfl (lv_not (c := true) rfl rfl) ?_
           exact d_closes ⟨look_row rfl 33 rfl s33, look_row rfl 34 rfl s34, trivial⟩ 35 rfl rfl rfl hS (AgreeR.refl _) (t_sat (fun _ h => h) (hK () trivial))
          · -- 36
           rintro _ S hF hS D hp K hK
           try dsimp only at hF ⊢
           have s33 := hp 33 rfl
           have s35 := hp 35 rfl
           refine d_need (small := [(169, (.bool false)), (171, (.bool true))]) ⟨look_row rfl 33 rfl s33, look_row rfl 35 rfl s35, trivial⟩ ?_
           refine t_guard rfl rfl ?_
           refine tp rfl (lv_move rfl) ?_
           exact d_closes ⟨look_row rfl 33 rfl s33, look_row rfl 35 rfl s35, trivial⟩ 36 rfl rfl rfl hS (AgreeR.refl _) (t_sat (fun _ h => h) (hK () trivial))
          · -- 37
           rintro _ S hF hS D hp K hK
           try dsimp only at hF ⊢
           have s36 := hp 36 rfl
           refine d_need (small := [(18, (.int .i64 0)), (172, (.bool true))]) ⟨look_b rfl rfl, look_row rfl 36 rfl s36, trivial⟩ ?_
           refine t_guard rfl rfl ?_
           refine tp rfl (lv_move rfl) ?_
           exact d_closes ⟨look_b rfl rfl, look_row rfl 36 rfl s36, trivial⟩ 37 rfl rfl rfl hS (AgreeR.refl _) (t_sat (fun _ h => h) (hK () trivial))
          · -- 38
           rintro _ S hF hS D hp K hK
           try dsimp only at hF ⊢
           have s36 := hp 36 rfl
           have s37 := hp 37 rfl
           refine d_need (small := [(172, (.bool true)), (173, (.int .i64 0))]) ⟨look_row rfl 36 rfl s36, look_row rfl 37 rfl s37, trivial⟩ ?_
           refine t_guard rfl rfl ?_
           refine tp rfl (lv_neq (r := false) rfl rfl (by decide)) ?_
           exact d_closes ⟨look_row rfl 36 rfl s36, look_row rfl 37 rfl s37, trivial⟩ 38 rfl rfl rfl hS (AgreeR.refl _) (t_sat (fun _ h => h) (hK () trivial))
          · -- 39
           rintro _ S hF hS D hp K hK
           try dsimp only at hF ⊢
           have s33 := hp 33 rfl
           have s36 := hp 36 rfl
           have s38 := hp 38 rfl
           refine d_need (small := [(169, (.bool false)), (172, (.bool true)), (174, (.bool false))]) ⟨look_row rfl 33 rfl s33, look_row rfl 36 rfl s36, look_row rfl 38 rfl s38, trivial⟩ ?_
           refine t_guard rfl rfl ?_
           refine tp rfl (lv_pick_t rfl rfl) ?_
           exact d_closes ⟨look_row rfl 33 rfl s33, look_row rfl 36 rfl s36, look_row rfl 38 rfl s38, trivial⟩ 39 rfl rfl rfl hS (AgreeR.refl _) (t_sat (fun _ h => h) (hK () trivial))
          · -- 40
           rintro _ S hF hS D hp K hK
           try dsimp only at hF ⊢
           have s33 := hp 33 rfl
           have s39 := hp 39 rfl
           refine d_need (small := [(169, (.bool false)), (175, (.bool false))]) ⟨look_row rfl 33 rfl s33, look_row rfl 39 rfl s39, trivial⟩ ?_
           refine tp rfl (lv_pick_f rfl rfl) ?_
           exact d_closes ⟨look_row rfl 33 rfl s33, look_row rfl 39 rfl s39, trivial⟩ 40 rfl rfl rfl hS (AgreeR.refl _) (t_sat (fun _ h => h) (hK () trivial))
          · -- 41
           rintro _ S hF hS D hp K hK
           try dsimp only at hF ⊢
           have s40 := hp 40 rfl
           refine d_need (small := [(176, (.bool false))]) ⟨look_row rfl 40 rfl s40, trivial⟩ ?_
           refine tp rfl (lv_move rfl) ?_
           exact d_closes ⟨look_row rfl 40 rfl s40, trivial⟩ 41 rfl rfl rfl hS (AgreeR.refl _) (t_sat (fun _ h => h) (hK () trivial))
          · -- 42
           rintro _ S hF hS D hp K hK
           try dsimp only at hF ⊢
           have s41 := hp 41 rfl
           refine d_need (small := [(22, (.bool false)), (177, (.bool false))]) ⟨look_b rfl rfl, look_row rfl 41 rfl s41, trivial⟩ ?_
           refine t_guard rfl rfl ?_
           refine tp rfl (lv_move rfl) ?_
           exact d_closes ⟨look_b rfl rfl, look_row rfl 41 rfl s41, trivial⟩ 42 rfl rfl rfl hS (AgreeR.refl _) (t_sat (fun _ h => h) (hK () trivial))
          · -- 43
           rintro _ S hF hS D hp K hK
           try dsimp only at hF ⊢
           have s41 := hp 41 rfl
           refine d_need (small := [(7, (.pointer (some ⟨p2, 0, none⟩))), (177, (.bool false))]) ⟨look_b rfl rfl, look_row rfl 41 rfl s41, trivial⟩ ?_
           refine t_guard rfl rfl ?_
           refine tp rfl (lv_move rfl) ?_
           exact d_closes ⟨look_b rfl rfl, look_row rfl 41 rfl s41, trivial⟩ 43 rfl rfl rfl hS (AgreeR.refl _) (t_sat (fun _ h => h) (hK () trivial))
          · -- 44
           rintro _ S hF hS D hp K hK
           try dsimp only at hF ⊢
           have s41 := hp 41 rfl
           have s43 := hp 43 rfl
           refine d_need (small := [(177, (.bool false)), (179, (.pointer (some ⟨p2, 0, none⟩)))]) ⟨look_row rfl 41 rfl s41, look_row rfl 43 rfl s43, trivial⟩ ?_
           refine t_guard rfl rfl ?_
           refine tp rfl (lv_nilCheck rfl) ?_
           exact d_closes ⟨look_row rfl 41 rfl s41, look_row rfl 43 rfl s43, trivial⟩ 44 rfl rfl rfl hS (AgreeR.refl _) (t_sat (fun _ h => h) (hK () trivial))
          · -- 45
           rintro _ S hF hS D hp K hK
           try dsimp only at hF ⊢
           have s41 := hp 41 rfl
           have s44 := hp 44 rfl
           refine d_need (small := [(177, (.bool false)), (180, (.pointer (some ⟨p2, 0, none⟩)))]) ⟨look_row rfl 41 rfl s41, look_row rfl 44 rfl s44, trivial⟩ ?_
           refine t_guard rfl rfl ?_
           refine tp rfl (lv_fieldAddr (o' := 1) Try.underlying57 rfl Try.sizeOf55 rfl rfl) ?_
           exact d_closes ⟨look_row rfl 41 rfl s41, look_row rfl 44 rfl s44, trivial⟩ 45 rfl rfl rfl hS (AgreeR.refl _) (t_sat (fun _ h => h) (hK () trivial))
          · -- 46
           rintro _ S hF hS D hp K hK
           try dsimp only at hF ⊢
           have s41 := hp 41 rfl
           have s45 := hp 45 rfl
           refine d_need (small := [(177, (.bool false)), (181, (.pointer (some ⟨p2, 1, none⟩)))]) ⟨look_row rfl 41 rfl s41, look_row rfl 45 rfl s45, trivial⟩ ?_
           refine t_guard rfl rfl ?_
           refine tp rfl (lv_load Try.isAgg55 rfl (gives_blk (.head _) rfl)) ?_
           exact d_closes ⟨look_row rfl 41 rfl s41, look_row rfl 45 rfl s45, trivial⟩ 46 rfl rfl rfl hS (AgreeR.refl _) (t_sat (fun _ h => h) (hK () trivial))
          · -- 47
           rintro _ S hF hS D hp K hK
           try dsimp only at hF ⊢
           have s41 := hp 41 rfl
           have s46 := hp 46 rfl
           refine d_need (small := [(177, (.bool false)), (182, (.slice bs5 m2.length cp6))]) ⟨look_row rfl 41 rfl s41, look_row rfl 46 rfl s46, trivial⟩ ?_
           refine t_guard rfl rfl ?_
           refine tp rfl (lv_len Try.underlying55 rfl rfl) ?_
           exact d_closes ⟨look_row rfl 41 rfl s41, look_row rfl 46 rfl s46, trivial⟩ 47 rfl rfl rfl hS (AgreeR.refl _) (t_sat (fun _ h => h) (hK () trivial))
          · -- 48
           rintro _ S hF hS D hp K hK
           try dsimp only at hF ⊢
           have s41 := hp 41 rfl
           have s47 := hp 47 rfl
           refine d_need (small := [(177, (.bool false)), (183, (.int .i64 ((m2.length : Nat) : Int)))]) ⟨look_row rfl 41 rfl s41, look_row rfl 47 rfl s47, trivial⟩ ?_
           refine t_guard rfl rfl ?_
           refine tp rfl (lv_gtr rfl rfl (decide_eq_false (by omega))) ?_
           exact d_closes ⟨look_row rfl 41 rfl s41, look_row rfl 47 rfl s47, trivial⟩ 48 rfl rfl rfl hS (AgreeR.refl _) (t_sat (fun _ h => h) (hK () trivial))
          · -- 49
           rintro _ S hF hS D hp K hK
           try dsimp only at hF ⊢
           have s41 := hp 41 rfl
           have s42 := hp 42 rfl
           have s48 := hp 48 rfl
           refine d_need (small := [(177, (.bool false)), (178, (.bool false)), (184, (.bool false))]) ⟨look_row rfl 41 rfl s41, look_row rfl 42 rfl s42, look_row rfl 48 rfl s48, trivial⟩ ?_
           refine t_guard rfl rfl ?_
           refine tp rfl (lv_neb Try.underlying4 rfl rfl rfl) ?_
           exact d_closes ⟨look_row rfl 41 rfl s41, look_row rfl 42 rfl s42, look_row rfl 48 rfl s48, trivial⟩ 49 rfl rfl rfl hS (AgreeR.refl _) (t_sat (fun _ h => h) (hK () trivial))
          · -- 50
           rintro _ S hF hS D hp K hK
           try dsimp only at hF ⊢
           have s41 := hp 41 rfl
           have s49 := hp 49 rfl
           refine d_need (small := [(177, (.bool false)), (185, (.bool false))]) ⟨look_row rfl 41 rfl s41, look_row rfl 49 rfl s49, trivial⟩ ?_
           refine tp rfl (lv_pick_f rfl rfl) ?_
           exact d_closes ⟨look_row rfl 41 rfl s41, look_row rfl 49 rfl s49, trivial⟩ 50 rfl rfl rfl hS (AgreeR.refl _) (t_sat (fun _ h => h) (hK () trivial))
          · -- 51
           rintro _ S hF hS D hp K hK
           try dsimp only at hF ⊢
           have s50 := hp 50 rfl
           refine d_need (small := [(186, (.bool false))]) ⟨look_row rfl 50 rfl s50, trivial⟩ ?_
           refine tp rfl (lv_move rfl) ?_
           exact d_closes ⟨look_row rfl 50 rfl s50, trivial⟩ 51 rfl rfl rfl hS (AgreeR.refl _) (t_sat (fun _ h => h) (hK () trivial))
          · -- 52
           rintro _ S hF hS D hp K hK
           try dsimp only at hF ⊢
           have s51 := hp 51 rfl
           refine d_need (small := [(22, (.bool false)), (187, (.bool false))]) ⟨look_b rfl rfl, look_row rfl 51 rfl s51, trivial⟩ ?_
           refine t_guard rfl rfl ?_
           refine tp rfl (lv_move rfl) ?_
           exact d_closes ⟨look_b rfl rfl, look_row rfl 51 rfl s51, trivial⟩ 52 rfl rfl rfl hS (AgreeR.refl _) (t_sat (fun _ h => h) (hK () trivial))
          · -- 53
           rintro _ S hF hS D hp K hK
           try dsimp only at hF ⊢
           have s51 := hp 51 rfl
           have s52 := hp 52 rfl
           refine d_need (small := [(187, (.bool false)), (188, (.bool false))]) ⟨look_row rfl 51 rfl s51, look_row rfl 52 rfl s52, trivial⟩ ?_
           refine t_guard rfl rfl ?_
           refine tp rfl (lv_move rfl) ?_
           exact d_closes ⟨look_row rfl 51 rfl s51, look_row rfl 52 rfl s52, trivial⟩ 53 rfl rfl rfl hS (AgreeR.refl _) (t_sat (fun _ h => h) (hK () trivial))
          · -- 54
           rintro _ S hF hS D hp K hK
           try dsimp only at hF ⊢
           have s53 := hp 53 rfl
           refine d_need (small := [(21, (.int .i64 ((m2.getD a2 M3.z).id))), (189, (.bool false))]) ⟨look_b rfl rfl, look_row rfl 53 rfl s53, trivial⟩ ?_
           refine t_skip rfl rfl rfl ?_
           exact d_closes ⟨look_b rfl rfl, look_row rfl 53 rfl s53, trivial⟩ 54 rfl rfl rfl hS (AgreeR.refl _) (t_sat (fun _ h => h) (hK () trivial))
          · -- 55
           rintro _ S hF hS D hp K hK
           try dsimp only at hF ⊢
           have s53 := hp 53 rfl
           refine d_need (small := [(7, (.pointer (some ⟨p2, 0, none⟩))), (189, (.bool false))]) ⟨look_b rfl rfl, look_row rfl 53 rfl s53, trivial⟩ ?_
           refine t_skip rfl rfl rfl ?_
           exact d_closes ⟨look_b rfl rfl, look_row rfl 53 rfl s53, trivial⟩ 55 rfl rfl rfl hS (AgreeR.refl _) (t_sat (fun _ h => h) (hK () trivial))
          · -- 56
           rintro _ S hF hS D hp K hK
           try dsimp only at hF ⊢
           have s53 := hp 53 rfl
           have s55 := hp 55 rfl
           refine d_need (small := [(189, (.bool false)), (191, undef)]) ⟨look_row rfl 53 rfl s53, look_row rfl 55 rfl s55, trivial⟩ ?_
           refine t_skip rfl rfl rfl ?_
           exact d_closes ⟨look_row rfl 53 rfl s53, look_row rfl 55 rfl s55, trivial⟩ 56 rfl rfl rfl hS (AgreeR.refl _) (t_sat (fun _ h => h) (hK () trivial))
          · -- 57
           rintro _ S hF hS D hp K hK
           try dsimp only at hF ⊢
           have s53 := hp 53 rfl
           have s56 := hp 56 rfl
           refine d_need (small := [(189, (.bool false)), (192, undef)]) ⟨look_row rfl 53 rfl s53, look_row rfl 56 rfl s56, trivial⟩ ?_
           refine t_skip rfl rfl rfl ?_
           exact d_closes ⟨look_row rfl 53 rfl s53, look_row rfl 56 rfl s56, trivial⟩ 57 rfl rfl rfl hS (AgreeR.refl _) (t_sat (fun _ h => h) (hK () trivial))
          · -- 58
           rintro _ S hF hS D hp K hK
           try dsimp only at hF ⊢
           have s53 := hp 53 rfl
           have s57 := hp 57 rfl
           refine d_need (small := [(189, (.bool false)), (193, undef)]) ⟨look_row rfl 53 rfl s53, look_row rfl 57 rfl s57, trivial⟩ ?_
           refine t_skip rfl rfl rfl ?_
           exact d_closes ⟨look_row rfl 53 rfl s53, look_row rfl 57 rfl s57, trivial⟩ 58 rfl rfl rfl hS (AgreeR.refl _) (t_sat (fun _ h => h) (hK () trivial))
          · -- 59
           rintro _ S hF hS D hp K hK
           try dsimp only at hF ⊢
           have s53 := hp 53 rfl
           refine d_need (small := [(7, (.pointer (some ⟨p2, 0, none⟩))), (189, (.bool false))]) ⟨look_b rfl rfl, look_row rfl 53 rfl s53, trivial⟩ ?_
           refine t_skip rfl rfl rfl ?_
           exact d_closes ⟨look_b rfl rfl, look_row rfl 53 rfl s53, trivial⟩ 59 rfl rfl rfl hS (AgreeR.refl _) (t_sat (fun _ h => h) (hK () trivial))
          · -- 60
           rintro _ S hF hS D hp K hK
           try dsimp only at hF ⊢
           have s53 := hp 53 rfl
           have s59 := hp 59 rfl
           refine d_need (small := [(189, (.bool false)), (195, undef)]) ⟨look_row rfl 53 rfl s53, look_row rfl 59 rfl s59, trivial⟩ ?_
           refine t_skip rfl rfl rfl ?_
           exact d_closes ⟨look_row rfl 53 rfl s53, look_row rfl 59 rfl s59, trivial⟩ 60 rfl rfl rfl hS (AgreeR.refl _) (t_sat (fun _ h => h) (hK () trivial))
          · -- 61
           rintro _ S hF hS D hp K hK
           try dsimp only at hF ⊢
           have s53 := hp 53 rfl
           have s60 := hp 60 rfl
           refine d_need (small := [(189, (.bool false)), (196, undef)]) ⟨look_row rfl 53 rfl s53, look_row rfl 60 rfl s60, trivial⟩ ?_
           refine t_skip rfl rfl rfl ?_
           exact d_closes ⟨look_row rfl 53 rfl s53, look_row rfl 60 rfl s60, trivial⟩ 61 rfl rfl rfl hS (AgreeR.refl _) (t_sat (fun _ h => h) (hK () trivial))
          · -- 62
           rintro _ S hF hS D hp K hK
           try dsimp only at hF ⊢
           have s53 := hp 53 rfl
           have s61 := hp 61 rfl
           refine d_need (small := [(189, (.bool false)), (197, undef)]) ⟨look_row rfl 53 rfl s53, look_row rfl 61 rfl s61, trivial⟩ ?_
           refine t_skip rfl rfl rfl ?_
           exact d_closes ⟨look_row rfl 53 rfl s53, look_row rfl 61 rfl s61, trivial⟩ 62 rfl rfl rfl hS (AgreeR.refl _) (t_sat (fun _ h => h) (hK () trivial))
          · -- 63
           rintro _ S hF hS D hp K hK
           try dsimp only at hF ⊢
           have s53 := hp 53 rfl
           have s58 := hp 58 rfl
           have s62 := hp 62 rfl
           refine d_need (small := [(189, (.bool false)), (194, undef), (198, undef)]) ⟨look_row rfl 53 rfl s53, look_row rfl 58 rfl s58, look_row rfl 62 rfl s62, trivial⟩ ?_
           refine t_skip rfl rfl rfl ?_
           exact d_closes ⟨look_row rfl 53 rfl s53, look_row rfl 58 rfl s58, look_row rfl 62 rfl s62, trivial⟩ 63 rfl rfl rfl hS (AgreeR.refl _) (t_sat (fun _ h => h) (hK () trivial))
          · -- 64
           rintro _ S hF hS D hp K hK
           try dsimp only at hF ⊢
           have s53 := hp 53 rfl
           have s63 := hp 63 rfl
           refine d_need (small := [(189, (.bool false)), (199, undef)]) ⟨look_row rfl 53 rfl s53, look_row rfl 63 rfl s63, trivial⟩ ?_
           refine t_skip rfl rfl rfl ?_
           exact d_closes ⟨look_row rfl 53 rfl s53, look_row rfl 63 rfl s63, trivial⟩ 64 rfl rfl rfl hS (AgreeR.refl _) (t_sat (fun _ h => h) (hK () trivial))
          · -- 65
           rintro _ S hF hS D hp K hK
           try dsimp only at hF ⊢
           have s53 := hp 53 rfl
           have s64 := hp 64 rfl
           refine d_need (small := [(189, (.bool false)), (200, undef)]) ⟨look_row rfl 53 rfl s53, look_row rfl 64 rfl s64, trivial⟩ ?_
           refine t_skip rfl rfl rfl ?_
           exact d_closes ⟨look_row rfl 53 rfl s53, look_row rfl 64 rfl s64, trivial⟩ 65 rfl rfl rfl hS (AgreeR.refl _) (t_sat (fun _ h => h) (hK () trivial))
          · -- 66
           rintro _ S hF hS D hp K hK
           try dsimp only at hF ⊢
           have s53 := hp 53 rfl
           have s54 := hp 54 rfl
           have s65 := hp 65 rfl
           refine d_need (small := [(189, (.bool false)), (190, undef), (201, undef)]) ⟨look_row rfl 53 rfl s53, look_row rfl 54 rfl s54, look_row rfl 65 rfl s65, trivial⟩ ?_
           refine t_skip rfl rfl rfl ?_
           exact d_closes ⟨look_row rfl 53 rfl s53, look_row rfl 54 rfl s54, look_row rfl 65 rfl s65, trivial⟩ 66 rfl rfl rfl hS (AgreeR.refl _) (t_sat (fun _ h => h) (hK () trivial))
          · -- 67
           rintro _ S hF hS D hp K hK
           try dsimp only at hF ⊢
           have s51 := hp 51 rfl
           have s53 := hp 53 rfl
           have s66 := hp 66 rfl
           refine d_need (small := [(187, (.bool false)), (189, (.bool false)), (202, undef)]) ⟨look_row rfl 51 rfl s51, look_row rfl 53 rfl s53, look_row rfl 66 rfl s66, trivial⟩ ?_
           refine t_guard rfl rfl ?_
           refine tp rfl (lv_pick_f rfl rfl) ?_
           exact d_closes ⟨look_row rfl 51 rfl s51, look_row rfl 53 rfl s53, look_row rfl 66 rfl s66, trivial⟩ 67 rfl rfl rfl hS (AgreeR.refl _) (t_sat (fun _ h => h) (hK () trivial))
          · -- 68
           rintro _ S hF hS D hp K hK
           try dsimp only at hF ⊢
           have s51 := hp 51 rfl
           have s67 := hp 67 rfl
           refine d_need (small := [(187, (.bool false)), (203, (.bool false))]) ⟨look_row rfl 51 rfl s51, look_row rfl 67 rfl s67, trivial⟩ ?_
           refine tp rfl (lv_pick_f rfl rfl) ?_
           exact d_closes ⟨look_row rfl 51 rfl s51, look_row rfl 67 rfl s67, trivial⟩ 68 rfl rfl rfl hS (AgreeR.refl _) (t_sat (fun _ h => h) (hK () trivial))
         · -- behind
          rintro _ hF
          try dsimp only at hF ⊢
          refine t_weak (E' := [(0, (.int .i64 n)), (1, (.slice bl l.length cl)), (5, (.bool true)), (6, (.pointer (some ⟨p1, 0, none⟩))), (7, (.pointer (some ⟨p2, 0, none⟩))), (8, (.int .i64 ((i : Nat) : Int))), (9, (.pointer (some ⟨b4, 0, none⟩))), (10, (.bool true)), (18, (.int .i64 0)), (19, (.bool false)), (20, (.int .i64 (placeM m2 ((l.getD i St4.d).id)))), (21, (.int .i64 ((m2.getD a2 M3.z).id))), (22, (.bool false)), (29, (.bool false)), (37, (.bool true)), (204, (.bool false))]) ⟨rfl, rfl, rfl, rfl, rfl, rfl, rfl, rfl, rfl, rfl, rfl, rfl, rfl, rfl, rfl, rfl, trivial⟩ ?_
          refine q_then_n (hK19 _ _ ?_)
          refine c_false rfl ?_
          refine c_skip ?_
          refine q_in_n ?_
          refine q_then_n (hK12 _ _ ?_)
          refine c_region ?_
          refine t_f1 ?_
          refine t_f1 ?_
          refine t_shutRT rfl rfl hok7 hle8 ?_
          refine tp rfl (lv_move rfl) ?_
          refine tp rfl (lv_add (c := ((i + 1 : Nat) : Int)) rfl rfl (wr_i64_succ (by omega))) ?_
          refine tp rfl (lv_assign rfl) ?_
          refine t_done ?_
          refine q_then_n ?_
          refine t_f2 ?_
          refine t_drop ?_
          exact t_weak (by exact ⟨rfl, rfl, rfl, rfl, rfl, rfl, rfl, trivial⟩) ((hK9 (i + 1, m2, a2) ⟨by omega, by omega, hml2⟩ (by dsimp only; omega)))
    refine c_seq (fun K16 hK16 => ?_)
    refine c_region ?_
    refine tp rfl (lv_fieldAddr (o' := 0) Try.underlying41 rfl Try.sizeOf3 rfl rfl) ?_
    refine tp rfl (lv_load Try.isAgg3 rfl (gives_blk (.head _) rfl)) ?_
    refine t_done ?_
    refine q_then_n (hK16 _ _ ?_)
    refine c_block ?_
    refine c_seq (fun K17 hK17 => ?_)
    refine c_region ?_
    by_cases h9 : ((l.getD i St4.d).kd) = 0
    · -- yes
      refine tp rfl (lv_eql rfl rfl (beq_iff_eq.2 h9)) ?_
      refine tp rfl (lv_assign rfl) ?_
      refine t_done ?_
      refine q_then_n (hK17 _ _ ?_)
      refine c_true rfl ?_
      refine c_draw (γ := Unit) (n := 14) Try.mixed rfl rfl (fun _ S => True) (fun _ => [(0, 48, (.pointer (some ⟨p1, 0, none⟩))), (1, 49, (.pointer (some ⟨b4, 1, none⟩))), (2, 50, (.int .i64 ((l.getD i St4.d).id))), (3, 51, (.pointer (some ⟨b4, 2, none⟩))), (4, 52, (.int .i64 ((l.getD i St4.d).w))), (5, 53, (.int .i64 (joinEr ms ((l.getD i St4.d).id) ((l.getD i St4.d).w)))), (6, 54, (.pointer (some ⟨p2, 0, none⟩))), (7, 55, (.pointer (some ⟨b4, 1, none⟩))), (8, 56, (.int .i64 ((l.getD i St4.d).id))), (9, 57, (.pointer (some ⟨b4, 2, none⟩))), (10, 58, (.int .i64 ((l.getD i St4.d).w))), (11, 59, (.int .i64 (joinEr ms ((l.getD i St4.d).id) ((l.getD i St4.d).w)))), (12, 60, (.bool true)), (13, 10, (.bool true))]) (fun _ S => (Blk b4 [(.int .i64 ((l.getD i St4.d).kd)), (.int .i64 ((l.getD i St4.d).id)), (.int .i64 ((l.getD i St4.d).w)), (.slice bw ((l.getD i St4.d).ws.length) cw)] 41) :: (bif S 5 then (TurnsO p1 q (joinM ms ((l.getD i St4.d).id) ((l.getD i St4.d).w)) a) else (TurnsO p1 q ms a)) :: (bif S 11 then (RTurnsO p2 q (joinM ms ((l.getD i St4.d).id) ((l.getD i St4.d).w)) a) else (RTurnsO p2 q ms a)) :: R) (()) trivial (fun _ h => h) (fun _ _ h => h) ?_ ?_
      · -- steps
        refine ⟨?_, ?_, ?_, ?_, ?_, ?_, ?_, ?_, ?_, ?_, ?_, ?_, ?_, ?_, trivial⟩
        · -- 0
         rintro _ S hF hS D hp K hK
         try dsimp only at hF ⊢
         refine d_need (small := [(6, (.pointer (some ⟨p1, 0, none⟩)))]) ⟨look_b rfl rfl, trivial⟩ ?_
         refine tp rfl (lv_move rfl) ?_
         exact d_closes ⟨look_b rfl rfl, trivial⟩ 0 rfl rfl rfl hS (AgreeR.refl _) (t_sat (fun _ h => h) (hK () trivial))
        · -- 1
         rintro _ S hF hS D hp K hK
         try dsimp only at hF ⊢
         refine d_need (small := [(9, (.pointer (some ⟨b4, 0, none⟩)))]) ⟨look_b rfl rfl, trivial⟩ ?_
         refine tp rfl (lv_fieldAddr (o' := 1) Try.underlying41 rfl Try.sizeOf3 rfl rfl) ?_
         exact d_closes ⟨look_b rfl rfl, trivial⟩ 1 rfl rfl rfl hS (AgreeR.refl _) (t_sat (fun _ h => h) (hK () trivial))
        · -- 2
         rintro _ S hF hS D hp K hK
         try dsimp only at hF ⊢
         have s1 := hp 1 rfl
         refine d_need (small := [(49, (.pointer (some ⟨b4, 1, none⟩)))]) ⟨look_row rfl 1 rfl s1, trivial⟩ ?_
         refine tp rfl (lv_load Try.isAgg3 rfl (gives_blk (.head _) rfl)) ?_
         exact d_closes ⟨look_row rfl 1 rfl s1, trivial⟩ 2 rfl rfl rfl hS (AgreeR.refl _) (t_sat (fun _ h => h) (hK () trivial))
        · -- 3
         rintro _ S hF hS D hp K hK
         try dsimp only at hF ⊢
         refine d_need (small := [(9, (.pointer (some ⟨b4, 0, none⟩)))]) ⟨look_b rfl rfl, trivial⟩ ?_
         refine tp rfl (lv_fieldAddr (o' := 2) Try.underlying41 rfl Try.sizeOf3 rfl rfl) ?_
         exact d_closes ⟨look_b rfl rfl, trivial⟩ 3 rfl rfl rfl hS (AgreeR.refl _) (t_sat (fun _ h => h) (hK () trivial))
        · -- 4
         rintro _ S hF hS D hp K hK
         try dsimp only at hF ⊢
         have s3 := hp 3 rfl
         refine d_need (small := [(51, (.pointer (some ⟨b4, 2, none⟩)))]) ⟨look_row rfl 3 rfl s3, trivial⟩ ?_
         refine tp rfl (lv_load Try.isAgg3 rfl (gives_blk (.head _) rfl)) ?_
         exact d_closes ⟨look_row rfl 3 rfl s3, trivial⟩ 4 rfl rfl rfl hS (AgreeR.refl _) (t_sat (fun _ h => h) (hK () trivial))
        · -- 5
         rintro _ S hF hS D hp K hK
         try dsimp only at hF ⊢
         have s0 := hp 0 rfl
         have s2 := hp 2 rfl
         have s4 := hp 4 rfl
         refine d_need (small := [(48, (.pointer (some ⟨p1, 0, none⟩))), (50, (.int .i64 ((l.getD i St4.d).id))), (52, (.int .i64 ((l.getD i St4.d).w)))]) ⟨look_row rfl 0 rfl s0, look_row rfl 2 rfl s2, look_row rfl 4 rfl s4, trivial⟩ ?_
         refine t_f1 ?_
         refine t_cF hS ?_
         refine tc rfl (en_fn Try.call12 rfl) (tjoin_ok (q := q) (ms := ms) (a := a) ((l.getD i St4.d).id) ((l.getD i St4.d).w) (by omega)) ?_
         rintro _ _ ⟨rfl, rfl⟩
         refine t_f1 ?_
         exact d_closes ⟨look_row rfl 0 rfl s0, look_row rfl 2 rfl s2, look_row rfl 4 rfl s4, trivial⟩ 5 rfl rfl rfl hS (AgreeR.refl _) (t_sat (fun _ h => h) (hK () trivial))
        · -- 6
         rintro _ S hF hS D hp K hK
         try dsimp only at hF ⊢
         refine d_need (small := [(7, (.pointer (some ⟨p2, 0, none⟩)))]) ⟨look_b rfl rfl, trivial⟩ ?_
         refine tp rfl (lv_move rfl) ?_
         exact d_closes ⟨look_b rfl rfl, trivial⟩ 6 rfl rfl rfl hS (AgreeR.refl _) (t_sat (fun _ h => h) (hK () trivial))
        · -- 7
         rintro _ S hF hS D hp K hK
         try dsimp only at hF ⊢
         refine d_need (small := [(9, (.pointer (some ⟨b4, 0, none⟩)))]) ⟨look_b rfl rfl, trivial⟩ ?_
         refine tp rfl (lv_fieldAddr (o' := 1) Try.underlying41 rfl Try.sizeOf3 rfl rfl) ?_
         exact d_closes ⟨look_b rfl rfl, trivial⟩ 7 rfl rfl rfl hS (AgreeR.refl _) (t_sat (fun _ h => h) (hK () trivial))
        · -- 8
         rintro _ S hF hS D hp K hK
         try dsimp only at hF ⊢
         have s7 := hp 7 rfl
         refine d_need (small := [(55, (.pointer (some ⟨b4, 1, none⟩)))]) ⟨look_row rfl 7 rfl s7, trivial⟩ ?_
         refine tp rfl (lv_load Try.isAgg3 rfl (gives_blk (.head _) rfl)) ?_
         exact d_closes ⟨look_row rfl 7 rfl s7, trivial⟩ 8 rfl rfl rfl hS (AgreeR.refl _) (t_sat (fun _ h => h) (hK () trivial))
        · -- 9
         rintro _ S hF hS D hp K hK
         try dsimp only at hF ⊢
         refine d_need (small := [(9, (.pointer (some ⟨b4, 0, none⟩)))]) ⟨look_b rfl rfl, trivial⟩ ?_
         refine tp rfl (lv_fieldAddr (o' := 2) Try.underlying41 rfl Try.sizeOf3 rfl rfl) ?_
         exact d_closes ⟨look_b rfl rfl, trivial⟩ 9 rfl rfl rfl hS (AgreeR.refl _) (t_sat (fun _ h => h) (hK () trivial))
        · -- 10
         rintro _ S hF hS D hp K hK
         try dsimp only at hF ⊢
         have s9 := hp 9 rfl
         refine d_need (small := [(57, (.pointer (some ⟨b4, 2, none⟩)))]) ⟨look_row rfl 9 rfl s9, trivial⟩ ?_
         refine tp rfl (lv_load Try.isAgg3 rfl (gives_blk (.head _) rfl)) ?_
         exact d_closes ⟨look_row rfl 9 rfl s9, trivial⟩ 10 rfl rfl rfl hS (AgreeR.refl _) (t_sat (fun _ h => h) (hK () trivial))
        · -- 11
         rintro _ S hF hS D hp K hK
         try dsimp only at hF ⊢
         have s6 := hp 6 rfl
         have s8 := hp 8 rfl
         have s10 := hp 10 rfl
         refine d_need (small := [(54, (.pointer (some ⟨p2, 0, none⟩))), (56, (.int .i64 ((l.getD i St4.d).id))), (58, (.int .i64 ((l.getD i St4.d).w)))]) ⟨look_row rfl 6 rfl s6, look_row rfl 8 rfl s8, look_row rfl 10 rfl s10, trivial⟩ ?_
         refine t_f2 ?_
         refine t_cF hS ?_
         refine tc rfl (en_fn Try.call19 rfl) (rtjoin_ok (q := q) (ms := ms) (a := a) ((l.getD i St4.d).id) ((l.getD i St4.d).w) (by omega)) ?_
         rintro _ _ ⟨rfl, rfl⟩
         refine t_f2 ?_
         refine t_f2 ?_
         exact d_closes ⟨look_row rfl 6 rfl s6, look_row rfl 8 rfl s8, look_row rfl 10 rfl s10, trivial⟩ 11 rfl rfl rfl hS (AgreeR.refl _) (t_sat (fun _ h => h) (hK () trivial))
        · -- 12
         rintro _ S hF hS D hp K hK
         try dsimp only at hF ⊢
         have s5 := hp 5 rfl
         have s11 := hp 11 rfl
         refine d_need (small := [(53, (.int .i64 (joinEr ms ((l.getD i St4.d).id) ((l.getD i St4.d).w)))), (59, (.int .i64 (joinEr ms ((l.getD i St4.d).id) ((l.getD i St4.d).w))))]) ⟨look_row rfl 5 rfl s5, look_row rfl 11 rfl s11, trivial⟩ ?_
         refine tp rfl (lv_eql rfl rfl (beq_iff_eq.2 rfl)) ?_
         exact d_closes ⟨look_row rfl 5 rfl s5, look_row rfl 11 rfl s11, trivial⟩ 12 rfl rfl rfl hS (AgreeR.refl _) (t_sat (fun _ h => h) (hK () trivial))
        · -- 13
         rintro _ S hF hS D hp K hK
         try dsimp only at hF ⊢
         have s12 := hp 12 rfl
         refine d_need (small := [(60, (.bool true))]) ⟨look_row rfl 12 rfl s12, trivial⟩ ?_
         refine tp rfl (lv_assign rfl) ?_
         exact d_closes ⟨look_row rfl 12 rfl s12, trivial⟩ 13 rfl rfl rfl hS (AgreeR.refl _) (t_sat (fun _ h => h) (hK () trivial))
      · -- behind
        rintro _ hF
        try dsimp only at hF ⊢
        refine t_weak (E' := [(0, (.int .i64 n)), (1, (.slice bl l.length cl)), (5, (.bool true)), (6, (.pointer (some ⟨p1, 0, none⟩))), (7, (.pointer (some ⟨p2, 0, none⟩))), (8, (.int .i64 ((i : Nat) : Int))), (9, (.pointer (some ⟨b4, 0, none⟩))), (10, (.bool true)), (29, (.bool false)), (37, (.bool true)), (45, (.int .i64 ((l.getD i St4.d).kd))), (46, (.bool true))]) ⟨rfl, rfl, rfl, rfl, rfl, rfl, rfl, rfl, rfl, rfl, rfl, rfl, trivial⟩ ?_
        refine q_in_n ?_
        refine q_then_n ?_
        exact t_weak (by exact ⟨rfl, rfl, rfl, rfl, rfl, rfl, rfl, rfl, rfl, rfl, trivial⟩) (hM15 (joinM ms ((l.getD i St4.d).id) ((l.getD i St4.d).w)) a (by have := joinM_len ms (l.getD i St4.d).id (l.getD i St4.d).w; omega))
    · -- no
      refine tp rfl (lv_eql rfl rfl (beq_eq_false_iff_ne.2 h9)) ?_
      refine tp rfl (lv_assign rfl) ?_
      refine t_done ?_
      refine q_then_n (hK17 _ _ ?_)
      refine c_false rfl ?_
      refine c_seq (fun K18 hK18 => ?_)
      refine c_region ?_
      by_cases h10 : ((l.getD i St4.d).kd) = 1
      · -- yes
        refine tp rfl (lv_eql rfl rfl (beq_iff_eq.2 h10)) ?_
        refine tp rfl (lv_assign rfl) ?_
        refine t_done ?_
        refine q_then_n (hK18 _ _ ?_)
        refine c_true rfl ?_
        refine c_draw (γ := Unit) (n := 10) Try.mixed rfl rfl (fun _ S => True) (fun _ => [(0, 63, (.pointer (some ⟨p1, 0, none⟩))), (1, 64, (.pointer (some ⟨b4, 1, none⟩))), (2, 65, (.int .i64 ((l.getD i St4.d).id))), (3, 66, (.int .i64 (leaveEr ms ((l.getD i St4.d).id)))), (4, 67, (.pointer (some ⟨p2, 0, none⟩))), (5, 68, (.pointer (some ⟨b4, 1, none⟩))), (6, 69, (.int .i64 ((l.getD i St4.d).id))), (7, 70, (.int .i64 (leaveEr ms ((l.getD i St4.d).id)))), (8, 71, (.bool true)), (9, 10, (.bool true))]) (fun _ S => (Blk b4 [(.int .i64 ((l.getD i St4.d).kd)), (.int .i64 ((l.getD i St4.d).id)), (.int .i64 ((l.getD i St4.d).w)), (.slice bw ((l.getD i St4.d).ws.length) cw)] 41) :: (bif S 3 then (TurnsO p1 q (leaveM ms ((l.getD i St4.d).id)) (leaveA ms a ((l.getD i St4.d).id))) else (TurnsO p1 q ms a)) :: (bif S 7 then (RTurnsO p2 q (leaveM ms ((l.getD i St4.d).id)) (leaveA ms a ((l.getD i St4.d).id))) else (RTurnsO p2 q ms a)) :: R) (()) trivial (fun _ h => h) (fun _ _ h => h) ?_ ?_
        · -- steps
         refine ⟨?_, ?_, ?_, ?_, ?_, ?_, ?_, ?_, ?_, ?_, trivial⟩
         · -- 0
          rintro _ S hF hS D hp K hK
          try dsimp only at hF ⊢
          refine d_need (small := [(6, (.pointer (some ⟨p1, 0, none⟩)))]) ⟨look_b rfl rfl, trivial⟩ ?_
          refine tp rfl (lv_move rfl) ?_
          exact d_closes ⟨look_b rfl rfl, trivial⟩ 0 rfl rfl rfl hS (AgreeR.refl _) (t_sat (fun _ h => h) (hK () trivial))
         · -- 1
          rintro _ S hF hS D hp K hK
          try dsimp only at hF ⊢
          refine d_need (small := [(9, (.pointer (some ⟨b4, 0, none⟩)))]) ⟨look_b rfl rfl, trivial⟩ ?_
          refine tp rfl (lv_fieldAddr (o' := 1) Try.underlying41 rfl Try.sizeOf3 rfl rfl) ?_
          exact d_closes ⟨look_b rfl rfl, trivial⟩ 1 rfl rfl rfl hS (AgreeR.refl _) (t_sat (fun _ h => h) (hK () trivial))
         · -- 2
          rintro _ S hF hS D hp K hK
          try dsimp only at hF ⊢
          have s1 := hp 1 rfl
          refine d_need (small := [(64, (.pointer (some ⟨b4, 1, none⟩)))]) ⟨look_row rfl 1 rfl s1, trivial⟩ ?_
          refine tp rfl (lv_load Try.isAgg3 rfl (gives_blk (.head _) rfl)) ?_
          exact d_closes ⟨look_row rfl 1 rfl s1, trivial⟩ 2 rfl rfl rfl hS (AgreeR.refl _) (t_sat (fun _ h => h) (hK () trivial))
         · -- 3
          rintro _ S hF hS D hp K hK
          try dsimp only at hF ⊢
          have s0 := hp 0 rfl
          have s2 := hp 2 rfl
          refine d_need (small := [(63, (.pointer (some ⟨p1, 0, none⟩))), (65, (.int .i64 ((l.getD i St4.d).id)))]) ⟨look_row rfl 0 rfl s0, look_row rfl 2 rfl s2, trivial⟩ ?_
          refine t_f1 ?_
          refine t_cF hS ?_
          refine tc rfl (en_fn Try.call14 rfl) (tleave_ok (q := q) (ms := ms) (a := a) ((l.getD i St4.d).id) (by omega)) ?_
          rintro _ _ ⟨rfl, rfl⟩
          refine t_f1 ?_
          exact d_closes ⟨look_row rfl 0 rfl s0, look_row rfl 2 rfl s2, trivial⟩ 3 rfl rfl rfl hS (AgreeR.refl _) (t_sat (fun _ h => h) (hK () trivial))
         · -- 4
          rintro _ S hF hS D hp K hK
          try dsimp only at hF ⊢
          refine d_need (small := [(7, (.pointer (some ⟨p2, 0, none⟩)))]) ⟨look_b rfl rfl, trivial⟩ ?_
          refine tp rfl (lv_move rfl) ?_
          exact d_closes ⟨look_b rfl rfl, trivial⟩ 4 rfl rfl rfl hS (AgreeR.refl _) (t_sat (fun _ h => h) (hK () trivial))
         · -- 5
          rintro _ S hF hS D hp K hK
          try dsimp only at hF ⊢
          refine d_need (small := [(9, (.pointer (some ⟨b4, 0, none⟩)))]) ⟨look_b rfl rfl, trivial⟩ ?_
          refine tp rfl (lv_fieldAddr (o' := 1) Try.underlying41 rfl Try.sizeOf3 rfl rfl) ?_
          exact d_closes ⟨look_b rfl rfl, trivial⟩ 5 rfl rfl rfl hS (AgreeR.refl _) (t_sat (fun _ h => h) (hK () trivial))
         · -- 6
          rintro _ S hF hS D hp K hK
          try dsimp only at hF ⊢
          have s5 := hp 5 rfl
          refine d_need (small := [(68, (.pointer (some ⟨b4, 1, none⟩)))]) ⟨look_row rfl 5 rfl s5, trivial⟩ ?_
          refine tp rfl (lv_load Try.isAgg3 rfl (gives_blk (.head _) rfl)) ?_
          exact d_closes ⟨look_row rfl 5 rfl s5, trivial⟩ 6 rfl rfl rfl hS (AgreeR.refl _) (t_sat (fun _ h => h) (hK () trivial))
         · -- 7
          rintro _ S hF hS D hp K hK
          try dsimp only at hF ⊢
          have s4 := hp 4 rfl
          have s6 := hp 6 rfl
          refine d_need (small := [(67, (.pointer (some ⟨p2, 0, none⟩))), (69, (.int .i64 ((l.getD i St4.d).id)))]) ⟨look_row rfl 4 rfl s4, look_row rfl 6 rfl s6, trivial⟩ ?_
          refine t_f2 ?_
          refine t_cF hS ?_
          refine tc rfl (en_fn Try.call20 rfl) (rtleave_ok (q := q) (ms := ms) (a := a) ((l.getD i St4.d).id) (by omega) hal) ?_
          rintro _ _ ⟨rfl, rfl⟩
          refine t_f2 ?_
          refine t_f2 ?_
          exact d_closes ⟨look_row rfl 4 rfl s4, look_row rfl 6 rfl s6, trivial⟩ 7 rfl rfl rfl hS (AgreeR.refl _) (t_sat (fun _ h => h) (hK () trivial))
         · -- 8
          rintro _ S hF hS D hp K hK
          try dsimp only at hF ⊢
          have s3 := hp 3 rfl
          have s7 := hp 7 rfl
          refine d_need (small := [(66, (.int .i64 (leaveEr ms ((l.getD i St4.d).id)))), (70, (.int .i64 (leaveEr ms ((l.getD i St4.d).id))))]) ⟨look_row rfl 3 rfl s3, look_row rfl 7 rfl s7, trivial⟩ ?_
          refine tp rfl (lv_eql rfl rfl (beq_iff_eq.2 rfl)) ?_
          exact d_closes ⟨look_row rfl 3 rfl s3, look_row rfl 7 rfl s7, trivial⟩ 8 rfl rfl rfl hS (AgreeR.refl _) (t_sat (fun _ h => h) (hK () trivial))
         · -- 9
          rintro _ S hF hS D hp K hK
          try dsimp only at hF ⊢
          have s8 := hp 8 rfl
          refine d_need (small := [(71, (.bool true))]) ⟨look_row rfl 8 rfl s8, trivial⟩ ?_
          refine tp rfl (lv_assign rfl) ?_
          exact d_closes ⟨look_row rfl 8 rfl s8, trivial⟩ 9 rfl rfl rfl hS (AgreeR.refl _) (t_sat (fun _ h => h) (hK () trivial))
        · -- behind
         rintro _ hF
         try dsimp only at hF ⊢
         refine t_weak (E' := [(0, (.int .i64 n)), (1, (.slice bl l.length cl)), (5, (.bool true)), (6, (.pointer (some ⟨p1, 0, none⟩))), (7, (.pointer (some ⟨p2, 0, none⟩))), (8, (.int .i64 ((i : Nat) : Int))), (9, (.pointer (some ⟨b4, 0, none⟩))), (10, (.bool true)), (29, (.bool false)), (37, (.bool true)), (45, (.int .i64 ((l.getD i St4.d).kd))), (46, (.bool false)), (61, (.bool true))]) ⟨rfl, rfl, rfl, rfl, rfl, rfl, rfl, rfl, rfl, rfl, rfl, rfl, rfl, trivial⟩ ?_
         refine q_in_n ?_
         refine q_then_n ?_
         exact t_weak (by exact ⟨rfl, rfl, rfl, rfl, rfl, rfl, rfl, rfl, rfl, rfl, trivial⟩) (hM15 (leaveM ms ((l.getD i St4.d).id)) (leaveA ms a ((l.getD i St4.d).id)) (by have := leaveM_len ms (l.getD i St4.d).id; omega))
      · -- no
        refine tp rfl (lv_eql rfl rfl (beq_eq_false_iff_ne.2 h10)) ?_
        refine tp rfl (lv_assign rfl) ?_
        refine t_done ?_
        refine q_then_n (hK18 _ _ ?_)
        refine c_false rfl ?_
        refine c_seq (fun K19 hK19 => ?_)
        refine c_seq (fun K20 hK20 => ?_)
        refine c_region ?_
        by_cases h11 : ((l.getD i St4.d).kd) = 2
        · -- yes
         refine tp rfl (lv_eql rfl rfl (beq_iff_eq.2 h11)) ?_
         refine tp rfl (lv_assign rfl) ?_
         refine t_done ?_
         refine q_then_n (hK20 _ _ ?_)
         refine c_true rfl ?_
         refine c_skip ?_
         refine q_then_n (hK19 _ _ ?_)
         refine c_true rfl ?_
         refine c_seq (fun K21 hK21 => ?_)
         refine c_region ?_
         refine tp rfl (lv_fieldAddr (o' := 3) Try.underlying41 rfl Try.sizeOf29 rfl rfl) ?_
         refine tp rfl (lv_load Try.isAgg29 rfl (gives_blk (.head _) rfl)) ?_
         refine tc rfl (en_fn Try.call15 rfl) (few_ok ((l.getD i St4.d).ws) (Rd.cons (Rd.cons (Rd.cons hrw))) okw (by omega)) ?_
         rintro _ _ ⟨bs12, cp13, hok14, hle15, rfl, rfl⟩
         refine tp rfl (lv_assign rfl) ?_
         refine t_done ?_
         refine q_then_n (hK21 _ _ ?_)
         refine c_seq (fun K22 hK22 => ?_)
         refine c_region ?_
         refine tp rfl (lv_assign rfl) ?_
         refine t_done ?_
         refine q_then_n (hK22 _ _ ?_)
         refine c_seq (fun K23 hK23 => ?_)
         refine c_seq (fun K24 hK24 => ?_)
         refine c_region ?_
         refine tp rfl (lv_assign rfl) ?_
         refine t_done ?_
         refine q_then_n (hK24 _ _ ?_)
         refine c_block ?_
         refine t_sat (fun _ h => sat_nilsl 51 2 h) ?_
         have hfl := few_len (l.getD i St4.d).ws
         refine c_loop (γ := (Nat) × (Option Addr) × (Nat)) (fun (j, bq, cq) => j ≤ (fewL ((l.getD i St4.d).ws)).length ∧ SlOk bq j ∧ j ≤ cq) (fun (j, bq, cq) => [(0, (.int .i64 n)), (1, (.slice bl l.length cl)), (5, (.bool true)), (6, (.pointer (some ⟨p1, 0, none⟩))), (7, (.pointer (some ⟨p2, 0, none⟩))), (8, (.int .i64 ((i : Nat) : Int))), (9, (.pointer (some ⟨b4, 0, none⟩))), (10, (.bool true)), (11, (.slice bs12 ((fewL ((l.getD i St4.d).ws)).length) cp13)), (12, (.slice bq j cq)), (13, (.int .i64 ((j : Nat) : Int))), (29, (.bool false)), (37, (.bool true)), (45, (.int .i64 ((l.getD i St4.d).kd))), (46, (.bool false)), (61, (.bool false)), (72, (.bool true))]) (fun (j, bq, cq) => (SlV 51 2 (.slice bq j cq) j (pairs ((fewL ((l.getD i St4.d).ws)).take j))) :: (SlV 31 2 (.slice bs12 ((fewL ((l.getD i St4.d).ws)).length) cp13) ((fewL ((l.getD i St4.d).ws)).length) (pairs (fewL ((l.getD i St4.d).ws)))) :: (Blk b4 [(.int .i64 ((l.getD i St4.d).kd)), (.int .i64 ((l.getD i St4.d).id)), (.int .i64 ((l.getD i St4.d).w)), (.slice bw ((l.getD i St4.d).ws.length) cw)] 41) :: (TurnsO p1 q ms a) :: (RTurnsO p2 q ms a) :: R) (fun (j, bq, cq) => (fewL ((l.getD i St4.d).ws)).length - j) (0, none, 0) ⟨by omega, slok_none, Nat.le_refl _⟩ ⟨rfl, rfl, rfl, rfl, rfl, rfl, rfl, rfl, rfl, rfl, rfl, rfl, rfl, rfl, rfl, rfl, rfl, trivial⟩ (fun _ h => h) ?_
         rintro ⟨j, bq, cq⟩ K25 hF hK25
         try dsimp only at hF hK25 ⊢
         obtain ⟨hj, hbq, hcq⟩ := hF
         refine c_seq (fun K26 hK26 => ?_)
         refine c_seq (fun K27 hK27 => ?_)
         refine c_region ?_
         refine tp rfl (lv_move rfl) ?_
         refine tp rfl (lv_move rfl) ?_
         refine tp rfl (lv_len Try.underlying29 rfl rfl) ?_
         by_cases h16 : ((j : Nat) : Int) < (((fewL ((l.getD i St4.d).ws)).length : Nat) : Int)
         · -- yes
          refine tp rfl (lv_lss rfl rfl (decide_eq_true h16)) ?_
          refine t_done ?_
          refine q_then_n (hK27 _ _ ?_)
          refine c_true rfl ?_
          refine c_skip ?_
          refine q_then_n (hK26 _ _ ?_)
          refine c_seq (fun K28 hK28 => ?_)
          refine c_block ?_
          refine c_draw (γ := Option Addr × Nat × Option Addr × Nat) (n := 15) Try.mixed rfl rfl (fun (bs17, cp18, bs21, cp22) S => (S 12 = true → SlOk bs17 1) ∧ (S 12 = true → 1 ≤ cp18) ∧ (S 13 = true → SlOk bs21 (j + 1)) ∧ (S 13 = true → j + 1 ≤ cp22)) (fun (bs17, cp18, bs21, cp22) => [(0, 86, (.slice bq j cq)), (1, 87, (.slice bs12 ((fewL ((l.getD i St4.d).ws)).length) cp13)), (2, 88, (.int .i64 ((j : Nat) : Int))), (3, 89, (.pointer (some (ad bs12 (j * 2))))), (4, 90, (.pointer (some (ad bs12 (j * 2))))), (5, 91, (.int .i64 (((fewL ((l.getD i St4.d).ws)).getD j (0, 0)).1))), (6, 92, (.slice bs12 ((fewL ((l.getD i St4.d).ws)).length) cp13)), (7, 93, (.int .i64 ((j : Nat) : Int))), (8, 94, (.pointer (some (ad bs12 (j * 2))))), (9, 95, (.pointer (some (ad bs12 (j * 2 + 1))))), (10, 96, (.int .i64 (((fewL ((l.getD i St4.d).ws)).getD j (0, 0)).2))), (11, 97, (.agg #[(.int .i64 (((fewL ((l.getD i St4.d).ws)).getD j (0, 0)).1)), (.int .i64 (((fewL ((l.getD i St4.d).ws)).getD j (0, 0)).2))])), (12, 98, (.slice bs17 1 cp18)), (13, 99, (.slice bs21 (j + 1) cp22)), (14, 12, (.slice bs21 (j + 1) cp22))]) (fun (bs17, cp18, bs21, cp22) S => (bif S 13 then (SlV 51 2 (.slice bs21 (j + 1) cp22) (j + 1) (pairs (((fewL ((l.getD i St4.d).ws)).take j) ++ [(((fewL ((l.getD i St4.d).ws)).getD j (0, 0)).1, ((fewL ((l.getD i St4.d).ws)).getD j (0, 0)).2)]))) else (SlV 51 2 (.slice bq j cq) j (pairs ((fewL ((l.getD i St4.d).ws)).take j)))) :: (SlV 31 2 (.slice bs12 ((fewL ((l.getD i St4.d).ws)).length) cp13) ((fewL ((l.getD i St4.d).ws)).length) (pairs (fewL ((l.getD i St4.d).ws)))) :: (Blk b4 [(.int .i64 ((l.getD i St4.d).kd)), (.int .i64 ((l.getD i St4.d).id)), (.int .i64 ((l.getD i St4.d).w)), (.slice bw ((l.getD i St4.d).ws.length) cw)] 41) :: (TurnsO p1 q ms a) :: (RTurnsO p2 q ms a) :: (bif S 12 then (SlV 51 2 (.slice bs17 1 cp18) 1 [(.int .i64 (((fewL ((l.getD i St4.d).ws)).getD j (0, 0)).1)), (.int .i64 (((fewL ((l.getD i St4.d).ws)).getD j (0, 0)).2))]) else Emp) :: R) (none, 0, none, 0) (by simp [Nat.ble]) (fun _ h => sat_emps [_, _, _, _, _] 1 h) (fun _ _ h => h) ?_ ?_
          · -- steps
           refine ⟨?_, ?_, ?_, ?_, ?_, ?_, ?_, ?_, ?_, ?_, ?_, ?_, ?_, ?_, ?_, trivial⟩
           · -- 0
            rintro ⟨bs17, cp18, bs21, cp22⟩ S hF hS D hp K hK
            try dsimp only at hF ⊢
            obtain ⟨hf0, hf1, hf2, hf3⟩ := hF
            refine d_need (small := [(12, (.slice bq j cq))]) ⟨look_b1 14 (nf hS D (k := 14) (i := 0) rfl) rfl rfl, trivial⟩ ?_
            refine tp rfl (lv_move rfl) ?_
            exact d_closes ⟨look_b1 14 (nf hS D (k := 14) (i := 0) rfl) rfl rfl, trivial⟩ 0 rfl rfl rfl hS (AgreeR.refl _) (t_sat (fun _ h => h) (hK (bs17, cp18, bs21, cp22) ⟨hf0, hf1, hf2, hf3⟩))
           · -- 1
            rintro ⟨bs17, cp18, bs21, cp22⟩ S hF hS D hp K hK
            try dsimp only at hF ⊢
            obtain ⟨hf0, hf1, hf2, hf3⟩ := hF
            refine d_need (small := [(11, (.slice bs12 ((fewL ((l.getD i St4.d).ws)).length) cp13))]) ⟨look_b rfl rfl, trivial⟩ ?_
            refine tp rfl (lv_move rfl) ?_
            exact d_closes ⟨look_b rfl rfl, trivial⟩ 1 rfl rfl rfl hS (AgreeR.refl _) (t_sat (fun _ h => h) (hK (bs17, cp18, bs21, cp22) ⟨hf0, hf1, hf2, hf3⟩))
           · -- 2
            rintro ⟨bs17, cp18, bs21, cp22⟩ S hF hS D hp K hK
            try dsimp only at hF ⊢
            obtain ⟨hf0, hf1, hf2, hf3⟩ := hF
            refine d_need (small := [(13, (.int .i64 ((j : Nat) : Int)))]) ⟨look_b rfl rfl, trivial⟩ ?_
            refine tp rfl (lv_move rfl) ?_
            exact d_closes ⟨look_b rfl rfl, trivial⟩ 2 rfl rfl rfl hS (AgreeR.refl _) (t_sat (fun _ h => h) (hK (bs17, cp18, bs21, cp22) ⟨hf0, hf1, hf2, hf3⟩))
           · -- 3
            rintro ⟨bs17, cp18, bs21, cp22⟩ S hF hS D hp K hK
            try dsimp only at hF ⊢
            obtain ⟨hf0, hf1, hf2, hf3⟩ := hF
            have s1 := hp 1 rfl
            have s2 := hp 2 rfl
            refine d_need (small := [(87, (.slice bs12 ((fewL ((l.getD i St4.d).ws)).length) cp13)), (88, (.int .i64 ((j : Nat) : Int)))]) ⟨look_row rfl 1 rfl s1, look_row rfl 2 rfl s2, trivial⟩ ?_
            refine tp rfl (lv_indexAddr (k' := j * 2) Try.underlying29 Try.sizeOf31 rfl rfl hok14 (by omega) (by omega) (by omega)) ?_
            exact d_closes ⟨look_row rfl 1 rfl s1, look_row rfl 2 rfl s2, trivial⟩ 3 rfl rfl rfl hS (AgreeR.refl _) (t_sat (fun _ h => h) (hK (bs17, cp18, bs21, cp22) ⟨hf0, hf1, hf2, hf3⟩))
           · -- 4
            rintro ⟨bs17, cp18, bs21, cp22⟩ S hF hS D hp K hK
            try dsimp only at hF ⊢
            obtain ⟨hf0, hf1, hf2, hf3⟩ := hF
            have s3 := hp 3 rfl
            refine d_need (small := [(89, (.pointer (some (ad bs12 (j * 2)))))]) ⟨look_row rfl 3 rfl s3, trivial⟩ ?_
            refine tp rfl (lv_fieldAddr_ad (o' := j * 2) Try.underlying31 rfl Try.sizeOf3 rfl rfl) ?_
            exact d_closes ⟨look_row rfl 3 rfl s3, trivial⟩ 4 rfl rfl rfl hS (AgreeR.refl _) (t_sat (fun _ h => h) (hK (bs17, cp18, bs21, cp22) ⟨hf0, hf1, hf2, hf3⟩))
           · -- 5
            rintro ⟨bs17, cp18, bs21, cp22⟩ S hF hS D hp K hK
            try dsimp only at hF ⊢
            obtain ⟨hf0, hf1, hf2, hf3⟩ := hF
            have s4 := hp 4 rfl
            refine d_need (small := [(90, (.pointer (some (ad bs12 (j * 2)))))]) ⟨look_row rfl 4 rfl s4, trivial⟩ ?_
            refine tp rfl (lv_load Try.isAgg3 rfl (gives_sl (.tail _ (.head _)) (pairs_get0 (by first | omega | (simp; omega))))) ?_
            exact d_closes ⟨look_row rfl 4 rfl s4, trivial⟩ 5 rfl rfl rfl hS (AgreeR.refl _) (t_sat (fun _ h => h) (hK (bs17, cp18, bs21, cp22) ⟨hf0, hf1, hf2, hf3⟩))
           · -- 6
            rintro ⟨bs17, cp18, bs21, cp22⟩ S hF hS D hp K hK
            try dsimp only at hF ⊢
            obtain ⟨hf0, hf1, hf2, hf3⟩ := hF
            refine d_need (small := [(11, (.slice bs12 ((fewL ((l.getD i St4.d).ws)).length) cp13))]) ⟨look_b rfl rfl, trivial⟩ ?_
            refine tp rfl (lv_move rfl) ?_
            exact d_closes ⟨look_b rfl rfl, trivial⟩ 6 rfl rfl rfl hS (AgreeR.refl _) (t_sat (fun _ h => h) (hK (bs17, cp18, bs21, cp22) ⟨hf0, hf1, hf2, hf3⟩))
           · -- 7
            rintro ⟨bs17, cp18, bs21, cp22⟩ S hF hS D hp K hK
            try dsimp only at hF ⊢
            obtain ⟨hf0, hf1, hf2, hf3⟩ := hF
            refine d_need (small := [(13, (.int .i64 ((j : Nat) : Int)))]) ⟨look_b rfl rfl, trivial⟩ ?_
            refine tp rfl (lv_move rfl) ?_
            exact d_closes ⟨look_b rfl rfl, trivial⟩ 7 rfl rfl rfl hS (AgreeR.refl _) (t_sat (fun _ h => h) (hK (bs17, cp18, bs21, cp22) ⟨hf0, hf1, hf2, hf3⟩))
           · -- 8
            rintro ⟨bs17, cp18, bs21, cp22⟩ S hF hS D hp K hK
            try dsimp only at hF ⊢
            obtain ⟨hf0, hf1, hf2, hf3⟩ := hF
            have s6 := hp 6 rfl
            have s7 := hp 7 rfl
            refine d_need (small := [(92, (.slice bs12 ((fewL ((l.getD i St4.d).ws)).length) cp13)), (93, (.int .i64 ((j : Nat) : Int)))]) ⟨look_row rfl 6 rfl s6, look_row rfl 7 rfl s7, trivial⟩ ?_
            refine tp rfl (lv_indexAddr (k' := j * 2) Try.underlying29 Try.sizeOf31 rfl rfl hok14 (by omega) (by omega) (by omega)) ?_
            exact d_closes ⟨look_row rfl 6 rfl s6, look_row rfl 7 rfl s7, trivial⟩ 8 rfl rfl rfl hS (AgreeR.refl _) (t_sat (fun _ h => h) (hK (bs17, cp18, bs21, cp22) ⟨hf0, hf1, hf2, hf3⟩))
           · -- 9
            rintro ⟨bs17, cp18, bs21, cp22⟩ S hF hS D hp K hK
            try dsimp only at hF ⊢
            obtain ⟨hf0, hf1, hf2, hf3⟩ := hF
            have s8 := hp 8 rfl
            refine d_need (small := [(94, (.pointer (some (ad bs12 (j * 2)))))]) ⟨look_row rfl 8 rfl s8, trivial⟩ ?_
            refine tp rfl (lv_fieldAddr_ad (o' := j * 2 + 1) Try.underlying31 rfl Try.sizeOf3 rfl rfl) ?_
            exact d_closes ⟨look_row rfl 8 rfl s8, trivial⟩ 9 rfl rfl rfl hS (AgreeR.refl _) (t_sat (fun _ h => h) (hK (bs17, cp18, bs21, cp22) ⟨hf0, hf1, hf2, hf3⟩))
           · -- 10
            rintro ⟨bs17, cp18, bs21, cp22⟩ S hF hS D hp K hK
            try dsimp only at hF ⊢
            obtain ⟨hf0, hf1, hf2, hf3⟩ := hF
            have s9 := hp 9 rfl
            refine d_need (small := [(95, (.pointer (some (ad bs12 (j * 2 + 1)))))]) ⟨look_row rfl 9 rfl s9, trivial⟩ ?_
            refine tp rfl (lv_load Try.isAgg3 rfl (gives_sl (.tail _ (.head _)) (pairs_get1 (by first | omega | (simp; omega))))) ?_
            exact d_closes ⟨look_row rfl 9 rfl s9, trivial⟩ 10 rfl rfl rfl hS (AgreeR.refl _) (t_sat (fun _ h => h) (hK (bs17, cp18, bs21, cp22) ⟨hf0, hf1, hf2, hf3⟩))
           · -- 11
            rintro ⟨bs17, cp18, bs21, cp22⟩ S hF hS D hp K hK
            try dsimp only at hF ⊢
            obtain ⟨hf0, hf1, hf2, hf3⟩ := hF
            have s5 := hp 5 rfl
            have s10 := hp 10 rfl
            refine d_need (small := [(91, (.int .i64 (((fewL ((l.getD i St4.d).ws)).getD j (0, 0)).1))), (96, (.int .i64 (((fewL ((l.getD i St4.d).ws)).getD j (0, 0)).2)))]) ⟨look_row rfl 5 rfl s5, look_row rfl 10 rfl s10, trivial⟩ ?_
            refine tp rfl (lv_build (cs := [(.int .i64 (((fewL ((l.getD i St4.d).ws)).getD j (0, 0)).1)), (.int .i64 (((fewL ((l.getD i St4.d).ws)).getD j (0, 0)).2))]) (pl := [(0, 1), (1, 1)]) Try.underlying51 Try.zeroValue51 (fun _ => by simp) rfl rfl) ?_
            exact d_closes ⟨look_row rfl 5 rfl s5, look_row rfl 10 rfl s10, trivial⟩ 11 rfl rfl rfl hS (AgreeR.refl _) (t_sat (fun _ h => h) (hK (bs17, cp18, bs21, cp22) ⟨hf0, hf1, hf2, hf3⟩))
           · -- 12
            rintro ⟨bs17, cp18, bs21, cp22⟩ S hF hS D hp K hK
            try dsimp only at hF ⊢
            obtain ⟨hf0, hf1, hf2, hf3⟩ := hF
            have s11 := hp 11 rfl
            refine d_need (small := [(97, (.agg #[(.int .i64 (((fewL ((l.getD i St4.d).ws)).getD j (0, 0)).1)), (.int .i64 (((fewL ((l.getD i St4.d).ws)).getD j (0, 0)).2))]))]) ⟨look_row rfl 11 rfl s11, trivial⟩ ?_
            refine tm rfl (mv_buildSlice (cs := [(.int .i64 (((fewL ((l.getD i St4.d).ws)).getD j (0, 0)).1)), (.int .i64 (((fewL ((l.getD i St4.d).ws)).getD j (0, 0)).2))]) Try.underlying50 Try.sizeOf51 Try.zeroValue51 (by decide) rfl rfl rfl rfl) ?_
            rintro _ _ ⟨bs17, cp18, hok19, hle20, rfl, rfl⟩
            refine t_sat (fun _ h => sat_put [_, _, _, _, _] h) ?_
            exact d_closes ⟨look_row rfl 11 rfl s11, trivial⟩ 12 rfl rfl rfl hS (by exact ⟨.inl rfl, .inl rfl, .inl rfl, .inl rfl, .inl rfl, .inl rfl, .inl rfl, .inl rfl, .inl rfl, .inl rfl, .inl rfl, .inl rfl, .inr ⟨rfl, rfl, hS⟩, .inl rfl, .inl rfl, trivial⟩) (t_sat (fun _ h => h) (hK (bs17, cp18, bs21, cp22) ⟨(fun _ => hok19), (fun _ => hle20), hf2, hf3⟩))
           · -- 13
            rintro ⟨bs17, cp18, bs21, cp22⟩ S hF hS D hp K hK
            try dsimp only at hF ⊢
            obtain ⟨hf0, hf1, hf2, hf3⟩ := hF
            have s12 := hp 12 rfl
            have hok19 := hf0 s12
            have hle20 := hf1 s12
            have s0 := hp 0 rfl
            refine d_need (small := [(86, (.slice bq j cq)), (98, (.slice bs17 1 cp18))]) ⟨look_row rfl 0 rfl s0, look_row rfl 12 rfl s12, trivial⟩ ?_
            refine t_cF hS ?_
            refine t_f5 ?_
            refine t_cT s12 ?_
            refine t_f1 ?_
            refine tm rfl (mv_append (i := Try.t51) Try.underlying50 Try.type51 rfl rfl rfl (by decide) rfl rfl hok19 (by first | (simp; done) | (simp; omega)) (rd_sl (.tail _ (.head _))) (by simp [Value.oneCell']) (by rw [show Try.t51.bytes = 16 from rfl]; omega)) ?_
            rintro _ _ ⟨bs21, cp22, hok23, hle24, rfl, rfl⟩
            rw [show pairs ((fewL ((l.getD i St4.d).ws)).take j) ++ [(.int .i64 (((fewL ((l.getD i St4.d).ws)).getD j (0, 0)).1)), (.int .i64 (((fewL ((l.getD i St4.d).ws)).getD j (0, 0)).2))] = pairs (((fewL ((l.getD i St4.d).ws)).take j) ++ [(((fewL ((l.getD i St4.d).ws)).getD j (0, 0)).1, ((fewL ((l.getD i St4.d).ws)).getD j (0, 0)).2)]) from pairs_snoc _ _ _]
            refine t_f1 ?_
            refine t_wT (B := Emp) s12 ?_
            refine t_f5 ?_
            refine t_f5 ?_
            refine t_f5 ?_
            refine t_f5 ?_
            refine t_f5 ?_
            exact d_closes ⟨look_row rfl 0 rfl s0, look_row rfl 12 rfl s12, trivial⟩ 13 rfl rfl rfl hS (by exact ⟨.inl rfl, .inl rfl, .inl rfl, .inl rfl, .inl rfl, .inl rfl, .inl rfl, .inl rfl, .inl rfl, .inl rfl, .inl rfl, .inl rfl, .inl rfl, .inr ⟨rfl, rfl, hS⟩, .inr ⟨rfl, rfl, (nf hS D (k := 14) (i := 13) rfl)⟩, trivial⟩) (t_sat (fun _ h => h) (hK (bs17, cp18, bs21, cp22) ⟨hf0, hf1, (fun _ => hok23), (fun _ => hle24)⟩))
           · -- 14
            rintro ⟨bs17, cp18, bs21, cp22⟩ S hF hS D hp K hK
            try dsimp only at hF ⊢
            obtain ⟨hf0, hf1, hf2, hf3⟩ := hF
            have s13 := hp 13 rfl
            refine d_need (small := [(99, (.slice bs21 (j + 1) cp22))]) ⟨look_row rfl 13 rfl s13, trivial⟩ ?_
            refine tp rfl (lv_assign rfl) ?_
            exact d_closes ⟨look_row rfl 13 rfl s13, trivial⟩ 14 rfl rfl rfl hS (AgreeR.refl _) (t_sat (fun _ h => h) (hK (bs17, cp18, bs21, cp22) ⟨hf0, hf1, hf2, hf3⟩))
          · -- behind
           rintro ⟨bs17, cp18, bs21, cp22⟩ hF
           try dsimp only at hF ⊢
           obtain ⟨hf0, hf1, hf2, hf3⟩ := hF
           have hok19 := hf0 rfl
           have hle20 := hf1 rfl
           have hok23 := hf2 rfl
           have hle24 := hf3 rfl
           refine t_weak (E' := [(0, (.int .i64 n)), (1, (.slice bl l.length cl)), (5, (.bool true)), (6, (.pointer (some ⟨p1, 0, none⟩))), (7, (.pointer (some ⟨p2, 0, none⟩))), (8, (.int .i64 ((i : Nat) : Int))), (9, (.pointer (some ⟨b4, 0, none⟩))), (10, (.bool true)), (11, (.slice bs12 ((fewL ((l.getD i St4.d).ws)).length) cp13)), (12, (.slice bs21 (j + 1) cp22)), (13, (.int .i64 ((j : Nat) : Int))), (29, (.bool false)), (37, (.bool true)), (45, (.int .i64 ((l.getD i St4.d).kd))), (46, (.bool false)), (61, (.bool false)), (72, (.bool true)), (83, (.bool true))]) ⟨rfl, rfl, rfl, rfl, rfl, rfl, rfl, rfl, rfl, rfl, rfl, rfl, rfl, rfl, rfl, rfl, rfl, rfl, trivial⟩ ?_
           refine q_in_n ?_
           refine q_then_n (hK28 _ _ ?_)
           refine c_region ?_
           refine tp rfl (lv_move rfl) ?_
           refine tp rfl (lv_add (c := ((j + 1 : Nat) : Int)) rfl rfl (wr_i64_succ (by omega))) ?_
           refine tp rfl (lv_assign rfl) ?_
           refine t_done ?_
           refine q_then_n ?_
           refine t_f5 ?_
           refine t_drop ?_
           rw [show ((fewL ((l.getD i St4.d).ws)).take j) ++ [(((fewL ((l.getD i St4.d).ws)).getD j (0, 0)).1, ((fewL ((l.getD i St4.d).ws)).getD j (0, 0)).2)] = (fewL ((l.getD i St4.d).ws)).take (j + 1) from (take_succ_getD (by omega) (0, 0)).symm]
           exact t_weak (by exact ⟨rfl, rfl, rfl, rfl, rfl, rfl, rfl, rfl, rfl, rfl, rfl, rfl, rfl, rfl, rfl, rfl, rfl, trivial⟩) ((hK25 (j + 1, bs21, cp22) ⟨by omega, hok23, hle24⟩ (by dsimp only; omega)))
         · -- no
          refine tp rfl (lv_lss rfl rfl (decide_eq_false h16)) ?_
          refine t_done ?_
          refine q_then_n (hK27 _ _ ?_)
          refine c_false rfl ?_
          refine c_exit ?_
          refine q_then_x ?_
          refine q_then_x ?_
          refine q_in_x ?_
          refine q_then_n (hK23 _ _ ?_)
          refine c_seq (fun K28 hK28 => ?_)
          have hjl : j = (fewL ((l.getD i St4.d).ws)).length := by omega
          rw [show (fewL ((l.getD i St4.d).ws)).take j = fewL ((l.getD i St4.d).ws) from List.take_of_length_le (by omega)]
          rcases hany : anyPos (costsL ms (fewL ((l.getD i St4.d).ws))) with _ | _
          · -- false
           refine c_region ?_
           refine tp rfl (lv_move rfl) ?_
           refine tp rfl (lv_move rfl) ?_
           refine t_f3 ?_
           refine tc rfl (en_fn Try.call13 rfl) (take_non (q := q) (ms := ms) (a := a) (fewL ((l.getD i St4.d).ws)) rfl (rd_sl (.tail _ (.head _))) hok14 (by omega) (by omega) hany) ?_
           rintro _ _ ⟨rfl, rfl⟩
           refine tp rfl (lv_move rfl) ?_
           refine tp rfl (lv_extract rfl rfl) ?_
           refine tp rfl (lv_extract rfl rfl) ?_
           refine tp rfl (lv_assign rfl) ?_
           refine tp rfl (lv_assign rfl) ?_
           refine t_done ?_
           refine q_then_n (hK28 _ _ ?_)
           refine c_seq (fun K29 hK29 => ?_)
           refine c_region ?_
           refine tp rfl (lv_move rfl) ?_
           refine tp rfl (lv_move rfl) ?_
           refine t_f4 ?_
           refine tc rfl (en_fn Try.call21 rfl) (rtake_no (q := q) (ms := ms) (a := a) (fewL ((l.getD i St4.d).ws)) hjl.symm (rd_sl (.tail _ (.head _))) hbq (by omega) (by omega) hany) ?_
           rintro _ _ ⟨rfl, rfl⟩
           refine tp rfl (lv_move rfl) ?_
           refine tp rfl (lv_extract rfl rfl) ?_
           refine tp rfl (lv_extract rfl rfl) ?_
           refine tp rfl (lv_assign rfl) ?_
           refine tp rfl (lv_assign rfl) ?_
           refine t_done ?_
           refine q_then_n (hK29 _ _ ?_)
           refine c_region ?_
           refine tp rfl (lv_move rfl) ?_
           refine tp rfl (lv_move rfl) ?_
           refine tp rfl (lv_eql (r := true) rfl rfl (by decide)) ?_
           refine tp rfl (lv_move rfl) ?_
           refine t_guard rfl rfl ?_
           refine tp rfl (lv_move rfl) ?_
           refine t_guard rfl rfl ?_
           refine tp rfl (lv_move rfl) ?_
           refine t_guard rfl rfl ?_
           refine tp rfl (lv_eqb Try.underlying4 rfl rfl rfl) ?_
           refine tp rfl (lv_pick_t rfl rfl) ?_
           refine tp rfl (lv_assign rfl) ?_
           refine t_done ?_
           refine q_in_n ?_
           refine q_then_n ?_
           refine t_f2 ?_
           refine t_drop ?_
           refine t_f2 ?_
           refine t_drop ?_
           refine t_f1 ?_
           refine t_f2 ?_
           exact t_weak (by exact ⟨rfl, rfl, rfl, rfl, rfl, rfl, rfl, rfl, rfl, rfl, trivial⟩) (hM15 ms a (by omega))
          · -- true
           refine c_region ?_
           refine tp rfl (lv_move rfl) ?_
           refine tp rfl (lv_move rfl) ?_
           refine t_f3 ?_
           refine tc rfl (en_fn Try.call13 rfl) (take_okn (q := q) (ms := ms) (a := a) (fewL ((l.getD i St4.d).ws)) rfl (rd_sl (.tail _ (.head _))) hok14 (by omega) (by omega) hany) ?_
           rintro _ _ ⟨mt, ta, ht, rfl, rfl⟩
           refine tp rfl (lv_move rfl) ?_
           refine tp rfl (lv_extract rfl rfl) ?_
           refine tp rfl (lv_extract rfl rfl) ?_
           refine tp rfl (lv_assign rfl) ?_
           refine tp rfl (lv_assign rfl) ?_
           refine t_done ?_
           refine q_then_n (hK28 _ _ ?_)
           refine c_seq (fun K29 hK29 => ?_)
           refine c_region ?_
           refine tp rfl (lv_move rfl) ?_
           refine tp rfl (lv_move rfl) ?_
           refine t_f4 ?_
           refine tc rfl (en_fn Try.call21 rfl) (rtake_ok (q := q) (ms := ms) (a := a) (fewL ((l.getD i St4.d).ws)) hjl.symm (rd_sl (.tail _ (.head _))) hbq (by omega) (by omega) ⟨hany, hT.tb, any_al hany hal, by omega⟩ ht) ?_
           rintro _ _ ⟨rfl, rfl⟩
           refine tp rfl (lv_move rfl) ?_
           refine tp rfl (lv_extract rfl rfl) ?_
           refine tp rfl (lv_extract rfl rfl) ?_
           refine tp rfl (lv_assign rfl) ?_
           refine tp rfl (lv_assign rfl) ?_
           refine t_done ?_
           refine q_then_n (hK29 _ _ ?_)
           refine c_region ?_
           refine tp rfl (lv_move rfl) ?_
           refine tp rfl (lv_move rfl) ?_
           refine tp rfl (lv_eql rfl rfl (beq_iff_eq.2 rfl)) ?_
           refine tp rfl (lv_move rfl) ?_
           refine t_guard rfl rfl ?_
           refine tp rfl (lv_move rfl) ?_
           refine t_guard rfl rfl ?_
           refine tp rfl (lv_move rfl) ?_
           refine t_guard rfl rfl ?_
           refine tp rfl (lv_eqb Try.underlying4 rfl rfl rfl) ?_
           refine tp rfl (lv_pick_t rfl rfl) ?_
           refine tp rfl (lv_assign rfl) ?_
           refine t_done ?_
           refine q_in_n ?_
           refine q_then_n ?_
           refine t_f2 ?_
           refine t_drop ?_
           refine t_f2 ?_
           refine t_drop ?_
           refine t_f1 ?_
           refine t_f2 ?_
           exact t_weak (by exact ⟨rfl, rfl, rfl, rfl, rfl, rfl, rfl, rfl, rfl, rfl, trivial⟩) (hM15 (setC mt ta ((mt.getD ta M3.z).c - (costsL ms (fewL ((l.getD i St4.d).ws))).getD ta 0)) ta (by rw [setC_len]; have h1 := (ht.inv (I := fun s => s.1.length = ms.length) rfl (fun s hs _ => by rw [stepT_len]; exact hs)).1; simp only at h1; omega))
        · -- no
         refine tp rfl (lv_eql rfl rfl (beq_eq_false_iff_ne.2 h11)) ?_
         refine tp rfl (lv_assign rfl) ?_
         refine t_done ?_
         refine q_then_n (hK20 _ _ ?_)
         refine c_false rfl ?_
         refine c_seq (fun K21 hK21 => ?_)
         refine c_region ?_
         by_cases h17 : ((l.getD i St4.d).kd) = 3
         · -- yes
          refine tp rfl (lv_eql rfl rfl (beq_iff_eq.2 h17)) ?_
          refine tp rfl (lv_assign rfl) ?_
          refine t_done ?_
          refine q_then_n (hK21 _ _ ?_)
          refine c_true rfl ?_
          refine c_skip ?_
          refine q_then_n (hK19 _ _ ?_)
          refine c_true rfl ?_
          refine c_seq (fun K22 hK22 => ?_)
          refine c_region ?_
          refine tp rfl (lv_fieldAddr (o' := 3) Try.underlying41 rfl Try.sizeOf29 rfl rfl) ?_
          refine tp rfl (lv_load Try.isAgg29 rfl (gives_blk (.head _) rfl)) ?_
          refine tc rfl (en_fn Try.call15 rfl) (few_ok ((l.getD i St4.d).ws) (Rd.cons (Rd.cons (Rd.cons hrw))) okw (by omega)) ?_
          rintro _ _ ⟨bs18, cp19, hok20, hle21, rfl, rfl⟩
          refine tp rfl (lv_assign rfl) ?_
          refine t_done ?_
          refine q_then_n (hK22 _ _ ?_)
          refine c_seq (fun K23 hK23 => ?_)
          refine c_region ?_
          refine tp rfl (lv_assign rfl) ?_
          refine t_done ?_
          refine q_then_n (hK23 _ _ ?_)
          refine c_seq (fun K24 hK24 => ?_)
          refine c_seq (fun K25 hK25 => ?_)
          refine c_region ?_
          refine tp rfl (lv_assign rfl) ?_
          refine t_done ?_
          refine q_then_n (hK25 _ _ ?_)
          refine c_block ?_
          refine t_sat (fun _ h => sat_nilsl 51 2 h) ?_
          have hfl := few_len (l.getD i St4.d).ws
          refine c_loop (γ := (Nat) × (Option Addr) × (Nat)) (fun (j, bq, cq) => j ≤ (fewL ((l.getD i St4.d).ws)).length ∧ SlOk bq j ∧ j ≤ cq) (fun (j, bq, cq) => [(0, (.int .i64 n)), (1, (.slice bl l.length cl)), (5, (.bool true)), (6, (.pointer (some ⟨p1, 0, none⟩))), (7, (.pointer (some ⟨p2, 0, none⟩))), (8, (.int .i64 ((i : Nat) : Int))), (9, (.pointer (some ⟨b4, 0, none⟩))), (10, (.bool true)), (11, (.slice bs18 ((fewL ((l.getD i St4.d).ws)).length) cp19)), (12, (.slice bq j cq)), (13, (.int .i64 ((j : Nat) : Int))), (29, (.bool false)), (37, (.bool true)), (45, (.int .i64 ((l.getD i St4.d).kd))), (46, (.bool false)), (61, (.bool false)), (72, (.bool true))]) (fun (j, bq, cq) => (SlV 51 2 (.slice bq j cq) j (pairs ((fewL ((l.getD i St4.d).ws)).take j))) :: (SlV 31 2 (.slice bs18 ((fewL ((l.getD i St4.d).ws)).length) cp19) ((fewL ((l.getD i St4.d).ws)).length) (pairs (fewL ((l.getD i St4.d).ws)))) :: (Blk b4 [(.int .i64 ((l.getD i St4.d).kd)), (.int .i64 ((l.getD i St4.d).id)), (.int .i64 ((l.getD i St4.d).w)), (.slice bw ((l.getD i St4.d).ws.length) cw)] 41) :: (TurnsO p1 q ms a) :: (RTurnsO p2 q ms a) :: R) (fun (j, bq, cq) => (fewL ((l.getD i St4.d).ws)).length - j) (0, none, 0) ⟨by omega, slok_none, Nat.le_refl _⟩ ⟨rfl, rfl, rfl, rfl, rfl, rfl, rfl, rfl, rfl, rfl, rfl, rfl, rfl, rfl, rfl, rfl, rfl, trivial⟩ (fun _ h => h) ?_
          rintro ⟨j, bq, cq⟩ K26 hF hK26
          try dsimp only at hF hK26 ⊢
          obtain ⟨hj, hbq, hcq⟩ := hF
          refine c_seq (fun K27 hK27 => ?_)
          refine c_seq (fun K28 hK28 => ?_)
          refine c_region ?_
          refine tp rfl (lv_move rfl) ?_
          refine tp rfl (lv_move rfl) ?_
          refine tp rfl (lv_len Try.underlying29 rfl rfl) ?_
          by_cases h22 : ((j : Nat) : Int) < (((fewL ((l.getD i St4.d).ws)).length : Nat) : Int)
          · -- yes
           refine tp rfl (lv_lss rfl rfl (decide_eq_true h22)) ?_
           refine t_done ?_
           refine q_then_n (hK28 _ _ ?_)
           refine c_true rfl ?_
           refine c_skip ?_
           refine q_then_n (hK27 _ _ ?_)
           refine c_seq (fun K29 hK29 => ?_)
           refine c_block ?_
           refine c_draw (γ := Option Addr × Nat × Option Addr × Nat) (n := 15) Try.mixed rfl rfl (fun (bs23, cp24, bs27, cp28) S => (S 12 = true → SlOk bs23 1) ∧ (S 12 = true → 1 ≤ cp24) ∧ (S 13 = true → SlOk bs27 (j + 1)) ∧ (S 13 = true → j + 1 ≤ cp28)) (fun (bs23, cp24, bs27, cp28) => [(0, 86, (.slice bq j cq)), (1, 87, (.slice bs18 ((fewL ((l.getD i St4.d).ws)).length) cp19)), (2, 88, (.int .i64 ((j : Nat) : Int))), (3, 89, (.pointer (some (ad bs18 (j * 2))))), (4, 90, (.pointer (some (ad bs18 (j * 2))))), (5, 91, (.int .i64 (((fewL ((l.getD i St4.d).ws)).getD j (0, 0)).1))), (6, 92, (.slice bs18 ((fewL ((l.getD i St4.d).ws)).length) cp19)), (7, 93, (.int .i64 ((j : Nat) : Int))), (8, 94, (.pointer (some (ad bs18 (j * 2))))), (9, 95, (.pointer (some (ad bs18 (j * 2 + 1))))), (10, 96, (.int .i64 (((fewL ((l.getD i St4.d).ws)).getD j (0, 0)).2))), (11, 97, (.agg #[(.int .i64 (((fewL ((l.getD i St4.d).ws)).getD j (0, 0)).1)), (.int .i64 (((fewL ((l.getD i St4.d).ws)).getD j (0, 0)).2))])), (12, 98, (.slice bs23 1 cp24)), (13, 99, (.slice bs27 (j + 1) cp28)), (14, 12, (.slice bs27 (j + 1) cp28))]) (fun (bs23, cp24, bs27, cp28) S => (bif S 13 then (SlV 51 2 (.slice bs27 (j + 1) cp28) (j + 1) (pairs (((fewL ((l.getD i St4.d).ws)).take j) ++ [(((fewL ((l.getD i St4.d).ws)).getD j (0, 0)).1, ((fewL ((l.getD i St4.d).ws)).getD j (0, 0)).2)]))) else (SlV 51 2 (.slice bq j cq) j (pairs ((fewL ((l.getD i St4.d).ws)).take j)))) :: (SlV 31 2 (.slice bs18 ((fewL ((l.getD i St4.d).ws)).length) cp19) ((fewL ((l.getD i St4.d).ws)).length) (pairs (fewL ((l.getD i St4.d).ws)))) :: (Blk b4 [(.int .i64 ((l.getD i St4.d).kd)), (.int .i64 ((l.getD i St4.d).id)), (.int .i64 ((l.getD i St4.d).w)), (.slice bw ((l.getD i St4.d).ws.length) cw)] 41) :: (TurnsO p1 q ms a) :: (RTurnsO p2 q ms a) :: (bif S 12 then (SlV 51 2 (.slice bs23 1 cp24) 1 [(.int .i64 (((fewL ((l.getD i St4.d).ws)).getD j (0, 0)).1)), (.int .i64 (((fewL ((l.getD i St4.d).ws)).getD j (0, 0)).2))]) else Emp) :: R) (none, 0, none, 0) (by simp [Nat.ble]) (fun _ h => sat_emps [_, _, _, _, _] 1 h) (fun _ _ h => h) ?_ ?_
           · -- steps
            refine ⟨?_, ?_, ?_, ?_, ?_, ?_, ?_, ?_, ?_, ?_, ?_, ?_, ?_, ?_, ?_, trivial⟩
            · -- 0
             rintro ⟨bs23, cp24, bs27, cp28⟩ S hF hS D hp K hK
             try dsimp only at hF ⊢
             obtain ⟨hf0, hf1, hf2, hf3⟩ := hF
             refine d_need (small := [(12, (.slice bq j cq))]) ⟨look_b1 14 (nf hS D (k := 14) (i := 0) rfl) rfl rfl, trivial⟩ ?_
             refine tp rfl (lv_move rfl) ?_
             exact d_closes ⟨look_b1 14 (nf hS D (k := 14) (i := 0) rfl) rfl rfl, trivial⟩ 0 rfl rfl rfl hS (AgreeR.refl _) (t_sat (fun _ h => h) (hK (bs23, cp24, bs27, cp28) ⟨hf0, hf1, hf2, hf3⟩))
            · -- 1
             rintro ⟨bs23, cp24, bs27, cp28⟩ S hF hS D hp K hK
             try dsimp only at hF ⊢
             obtain ⟨hf0, hf1, hf2, hf3⟩ := hF
             refine d_need (small := [(11, (.slice bs18 ((fewL ((l.getD i St4.d).ws)).length) cp19))]) ⟨look_b rfl rfl, trivial⟩ ?_
             refine tp rfl (lv_move rfl) ?_
             exact d_closes ⟨look_b rfl rfl, trivial⟩ 1 rfl rfl rfl hS (AgreeR.refl _) (t_sat (fun _ h => h) (hK (bs23, cp24, bs27, cp28) ⟨hf0, hf1, hf2, hf3⟩))
            · -- 2
             rintro ⟨bs23, cp24, bs27, cp28⟩ S hF hS D hp K hK
             try dsimp only at hF ⊢
             obtain ⟨hf0, hf1, hf2, hf3⟩ := hF
             refine d_need (small := [(13, (.int .i64 ((j : Nat) : Int)))]) ⟨look_b rfl rfl, trivial⟩ ?_
             refine tp rfl (lv_move rfl) ?_
             exact d_closes ⟨look_b rfl rfl, trivial⟩ 2 rfl rfl rfl hS (AgreeR.refl _) (t_sat (fun _ h => h) (hK (bs23, cp24, bs27, cp28) ⟨hf0, hf1, hf2, hf3⟩))
            · -- 3
             rintro ⟨bs23, cp24, bs27, cp28⟩ S hF hS D hp K hK
             try dsimp only at hF ⊢
             obtain ⟨hf0, hf1, hf2, hf3⟩ := hF
             have s1 := hp 1 rfl
             have s2 := hp 2 rfl
             refine d_need (small := [(87, (.slice bs18 ((fewL ((l.getD i St4.d).ws)).length) cp19)), (88, (.int .i64 ((j : Nat) : Int)))]) ⟨look_row rfl 1 rfl s1, look_row rfl 2 rfl s2, trivial⟩ ?_
             refine tp rfl (lv_indexAddr (k' := j * 2) Try.underlying29 Try.sizeOf31 rfl rfl hok20 (by omega) (by omega) (by omega)) ?_
             exact d_closes ⟨look_row rfl 1 rfl s1, look_row rfl 2 rfl s2, trivial⟩ 3 rfl rfl rfl hS (AgreeR.refl _) (t_sat (fun _ h => h) (hK (bs23, cp24, bs27, cp28) ⟨hf0, hf1, hf2, hf3⟩))
            · -- 4
             rintro ⟨bs23, cp24, bs27, cp28⟩ S hF hS D hp K hK
             try dsimp only at hF ⊢
             obtain ⟨hf0, hf1, hf2, hf3⟩ := hF
             have s3 := hp 3 rfl
             refine d_need (small := [(89, (.pointer (some (ad bs18 (j * 2)))))]) ⟨look_row rfl 3 rfl s3, trivial⟩ ?_
             refine tp rfl (lv_fieldAddr_ad (o' := j * 2) Try.underlying31 rfl Try.sizeOf3 rfl rfl) ?_
             exact d_closes ⟨look_row rfl 3 rfl s3, trivial⟩ 4 rfl rfl rfl hS (AgreeR.refl _) (t_sat (fun _ h => h) (hK (bs23, cp24, bs27, cp28) ⟨hf0, hf1, hf2, hf3⟩))
            · -- 5
             rintro ⟨bs23, cp24, bs27, cp28⟩ S hF hS D hp K hK
             try dsimp only at hF ⊢
             obtain ⟨hf0, hf1, hf2, hf3⟩ := hF
             have s4 := hp 4 rfl
             refine d_need (small := [(90, (.pointer (some (ad bs18 (j * 2)))))]) ⟨look_row rfl 4 rfl s4, trivial⟩ ?_
             refine tp rfl (lv_load Try.isAgg3 rfl (gives_sl (.tail _ (.head _)) (pairs_get0 (by first | omega | (simp; omega))))) ?_
             exact d_closes ⟨look_row rfl 4 rfl s4, trivial⟩ 5 rfl rfl rfl hS (AgreeR.refl _) (t_sat (fun _ h => h) (hK (bs23, cp24, bs27, cp28) ⟨hf0, hf1, hf2, hf3⟩))
            · -- 6
             rintro ⟨bs23, cp24, bs27, cp28⟩ S hF hS D hp K hK
             try dsimp only at hF ⊢
             obtain ⟨hf0, hf1, hf2, hf3⟩ := hF
             refine d_need (small := [(11, (.slice bs18 ((fewL ((l.getD i St4.d).ws)).length) cp19))]) ⟨look_b rfl rfl, trivial⟩ ?_
             refine tp rfl (lv_move rfl) ?_
             exact d_closes ⟨look_b rfl rfl, trivial⟩ 6 rfl rfl rfl hS (AgreeR.refl _) (t_sat (fun _ h => h) (hK (bs23, cp24, bs27, cp28) ⟨hf0, hf1, hf2, hf3⟩))
            · -- 7
             rintro ⟨bs23, cp24, bs27, cp28⟩ S hF hS D hp K hK
             try dsimp only at hF ⊢
             obtain ⟨hf0, hf1, hf2, hf3⟩ := hF
             refine d_need (small := [(13, (.int .i64 ((j : Nat) : Int)))]) ⟨look_b rfl rfl, trivial⟩ ?_
             refine tp rfl (lv_move rfl) ?_
             exact d_closes ⟨look_b rfl rfl, trivial⟩ 7 rfl rfl rfl hS (AgreeR.refl _) (t_sat (fun _ h => h) (hK (bs23, cp24, bs27, cp28) ⟨hf0, hf1, hf2, hf3⟩))
            · -- 8
             rintro ⟨bs23, cp24, bs27, cp28⟩ S hF hS D hp K hK
             try dsimp only at hF ⊢
             obtain ⟨hf0, hf1, hf2, hf3⟩ := hF
             have s6 := hp 6 rfl
             have s7 := hp 7 rfl
             refine d_need (small := [(92, (.slice bs18 ((fewL ((l.getD i St4.d).ws)).length) cp19)), (93, (.int .i64 ((j : Nat) : Int)))]) ⟨look_row rfl 6 rfl s6, look_row rfl 7 rfl s7, trivial⟩ ?_
             refine tp rfl (lv_indexAddr (k' := j * 2) Try.underlying29 Try.sizeOf31 rfl rfl hok20 (by omega) (by omega) (by omega)) ?_
             exact d_closes ⟨look_row rfl 6 rfl s6, look_row rfl 7 rfl s7, trivial⟩ 8 rfl rfl rfl hS (AgreeR.refl _) (t_sat (fun _ h => h) (hK (bs23, cp24, bs27, cp28) ⟨hf0, hf1, hf2, hf3⟩))
            · -- 9
             rintro ⟨bs23, cp24, bs27, cp28⟩ S hF hS D hp K hK
             try dsimp only at hF ⊢
             obtain ⟨hf0, hf1, hf2, hf3⟩ := hF
             have s8 := hp 8 rfl
             refine d_need (small := [(94, (.pointer (some (ad bs18 (j * 2)))))]) ⟨look_row rfl 8 rfl s8, trivial⟩ ?_
             refine tp rfl (lv_fieldAddr_ad (o' := j * 2 + 1) Try.underlying31 rfl Try.sizeOf3 rfl rfl) ?_
             exact d_closes ⟨look_row rfl 8 rfl s8, trivial⟩ 9 rfl rfl rfl hS (AgreeR.refl _) (t_sat (fun _ h => h) (hK (bs23, cp24, bs27, cp28) ⟨hf0, hf1, hf2, hf3⟩))
            · -- 10
             rintro ⟨bs23, cp24, bs27, cp28⟩ S hF hS D hp K hK
             try dsimp only at hF ⊢
             obtain ⟨hf0, hf1, hf2, hf3⟩ := hF
             have s9 := hp 9 rfl
             refine d_need (small := [(95, (.pointer (some (ad bs18 (j * 2 + 1)))))]) ⟨look_row rfl 9 rfl s9, trivial⟩ ?_
             refine tp rfl (lv_load Try.isAgg3 rfl (gives_sl (.tail _ (.head _)) (pairs_get1 (by first | omega | (simp; omega))))) ?_
             exact d_closes ⟨look_row rfl 9 rfl s9, trivial⟩ 10 rfl rfl rfl hS (AgreeR.refl _) (t_sat (fun _ h => h) (hK (bs23, cp24, bs27, cp28) ⟨hf0, hf1, hf2, hf3⟩))
            · -- 11
             rintro ⟨bs23, cp24, bs27, cp28⟩ S hF hS D hp K hK
             try dsimp only at hF ⊢
             obtain ⟨hf0, hf1, hf2, hf3⟩ := hF
             have s5 := hp 5 rfl
             have s10 := hp 10 rfl
             refine d_need (small := [(91, (.int .i64 (((fewL ((l.getD i St4.d).ws)).getD j (0, 0)).1))), (96, (.int .i64 (((fewL ((l.getD i St4.d).ws)).getD j (0, 0)).2)))]) ⟨look_row rfl 5 rfl s5, look_row rfl 10 rfl s10, trivial⟩ ?_
             refine tp rfl (lv_build (cs := [(.int .i64 (((fewL ((l.getD i St4.d).ws)).getD j (0, 0)).1)), (.int .i64 (((fewL ((l.getD i St4.d).ws)).getD j (0, 0)).2))]) (pl := [(0, 1), (1, 1)]) Try.underlying51 Try.zeroValue51 (fun _ => by simp) rfl rfl) ?_
             exact d_closes ⟨look_row rfl 5 rfl s5, look_row rfl 10 rfl s10, trivial⟩ 11 rfl rfl rfl hS (AgreeR.refl _) (t_sat (fun _ h => h) (hK (bs23, cp24, bs27, cp28) ⟨hf0, hf1, hf2, hf3⟩))
            · -- 12
             rintro ⟨bs23, cp24, bs27, cp28⟩ S hF hS D hp K hK
             try dsimp only at hF ⊢
             obtain ⟨hf0, hf1, hf2, hf3⟩ := hF
             have s11 := hp 11 rfl
             refine d_need (small := [(97, (.agg #[(.int .i64 (((fewL ((l.getD i St4.d).ws)).getD j (0, 0)).1)), (.int .i64 (((fewL ((l.getD i St4.d).ws)).getD j (0, 0)).2))]))]) ⟨look_row rfl 11 rfl s11, trivial⟩ ?_
             refine tm rfl (mv_buildSlice (cs := [(.int .i64 (((fewL ((l.getD i St4.d).ws)).getD j (0, 0)).1)), (.int .i64 (((fewL ((l.getD i St4.d).ws)).getD j (0, 0)).2))]) Try.underlying50 Try.sizeOf51 Try.zeroValue51 (by decide) rfl rfl rfl rfl) ?_
             rintro _ _ ⟨bs23, cp24, hok25, hle26, rfl, rfl⟩
             refine t_sat (fun _ h => sat_put [_, _, _, _, _] h) ?_
             exact d_closes ⟨look_row rfl 11 rfl s11, trivial⟩ 12 rfl rfl rfl hS (by exact ⟨.inl rfl, .inl rfl, .inl rfl, .inl rfl, .inl rfl, .inl rfl, .inl rfl, .inl rfl, .inl rfl, .inl rfl, .inl rfl, .inl rfl, .inr ⟨rfl, rfl, hS⟩, .inl rfl, .inl rfl, trivial⟩) (t_sat (fun _ h => h) (hK (bs23, cp24, bs27, cp28) ⟨(fun _ => hok25), (fun _ => hle26), hf2, hf3⟩))
            · -- 13
             rintro ⟨bs23, cp24, bs27, cp28⟩ S hF hS D hp K hK
             try dsimp only at hF ⊢
             obtain ⟨hf0, hf1, hf2, hf3⟩ := hF
             have s12 := hp 12 rfl
             have hok25 := hf0 s12
             have hle26 := hf1 s12
             have s0 := hp 0 rfl
             refine d_need (small := [(86, (.slice bq j cq)), (98, (.slice bs23 1 cp24))]) ⟨look_row rfl 0 rfl s0, look_row rfl 12 rfl s12, trivial⟩ ?_
             refine t_cF hS ?_
             refine t_f5 ?_
             refine t_cT s12 ?_
             refine t_f1 ?_
             refine tm rfl (mv_append (i := Try.t51) Try.underlying50 Try.type51 rfl rfl rfl (by decide) rfl rfl hok25 (by first | (simp; done) | (simp; omega)) (rd_sl (.tail _ (.head _))) (by simp [Value.oneCell']) (by rw [show Try.t51.bytes = 16 from rfl]; omega)) ?_
             rintro _ _ ⟨bs27, cp28, hok29, hle30, rfl, rfl⟩
             rw [show pairs ((fewL ((l.getD i St4.d).ws)).take j) ++ [(.int .i64 (((fewL ((l.getD i St4.d).ws)).getD j (0, 0)).1)), (.int .i64 (((fewL ((l.getD i St4.d).ws)).getD j (0, 0)).2))] = pairs (((fewL ((l.getD i St4.d).ws)).take j) ++ [(((fewL ((l.getD i St4.d).ws)).getD j (0, 0)).1, ((fewL ((l.getD i St4.d).ws)).getD j (0, 0)).2)]) from pairs_snoc _ _ _]
             refine t_f1 ?_
             refine t_wT (B := Emp) s12 ?_
             refine t_f5 ?_
             refine t_f5 ?_
             refine t_f5 ?_
             refine t_f5 ?_
             refine t_f5 ?_
             exact d_closes ⟨look_row rfl 0 rfl s0, look_row rfl 12 rfl s12, trivial⟩ 13 rfl rfl rfl hS (by exact ⟨.inl rfl, .inl rfl, .inl rfl, .inl rfl, .inl rfl, .inl rfl, .inl rfl, .inl rfl, .inl rfl, .inl rfl, .inl rfl, .inl rfl, .inl rfl, .inr ⟨rfl, rfl, hS⟩, .inr ⟨rfl, rfl, (nf hS D (k := 14) (i := 13) rfl)⟩, trivial⟩) (t_sat (fun _ h => h) (hK (bs23, cp24, bs27, cp28) ⟨hf0, hf1, (fun _ => hok29), (fun _ => hle30)⟩))
            · -- 14
             rintro ⟨bs23, cp24, bs27, cp28⟩ S hF hS D hp K hK
             try dsimp only at hF ⊢
             obtain ⟨hf0, hf1, hf2, hf3⟩ := hF
             have s13 := hp 13 rfl
             refine d_need (small := [(99, (.slice bs27 (j + 1) cp28))]) ⟨look_row rfl 13 rfl s13, trivial⟩ ?_
             refine tp rfl (lv_assign rfl) ?_
             exact d_closes ⟨look_row rfl 13 rfl s13, trivial⟩ 14 rfl rfl rfl hS (AgreeR.refl _) (t_sat (fun _ h => h) (hK (bs23, cp24, bs27, cp28) ⟨hf0, hf1, hf2, hf3⟩))
           · -- behind
            rintro ⟨bs23, cp24, bs27, cp28⟩ hF
            try dsimp only at hF ⊢
            obtain ⟨hf0, hf1, hf2, hf3⟩ := hF
            have hok25 := hf0 rfl
            have hle26 := hf1 rfl
            have hok29 := hf2 rfl
            have hle30 := hf3 rfl
            refine t_weak (E' := [(0, (.int .i64 n)), (1, (.slice bl l.length cl)), (5, (.bool true)), (6, (.pointer (some ⟨p1, 0, none⟩))), (7, (.pointer (some ⟨p2, 0, none⟩))), (8, (.int .i64 ((i : Nat) : Int))), (9, (.pointer (some ⟨b4, 0, none⟩))), (10, (.bool true)), (11, (.slice bs18 ((fewL ((l.getD i St4.d).ws)).length) cp19)), (12, (.slice bs27 (j + 1) cp28)), (13, (.int .i64 ((j : Nat) : Int))), (29, (.bool false)), (37, (.bool true)), (45, (.int .i64 ((l.getD i St4.d).kd))), (46, (.bool false)), (61, (.bool false)), (72, (.bool true)), (83, (.bool true))]) ⟨rfl, rfl, rfl, rfl, rfl, rfl, rfl, rfl, rfl, rfl, rfl, rfl, rfl, rfl, rfl, rfl, rfl, rfl, trivial⟩ ?_
            refine q_in_n ?_
            refine q_then_n (hK29 _ _ ?_)
            refine c_region ?_
            refine tp rfl (lv_move rfl) ?_
            refine tp rfl (lv_add (c := ((j + 1 : Nat) : Int)) rfl rfl (wr_i64_succ (by omega))) ?_
            refine tp rfl (lv_assign rfl) ?_
            refine t_done ?_
            refine q_then_n ?_
            refine t_f5 ?_
            refine t_drop ?_
            rw [show ((fewL ((l.getD i St4.d).ws)).take j) ++ [(((fewL ((l.getD i St4.d).ws)).getD j (0, 0)).1, ((fewL ((l.getD i St4.d).ws)).getD j (0, 0)).2)] = (fewL ((l.getD i St4.d).ws)).take (j + 1) from (take_succ_getD (by omega) (0, 0)).symm]
            exact t_weak (by exact ⟨rfl, rfl, rfl, rfl, rfl, rfl, rfl, rfl, rfl, rfl, rfl, rfl, rfl, rfl, rfl, rfl, rfl, trivial⟩) ((hK26 (j + 1, bs27, cp28) ⟨by omega, hok29, hle30⟩ (by dsimp only; omega)))
          · -- no
           refine tp rfl (lv_lss rfl rfl (decide_eq_false h22)) ?_
           refine t_done ?_
           refine q_then_n (hK28 _ _ ?_)
           refine c_false rfl ?_
           refine c_exit ?_
           refine q_then_x ?_
           refine q_then_x ?_
           refine q_in_x ?_
           refine q_then_n (hK24 _ _ ?_)
           refine c_seq (fun K29 hK29 => ?_)
           have hjl : j = (fewL ((l.getD i St4.d).ws)).length := by omega
           rw [show (fewL ((l.getD i St4.d).ws)).take j = fewL ((l.getD i St4.d).ws) from List.take_of_length_le (by omega)]
           rcases hany : anyPos (costsL ms (fewL ((l.getD i St4.d).ws))) with _ | _
           · -- false
            refine c_region ?_
            refine tp rfl (lv_move rfl) ?_
            refine tp rfl (lv_move rfl) ?_
            refine t_f3 ?_
            refine tc rfl (en_fn Try.call13 rfl) (take_non (q := q) (ms := ms) (a := a) (fewL ((l.getD i St4.d).ws)) rfl (rd_sl (.tail _ (.head _))) hok20 (by omega) (by omega) hany) ?_
            rintro _ _ ⟨rfl, rfl⟩
            refine tp rfl (lv_move rfl) ?_
            refine tp rfl (lv_extract rfl rfl) ?_
            refine tp rfl (lv_extract rfl rfl) ?_
            refine tp rfl (lv_assign rfl) ?_
            refine tp rfl (lv_assign rfl) ?_
            refine t_done ?_
            refine q_then_n (hK29 _ _ ?_)
            refine c_seq (fun K30 hK30 => ?_)
            refine c_region ?_
            refine tp rfl (lv_move rfl) ?_
            refine tp rfl (lv_move rfl) ?_
            refine t_f4 ?_
            refine tc rfl (en_fn Try.call21 rfl) (rtake_no (q := q) (ms := ms) (a := a) (fewL ((l.getD i St4.d).ws)) hjl.symm (rd_sl (.tail _ (.head _))) hbq (by omega) (by omega) hany) ?_
            rintro _ _ ⟨rfl, rfl⟩
            refine tp rfl (lv_move rfl) ?_
            refine tp rfl (lv_extract rfl rfl) ?_
            refine tp rfl (lv_extract rfl rfl) ?_
            refine tp rfl (lv_assign rfl) ?_
            refine tp rfl (lv_assign rfl) ?_
            refine t_done ?_
            refine q_then_n (hK30 _ _ ?_)
            refine c_region ?_
            refine tp rfl (lv_move rfl) ?_
            refine tp rfl (lv_move rfl) ?_
            refine tp rfl (lv_eql (r := true) rfl rfl (by decide)) ?_
            refine tp rfl (lv_move rfl) ?_
            refine t_guard rfl rfl ?_
            refine tp rfl (lv_move rfl) ?_
            refine t_guard rfl rfl ?_
            refine tp rfl (lv_move rfl) ?_
            refine t_guard rfl rfl ?_
            refine tp rfl (lv_eqb Try.underlying4 rfl rfl rfl) ?_
            refine tp rfl (lv_pick_t rfl rfl) ?_
            refine tp rfl (lv_assign rfl) ?_
            refine t_done ?_
            refine q_in_n ?_
            refine q_then_n ?_
            refine t_f2 ?_
            refine t_drop ?_
            refine t_f2 ?_
            refine t_drop ?_
            refine t_f1 ?_
            refine t_f2 ?_
            exact t_weak (by exact ⟨rfl, rfl, rfl, rfl, rfl, rfl, rfl, rfl, rfl, rfl, trivial⟩) (hM15 ms a (by omega))
           · -- true
            refine c_region ?_
            refine tp rfl (lv_move rfl) ?_
            refine tp rfl (lv_move rfl) ?_
            refine t_f3 ?_
            refine tc rfl (en_fn Try.call13 rfl) (take_okn (q := q) (ms := ms) (a := a) (fewL ((l.getD i St4.d).ws)) rfl (rd_sl (.tail _ (.head _))) hok20 (by omega) (by omega) hany) ?_
            rintro _ _ ⟨mt, ta, ht, rfl, rfl⟩
            refine tp rfl (lv_move rfl) ?_
            refine tp rfl (lv_extract rfl rfl) ?_
            refine tp rfl (lv_extract rfl rfl) ?_
            refine tp rfl (lv_assign rfl) ?_
            refine tp rfl (lv_assign rfl) ?_
            refine t_done ?_
            refine q_then_n (hK29 _ _ ?_)
            refine c_seq (fun K30 hK30 => ?_)
            refine c_region ?_
            refine tp rfl (lv_move rfl) ?_
            refine tp rfl (lv_move rfl) ?_
            refine t_f4 ?_
            refine tc rfl (en_fn Try.call21 rfl) (rtake_ok (q := q) (ms := ms) (a := a) (fewL ((l.getD i St4.d).ws)) hjl.symm (rd_sl (.tail _ (.head _))) hbq (by omega) (by omega) ⟨hany, hT.tb, any_al hany hal, by omega⟩ ht) ?_
            rintro _ _ ⟨rfl, rfl⟩
            refine tp rfl (lv_move rfl) ?_
            refine tp rfl (lv_extract rfl rfl) ?_
            refine tp rfl (lv_extract rfl rfl) ?_
            refine tp rfl (lv_assign rfl) ?_
            refine tp rfl (lv_assign rfl) ?_
            refine t_done ?_
            refine q_then_n (hK30 _ _ ?_)
            refine c_region ?_
            refine tp rfl (lv_move rfl) ?_
            refine tp rfl (lv_move rfl) ?_
            refine tp rfl (lv_eql rfl rfl (beq_iff_eq.2 rfl)) ?_
            refine tp rfl (lv_move rfl) ?_
            refine t_guard rfl rfl ?_
            refine tp rfl (lv_move rfl) ?_
            refine t_guard rfl rfl ?_
            refine tp rfl (lv_move rfl) ?_
            refine t_guard rfl rfl ?_
            refine tp rfl (lv_eqb Try.underlying4 rfl rfl rfl) ?_
            refine tp rfl (lv_pick_t rfl rfl) ?_
            refine tp rfl (lv_assign rfl) ?_
            refine t_done ?_
            refine q_in_n ?_
            refine q_then_n ?_
            refine t_f2 ?_
            refine t_drop ?_
            refine t_f2 ?_
            refine t_drop ?_
            refine t_f1 ?_
            refine t_f2 ?_
            exact t_weak (by exact ⟨rfl, rfl, rfl, rfl, rfl, rfl, rfl, rfl, rfl, rfl, trivial⟩) (hM15 (setC mt ta ((mt.getD ta M3.z).c - (costsL ms (fewL ((l.getD i St4.d).ws))).getD ta 0)) ta (by rw [setC_len]; have h1 := (ht.inv (I := fun s => s.1.length = ms.length) rfl (fun s hs _ => by rw [stepT_len]; exact hs)).1; simp only at h1; omega))
         · -- no
          refine tp rfl (lv_eql rfl rfl (beq_eq_false_iff_ne.2 h17)) ?_
          refine tp rfl (lv_assign rfl) ?_
          refine t_done ?_
          refine q_then_n (hK21 _ _ ?_)
          refine c_false rfl ?_
          refine c_seq (fun K22 hK22 => ?_)
          refine c_region ?_
          by_cases h23 : ((l.getD i St4.d).kd) = 4
          · -- yes
           refine tp rfl (lv_eql rfl rfl (beq_iff_eq.2 h23)) ?_
           refine tp rfl (lv_assign rfl) ?_
           refine t_done ?_
           refine q_then_n (hK22 _ _ ?_)
           refine c_true rfl ?_
           refine c_skip ?_
           refine q_then_n (hK19 _ _ ?_)
           refine c_true rfl ?_
           refine c_seq (fun K23 hK23 => ?_)
           refine c_region ?_
           refine tp rfl (lv_fieldAddr (o' := 3) Try.underlying41 rfl Try.sizeOf29 rfl rfl) ?_
           refine tp rfl (lv_load Try.isAgg29 rfl (gives_blk (.head _) rfl)) ?_
           refine tc rfl (en_fn Try.call15 rfl) (few_ok ((l.getD i St4.d).ws) (Rd.cons (Rd.cons (Rd.cons hrw))) okw (by omega)) ?_
           rintro _ _ ⟨bs24, cp25, hok26, hle27, rfl, rfl⟩
           refine tp rfl (lv_assign rfl) ?_
           refine t_done ?_
           refine q_then_n (hK23 _ _ ?_)
           refine c_seq (fun K24 hK24 => ?_)
           refine c_region ?_
           refine tp rfl (lv_assign rfl) ?_
           refine t_done ?_
           refine q_then_n (hK24 _ _ ?_)
           refine c_seq (fun K25 hK25 => ?_)
           refine c_seq (fun K26 hK26 => ?_)
           refine c_region ?_
           refine tp rfl (lv_assign rfl) ?_
           refine t_done ?_
           refine q_then_n (hK26 _ _ ?_)
           refine c_block ?_
           refine t_sat (fun _ h => sat_nilsl 51 2 h) ?_
           have hfl := few_len (l.getD i St4.d).ws
           refine c_loop (γ := (Nat) × (Option Addr) × (Nat)) (fun (j, bq, cq) => j ≤ (fewL ((l.getD i St4.d).ws)).length ∧ SlOk bq j ∧ j ≤ cq) (fun (j, bq, cq) => [(0, (.int .i64 n)), (1, (.slice bl l.length cl)), (5, (.bool true)), (6, (.pointer (some ⟨p1, 0, none⟩))), (7, (.pointer (some ⟨p2, 0, none⟩))), (8, (.int .i64 ((i : Nat) : Int))), (9, (.pointer (some ⟨b4, 0, none⟩))), (10, (.bool true)), (11, (.slice bs24 ((fewL ((l.getD i St4.d).ws)).length) cp25)), (12, (.slice bq j cq)), (13, (.int .i64 ((j : Nat) : Int))), (29, (.bool false)), (37, (.bool true)), (45, (.int .i64 ((l.getD i St4.d).kd))), (46, (.bool false)), (61, (.bool false)), (72, (.bool true))]) (fun (j, bq, cq) => (SlV 51 2 (.slice bq j cq) j (pairs ((fewL ((l.getD i St4.d).ws)).take j))) :: (SlV 31 2 (.slice bs24 ((fewL ((l.getD i St4.d).ws)).length) cp25) ((fewL ((l.getD i St4.d).ws)).length) (pairs (fewL ((l.getD i St4.d).ws)))) :: (Blk b4 [(.int .i64 ((l.getD i St4.d).kd)), (.int .i64 ((l.getD i St4.d).id)), (.int .i64 ((l.getD i St4.d).w)), (.slice bw ((l.getD i St4.d).ws.length) cw)] 41) :: (TurnsO p1 q ms a) :: (RTurnsO p2 q ms a) :: R) (fun (j, bq, cq) => (fewL ((l.getD i St4.d).ws)).length - j) (0, none, 0) ⟨by omega, slok_none, Nat.le_refl _⟩ ⟨rfl, rfl, rfl, rfl, rfl, rfl, rfl, rfl, rfl, rfl, rfl, rfl, rfl, rfl, rfl, rfl, rfl, trivial⟩ (fun _ h => h) ?_
           rintro ⟨j, bq, cq⟩ K27 hF hK27
           try dsimp only at hF hK27 ⊢
           obtain ⟨hj, hbq, hcq⟩ := hF
           refine c_seq (fun K28 hK28 => ?_)
           refine c_seq (fun K29 hK29 => ?_)
           refine c_region ?_
           refine tp rfl (lv_move rfl) ?_
           refine tp rfl (lv_move rfl) ?_
           refine tp rfl (lv_len Try.underlying29 rfl rfl) ?_
           by_cases h28 : ((j : Nat) : Int) < (((fewL ((l.getD i St4.d).ws)).length : Nat) : Int)
           · -- yes
            refine tp rfl (lv_lss rfl rfl (decide_eq_true h28)) ?_
            refine t_done ?_
            refine q_then_n (hK29 _ _ ?_)
            refine c_true rfl ?_
            refine c_skip ?_
            refine q_then_n (hK28 _ _ ?_)
            refine c_seq (fun K30 hK30 => ?_)
            refine c_block ?_
            refine c_draw (γ := Option Addr × Nat × Option Addr × Nat) (n := 15) Try.mixed rfl rfl (fun (bs29, cp30, bs33, cp34) S => (S 12 = true → SlOk bs29 1) ∧ (S 12 = true → 1 ≤ cp30) ∧ (S 13 = true → SlOk bs33 (j + 1)) ∧ (S 13 = true → j + 1 ≤ cp34)) (fun (bs29, cp30, bs33, cp34) => [(0, 86, (.slice bq j cq)), (1, 87, (.slice bs24 ((fewL ((l.getD i St4.d).ws)).length) cp25)), (2, 88, (.int .i64 ((j : Nat) : Int))), (3, 89, (.pointer (some (ad bs24 (j * 2))))), (4, 90, (.pointer (some (ad bs24 (j * 2))))), (5, 91, (.int .i64 (((fewL ((l.getD i St4.d).ws)).getD j (0, 0)).1))), (6, 92, (.slice bs24 ((fewL ((l.getD i St4.d).ws)).length) cp25)), (7, 93, (.int .i64 ((j : Nat) : Int))), (8, 94, (.pointer (some (ad bs24 (j * 2))))), (9, 95, (.pointer (some (ad bs24 (j * 2 + 1))))), (10, 96, (.int .i64 (((fewL ((l.getD i St4.d).ws)).getD j (0, 0)).2))), (11, 97, (.agg #[(.int .i64 (((fewL ((l.getD i St4.d).ws)).getD j (0, 0)).1)), (.int .i64 (((fewL ((l.getD i St4.d).ws)).getD j (0, 0)).2))])), (12, 98, (.slice bs29 1 cp30)), (13, 99, (.slice bs33 (j + 1) cp34)), (14, 12, (.slice bs33 (j + 1) cp34))]) (fun (bs29, cp30, bs33, cp34) S => (bif S 13 then (SlV 51 2 (.slice bs33 (j + 1) cp34) (j + 1) (pairs (((fewL ((l.getD i St4.d).ws)).take j) ++ [(((fewL ((l.getD i St4.d).ws)).getD j (0, 0)).1, ((fewL ((l.getD i St4.d).ws)).getD j (0, 0)).2)]))) else (SlV 51 2 (.slice bq j cq) j (pairs ((fewL ((l.getD i St4.d).ws)).take j)))) :: (SlV 31 2 (.slice bs24 ((fewL ((l.getD i St4.d).ws)).length) cp25) ((fewL ((l.getD i St4.d).ws)).length) (pairs (fewL ((l.getD i St4.d).ws)))) :: (Blk b4 [(.int .i64 ((l.getD i St4.d).kd)), (.int .i64 ((l.getD i St4.d).id)), (.int .i64 ((l.getD i St4.d).w)), (.slice bw ((l.getD i St4.d).ws.length) cw)] 41) :: (TurnsO p1 q ms a) :: (RTurnsO p2 q ms a) :: (bif S 12 then (SlV 51 2 (.slice bs29 1 cp30) 1 [(.int .i64 (((fewL ((l.getD i St4.d).ws)).getD j (0, 0)).1)), (.int .i64 (((fewL ((l.getD i St4.d).ws)).getD j (0, 0)).2))]) else Emp) :: R) (none, 0, none, 0) (by simp [Nat.ble]) (fun _ h => sat_emps [_, _, _, _, _] 1 h) (fun _ _ h => h) ?_ ?_
            · -- steps
             refine ⟨?_, ?_, ?_, ?_, ?_, ?_, ?_, ?_, ?_, ?_, ?_, ?_, ?_, ?_, ?_, trivial⟩
             · -- 0
              rintro ⟨bs29, cp30, bs33, cp34⟩ S hF hS D hp K hK
              try dsimp only at hF ⊢
              obtain ⟨hf0, hf1, hf2, hf3⟩ := hF
              refine d_need (small := [(12, (.slice bq j cq))]) ⟨look_b1 14 (nf hS D (k := 14) (i := 0) rfl) rfl rfl, trivial⟩ ?_
              refine tp rfl (lv_move rfl) ?_
              exact d_closes ⟨look_b1 14 (nf hS D (k := 14) (i := 0) rfl) rfl rfl, trivial⟩ 0 rfl rfl rfl hS (AgreeR.refl _) (t_sat (fun _ h => h) (hK (bs29, cp30, bs33, cp34) ⟨hf0, hf1, hf2, hf3⟩))
             · -- 1
              rintro ⟨bs29, cp30, bs33, cp34⟩ S hF hS D hp K hK
              try dsimp only at hF ⊢
              obtain ⟨hf0, hf1, hf2, hf3⟩ := hF
              refine d_need (small := [(11, (.slice bs24 ((fewL ((l.getD i St4.d).ws)).length) cp25))]) ⟨look_b rfl rfl, trivial⟩ ?_
              refine tp rfl (lv_move rfl) ?_
              exact d_closes ⟨look_b rfl rfl, trivial⟩ 1 rfl rfl rfl hS (AgreeR.refl _) (t_sat (fun _ h => h) (hK (bs29, cp30, bs33, cp34) ⟨hf0, hf1, hf2, hf3⟩))
             · -- 2
              rintro ⟨bs29, cp30, bs33, cp34⟩ S hF hS D hp K hK
              try dsimp only at hF ⊢
              obtain ⟨hf0, hf1, hf2, hf3⟩ := hF
              refine d_need (small := [(13, (.int .i64 ((j : Nat) : Int)))]) ⟨look_b rfl rfl, trivial⟩ ?_
              refine tp rfl (lv_move rfl) ?_
              exact d_closes ⟨look_b rfl rfl, trivial⟩ 2 rfl rfl rfl hS (AgreeR.refl _) (t_sat (fun _ h => h) (hK (bs29, cp30, bs33, cp34) ⟨hf0, hf1, hf2, hf3⟩))
             · -- 3
              rintro ⟨bs29, cp30, bs33, cp34⟩ S hF hS D hp K hK
              try dsimp only at hF ⊢
              obtain ⟨hf0, hf1, hf2, hf3⟩ := hF
              have s1 := hp 1 rfl
              have s2 := hp 2 rfl
              refine d_need (small := [(87, (.slice bs24 ((fewL ((l.getD i St4.d).ws)).length) cp25)), (88, (.int .i64 ((j : Nat) : Int)))]) ⟨look_row rfl 1 rfl s1, look_row rfl 2 rfl s2, trivial⟩ ?_
              refine tp rfl (lv_indexAddr (k' := j * 2) Try.underlying29 Try.sizeOf31 rfl rfl hok26 (by omega) (by omega) (by omega)) ?_
              exact d_closes ⟨look_row rfl 1 rfl s1, look_row rfl 2 rfl s2, trivial⟩ 3 rfl rfl rfl hS (AgreeR.refl _) (t_sat (fun _ h => h) (hK (bs29, cp30, bs33, cp34) ⟨hf0, hf1, hf2, hf3⟩))
             · -- 4
              rintro ⟨bs29, cp30, bs33, cp34⟩ S hF hS D hp K hK
              try dsimp only at hF ⊢
              obtain ⟨hf0, hf1, hf2, hf3⟩ := hF
              have s3 := hp 3 rfl
              refine d_need (small := [(89, (.pointer (some (ad bs24 (j * 2)))))]) ⟨look_row rfl 3 rfl s3, trivial⟩ ?_
              refine tp rfl (lv_fieldAddr_ad (o' := j * 2) Try.underlying31 rfl Try.sizeOf3 rfl rfl) ?_
              exact d_closes ⟨look_row rfl 3 rfl s3, trivial⟩ 4 rfl rfl rfl hS (AgreeR.refl _) (t_sat (fun _ h => h) (hK (bs29, cp30, bs33, cp34) ⟨hf0, hf1, hf2, hf3⟩))
             · -- 5
              rintro ⟨bs29, cp30, bs33, cp34⟩ S hF hS D hp K hK
              try dsimp only at hF ⊢
              obtain ⟨hf0, hf1, hf2, hf3⟩ := hF
              have s4 := hp 4 rfl
              refine d_need (small := [(90, (.pointer (some (ad bs24 (j * 2)))))]) ⟨look_row rfl 4 rfl s4, trivial⟩ ?_
              refine tp rfl (lv_load Try.isAgg3 rfl (gives_sl (.tail _ (.head _)) (pairs_get0 (by first | omega | (simp; omega))))) ?_
              exact d_closes ⟨look_row rfl 4 rfl s4, trivial⟩ 5 rfl rfl rfl hS (AgreeR.refl _) (t_sat (fun _ h => h) (hK (bs29, cp30, bs33, cp34) ⟨hf0, hf1, hf2, hf3⟩))
             · -- 6
              rintro ⟨bs29, cp30, bs33, cp34⟩ S hF hS D hp K hK
              try dsimp only at hF ⊢
              obtain ⟨hf0, hf1, hf2, hf3⟩ := hF
              refine d_need (small := [(11, (.slice bs24 ((fewL ((l.getD i St4.d).ws)).length) cp25))]) ⟨look_b rfl rfl, trivial⟩ ?_
              refine tp rfl (lv_move rfl) ?_
              exact d_closes ⟨look_b rfl rfl, trivial⟩ 6 rfl rfl rfl hS (AgreeR.refl _) (t_sat (fun _ h => h) (hK (bs29, cp30, bs33, cp34) ⟨hf0, hf1, hf2, hf3⟩))
             · -- 7
              rintro ⟨bs29, cp30, bs33, cp34⟩ S hF hS D hp K hK
              try dsimp only at hF ⊢
              obtain ⟨hf0, hf1, hf2, hf3⟩ := hF
              refine d_need (small := [(13, (.int .i64 ((j : Nat) : Int)))]) ⟨look_b rfl rfl, trivial⟩ ?_
              refine tp rfl (lv_move rfl) ?_
              exact d_closes ⟨look_b rfl rfl, trivial⟩ 7 rfl rfl rfl hS (AgreeR.refl _) (t_sat (fun _ h => h) (hK (bs29, cp30, bs33, cp34) ⟨hf0, hf1, hf2, hf3⟩))
             · -- 8
              rintro ⟨bs29, cp30, bs33, cp34⟩ S hF hS D hp K hK
              try dsimp only at hF ⊢
              obtain ⟨hf0, hf1, hf2, hf3⟩ := hF
              have s6 := hp 6 rfl
              have s7 := hp 7 rfl
              refine d_need (small := [(92, (.slice bs24 ((fewL ((l.getD i St4.d).ws)).length) cp25)), (93, (.int .i64 ((j : Nat) : Int)))]) ⟨look_row rfl 6 rfl s6, look_row rfl 7 rfl s7, trivial⟩ ?_
              refine tp rfl (lv_indexAddr (k' := j * 2) Try.underlying29 Try.sizeOf31 rfl rfl hok26 (by omega) (by omega) (by omega)) ?_
              exact d_closes ⟨look_row rfl 6 rfl s6, look_row rfl 7 rfl s7, trivial⟩ 8 rfl rfl rfl hS (AgreeR.refl _) (t_sat (fun _ h => h) (hK (bs29, cp30, bs33, cp34) ⟨hf0, hf1, hf2, hf3⟩))
             · -- 9
              rintro ⟨bs29, cp30, bs33, cp34⟩ S hF hS D hp K hK
              try dsimp only at hF ⊢
              obtain ⟨hf0, hf1, hf2, hf3⟩ := hF
              have s8 := hp 8 rfl
              refine d_need (small := [(94, (.pointer (some (ad bs24 (j * 2)))))]) ⟨look_row rfl 8 rfl s8, trivial⟩ ?_
              refine tp rfl (lv_fieldAddr_ad (o' := j * 2 + 1) Try.underlying31 rfl Try.sizeOf3 rfl rfl) ?_
              exact d_closes ⟨look_row rfl 8 rfl s8, trivial⟩ 9 rfl rfl rfl hS (AgreeR.refl _) (t_sat (fun _ h => h) (hK (bs29, cp30, bs33, cp34) ⟨hf0, hf1, hf2, hf3⟩))
             · -- 10
              rintro ⟨bs29, cp30, bs33, cp34⟩ S hF hS D hp K hK
              try dsimp only at hF ⊢
              obtain ⟨hf0, hf1, hf2, hf3⟩ := hF
              have s9 := hp 9 rfl
              refine d_need (small := [(95, (.pointer (some (ad bs24 (j * 2 + 1)))))]) ⟨look_row rfl 9 rfl s9, trivial⟩ ?_
              refine tp rfl (lv_load Try.isAgg3 rfl (gives_sl (.tail _ (.head _)) (pairs_get1 (by first | omega | (simp; omega))))) ?_
              exact d_closes ⟨look_row rfl 9 rfl s9, trivial⟩ 10 rfl rfl rfl hS (AgreeR.refl _) (t_sat (fun _ h => h) (hK (bs29, cp30, bs33, cp34) ⟨hf0, hf1, hf2, hf3⟩))
             · -- 11
              rintro ⟨bs29, cp30, bs33, cp34⟩ S hF hS D hp K hK
              try dsimp only at hF ⊢
              obtain ⟨hf0, hf1, hf2, hf3⟩ := hF
              have s5 := hp 5 rfl
              have s10 := hp 10 rfl
              refine d_need (small := [(91, (.int .i64 (((fewL ((l.getD i St4.d).ws)).getD j (0, 0)).1))), (96, (.int .i64 (((fewL ((l.getD i St4.d).ws)).getD j (0, 0)).2)))]) ⟨look_row rfl 5 rfl s5, look_row rfl 10 rfl s10, trivial⟩ ?_
              refine tp rfl (lv_build (cs := [(.int .i64 (((fewL ((l.getD i St4.d).ws)).getD j (0, 0)).1)), (.int .i64 (((fewL ((l.getD i St4.d).ws)).getD j (0, 0)).2))]) (pl := [(0, 1), (1, 1)]) Try.underlying51 Try.zeroValue51 (fun _ => by simp) rfl rfl) ?_
              exact d_closes ⟨look_row rfl 5 rfl s5, look_row rfl 10 rfl s10, trivial⟩ 11 rfl rfl rfl hS (AgreeR.refl _) (t_sat (fun _ h => h) (hK (bs29, cp30, bs33, cp34) ⟨hf0, hf1, hf2, hf3⟩))
             · -- 12
              rintro ⟨bs29, cp30, bs33, cp34⟩ S hF hS D hp K hK
              try dsimp only at hF ⊢
              obtain ⟨hf0, hf1, hf2, hf3⟩ := hF
              have s11 := hp 11 rfl
              refine d_need (small := [(97, (.agg #[(.int .i64 (((fewL ((l.getD i St4.d).ws)).getD j (0, 0)).1)), (.int .i64 (((fewL ((l.getD i St4.d).ws)).getD j (0, 0)).2))]))]) ⟨look_row rfl 11 rfl s11, trivial⟩ ?_
              refine tm rfl (mv_buildSlice (cs := [(.int .i64 (((fewL ((l.getD i St4.d).ws)).getD j (0, 0)).1)), (.int .i64 (((fewL ((l.getD i St4.d).ws)).getD j (0, 0)).2))]) Try.underlying50 Try.sizeOf51 Try.zeroValue51 (by decide) rfl rfl rfl rfl) ?_
              rintro _ _ ⟨bs29, cp30, hok31, hle32, rfl, rfl⟩
              refine t_sat (fun _ h => sat_put [_, _, _, _, _] h) ?_
              exact d_closes ⟨look_row rfl 11 rfl s11, trivial⟩ 12 rfl rfl rfl hS (by exact ⟨.inl rfl, .inl rfl, .inl rfl, .inl rfl, .inl rfl, .inl rfl, .inl rfl, .inl rfl, .inl rfl, .inl rfl, .inl rfl, .inl rfl, .inr ⟨rfl, rfl, hS⟩, .inl rfl, .inl rfl, trivial⟩) (t_sat (fun _ h => h) (hK (bs29, cp30, bs33, cp34) ⟨(fun _ => hok31), (fun _ => hle32), hf2, hf3⟩))
             · -- 13
              rintro ⟨bs29, cp30, bs33, cp34⟩ S hF hS D hp K hK
              try dsimp only at hF ⊢
              obtain ⟨hf0, hf1, hf2, hf3⟩ := hF
              have s12 := hp 12 rfl
              have hok31 := hf0 s12
              have hle32 := hf1 s12
              have s0 := hp 0 rfl
              refine d_need (small := [(86, (.slice bq j cq)), (98, (.slice bs29 1 cp30))]) ⟨look_row rfl 0 rfl s0, look_row rfl 12 rfl s12, trivial⟩ ?_
              refine t_cF hS ?_
              refine t_f5 ?_
              refine t_cT s12 ?_
              refine t_f1 ?_
              refine tm rfl (mv_append (i := Try.t51) Try.underlying50 Try.type51 rfl rfl rfl (by decide) rfl rfl hok31 (by first | (simp; done) | (simp; omega)) (rd_sl (.tail _ (.head _))) (by simp [Value.oneCell']) (by rw [show Try.t51.bytes = 16 from rfl]; omega)) ?_
              rintro _ _ ⟨bs33, cp34, hok35, hle36, rfl, rfl⟩
              rw [show pairs ((fewL ((l.getD i St4.d).ws)).take j) ++ [(.int .i64 (((fewL ((l.getD i St4.d).ws)).getD j (0, 0)).1)), (.int .i64 (((fewL ((l.getD i St4.d).ws)).getD j (0, 0)).2))] = pairs (((fewL ((l.getD i St4.d).ws)).take j) ++ [(((fewL ((l.getD i St4.d).ws)).getD j (0, 0)).1, ((fewL ((l.getD i St4.d).ws)).getD j (0, 0)).2)]) from pairs_snoc _ _ _]
              refine t_f1 ?_
              refine t_wT (B := Emp) s12 ?_
              refine t_f5 ?_
              refine t_f5 ?_
              refine t_f5 ?_
              refine t_f5 ?_
              refine t_f5 ?_
              exact d_closes ⟨look_row rfl 0 rfl s0, look_row rfl 12 rfl s12, trivial⟩ 13 rfl rfl rfl hS (by exact ⟨.inl rfl, .inl rfl, .inl rfl, .inl rfl, .inl rfl, .inl rfl, .inl rfl, .inl rfl, .inl rfl, .inl rfl, .inl rfl, .inl rfl, .inl rfl, .inr ⟨rfl, rfl, hS⟩, .inr ⟨rfl, rfl, (nf hS D (k := 14) (i := 13) rfl)⟩, trivial⟩) (t_sat (fun _ h => h) (hK (bs29, cp30, bs33, cp34) ⟨hf0, hf1, (fun _ => hok35), (fun _ => hle36)⟩))
             · -- 14
              rintro ⟨bs29, cp30, bs33, cp34⟩ S hF hS D hp K hK
              try dsimp only at hF ⊢
              obtain ⟨hf0, hf1, hf2, hf3⟩ := hF
              have s13 := hp 13 rfl
              refine d_need (small := [(99, (.slice bs33 (j + 1) cp34))]) ⟨look_row rfl 13 rfl s13, trivial⟩ ?_
              refine tp rfl (lv_assign rfl) ?_
              exact d_closes ⟨look_row rfl 13 rfl s13, trivial⟩ 14 rfl rfl rfl hS (AgreeR.refl _) (t_sat (fun _ h => h) (hK (bs29, cp30, bs33, cp34) ⟨hf0, hf1, hf2, hf3⟩))
            · -- behind
             rintro ⟨bs29, cp30, bs33, cp34⟩ hF
             try dsimp only at hF ⊢
             obtain ⟨hf0, hf1, hf2, hf3⟩ := hF
             have hok31 := hf0 rfl
             have hle32 := hf1 rfl
             have hok35 := hf2 rfl
             have hle36 := hf3 rfl
             refine t_weak (E' := [(0, (.int .i64 n)), (1, (.slice bl l.length cl)), (5, (.bool true)), (6, (.pointer (some ⟨p1, 0, none⟩))), (7, (.pointer (some ⟨p2, 0, none⟩))), (8, (.int .i64 ((i : Nat) : Int))), (9, (.pointer (some ⟨b4, 0, none⟩))), (10, (.bool true)), (11, (.slice bs24 ((fewL ((l.getD i St4.d).ws)).length) cp25)), (12, (.slice bs33 (j + 1) cp34)), (13, (.int .i64 ((j : Nat) : Int))), (29, (.bool false)), (37, (.bool true)), (45, (.int .i64 ((l.getD i St4.d).kd))), (46, (.bool false)), (61, (.bool false)), (72, (.bool true)), (83, (.bool true))]) ⟨rfl, rfl, rfl, rfl, rfl, rfl, rfl, rfl, rfl, rfl, rfl, rfl, rfl, rfl, rfl, rfl, rfl, rfl, trivial⟩ ?_
             refine q_in_n ?_
             refine q_then_n (hK30 _ _ ?_)
             refine c_region ?_
             refine tp rfl (lv_move rfl) ?_
             refine tp rfl (lv_add (c := ((j + 1 : Nat) : Int)) rfl rfl (wr_i64_succ (by omega))) ?_
             refine tp rfl (lv_assign rfl) ?_
             refine t_done ?_
             refine q_then_n ?_
             refine t_f5 ?_
             refine t_drop ?_
             rw [show ((fewL ((l.getD i St4.d).ws)).take j) ++ [(((fewL ((l.getD i St4.d).ws)).getD j (0, 0)).1, ((fewL ((l.getD i St4.d).ws)).getD j (0, 0)).2)] = (fewL ((l.getD i St4.d).ws)).take (j + 1) from (take_succ_getD (by omega) (0, 0)).symm]
             exact t_weak (by exact ⟨rfl, rfl, rfl, rfl, rfl, rfl, rfl, rfl, rfl, rfl, rfl, rfl, rfl, rfl, rfl, rfl, rfl, trivial⟩) ((hK27 (j + 1, bs33, cp34) ⟨by omega, hok35, hle36⟩ (by dsimp only; omega)))
           · -- no
            refine tp rfl (lv_lss rfl rfl (decide_eq_false h28)) ?_
            refine t_done ?_
            refine q_then_n (hK29 _ _ ?_)
            refine c_false rfl ?_
            refine c_exit ?_
            refine q_then_x ?_
            refine q_then_x ?_
            refine q_in_x ?_
            refine q_then_n (hK25 _ _ ?_)
            refine c_seq (fun K30 hK30 => ?_)
            have hjl : j = (fewL ((l.getD i St4.d).ws)).length := by omega
            rw [show (fewL ((l.getD i St4.d).ws)).take j = fewL ((l.getD i St4.d).ws) from List.take_of_length_le (by omega)]
            rcases hany : anyPos (costsL ms (fewL ((l.getD i St4.d).ws))) with _ | _
            · -- false
             refine c_region ?_
             refine tp rfl (lv_move rfl) ?_
             refine tp rfl (lv_move rfl) ?_
             refine t_f3 ?_
             refine tc rfl (en_fn Try.call13 rfl) (take_non (q := q) (ms := ms) (a := a) (fewL ((l.getD i St4.d).ws)) rfl (rd_sl (.tail _ (.head _))) hok26 (by omega) (by omega) hany) ?_
             rintro _ _ ⟨rfl, rfl⟩
             refine tp rfl (lv_move rfl) ?_
             refine tp rfl (lv_extract rfl rfl) ?_
             refine tp rfl (lv_extract rfl rfl) ?_
             refine tp rfl (lv_assign rfl) ?_
             refine tp rfl (lv_assign rfl) ?_
             refine t_done ?_
             refine q_then_n (hK30 _ _ ?_)
             refine c_seq (fun K31 hK31 => ?_)
             refine c_region ?_
             refine tp rfl (lv_move rfl) ?_
             refine tp rfl (lv_move rfl) ?_
             refine t_f4 ?_
             refine tc rfl (en_fn Try.call21 rfl) (rtake_no (q := q) (ms := ms) (a := a) (fewL ((l.getD i St4.d).ws)) hjl.symm (rd_sl (.tail _ (.head _))) hbq (by omega) (by omega) hany) ?_
             rintro _ _ ⟨rfl, rfl⟩
             refine tp rfl (lv_move rfl) ?_
             refine tp rfl (lv_extract rfl rfl) ?_
             refine tp rfl (lv_extract rfl rfl) ?_
             refine tp rfl (lv_assign rfl) ?_
             refine tp rfl (lv_assign rfl) ?_
             refine t_done ?_
             refine q_then_n (hK31 _ _ ?_)
             refine c_region ?_
             refine tp rfl (lv_move rfl) ?_
             refine tp rfl (lv_move rfl) ?_
             refine tp rfl (lv_eql (r := true) rfl rfl (by decide)) ?_
             refine tp rfl (lv_move rfl) ?_
             refine t_guard rfl rfl ?_
             refine tp rfl (lv_move rfl) ?_
             refine t_guard rfl rfl ?_
             refine tp rfl (lv_move rfl) ?_
             refine t_guard rfl rfl ?_
             refine tp rfl (lv_eqb Try.underlying4 rfl rfl rfl) ?_
             refine tp rfl (lv_pick_t rfl rfl) ?_
             refine tp rfl (lv_assign rfl) ?_
             refine t_done ?_
             refine q_in_n ?_
             refine q_then_n ?_
             refine t_f2 ?_
             refine t_drop ?_
             refine t_f2 ?_
             refine t_drop ?_
             refine t_f1 ?_
             refine t_f2 ?_
             exact t_weak (by exact ⟨rfl, rfl, rfl, rfl, rfl, rfl, rfl, rfl, rfl, rfl, trivial⟩) (hM15 ms a (by omega))
            · -- true
             refine c_region ?_
             refine tp rfl (lv_move rfl) ?_
             refine tp rfl (lv_move rfl) ?_
             refine t_f3 ?_
             refine tc rfl (en_fn Try.call13 rfl) (take_okn (q := q) (ms := ms) (a := a) (fewL ((l.getD i St4.d).ws)) rfl (rd_sl (.tail _ (.head _))) hok26 (by omega) (by omega) hany) ?_
             rintro _ _ ⟨mt, ta, ht, rfl, rfl⟩
             refine tp rfl (lv_move rfl) ?_
             refine tp rfl (lv_extract rfl rfl) ?_
             refine tp rfl (lv_extract rfl rfl) ?_
             refine tp rfl (lv_assign rfl) ?_
             refine tp rfl (lv_assign rfl) ?_
             refine t_done ?_
             refine q_then_n (hK30 _ _ ?_)
             refine c_seq (fun K31 hK31 => ?_)
             refine c_region ?_
             refine tp rfl (lv_move rfl) ?_
             refine tp rfl (lv_move rfl) ?_
             refine t_f4 ?_
             refine tc rfl (en_fn Try.call21 rfl) (rtake_ok (q := q) (ms := ms) (a := a) (fewL ((l.getD i St4.d).ws)) hjl.symm (rd_sl (.tail _ (.head _))) hbq (by omega) (by omega) ⟨hany, hT.tb, any_al hany hal, by omega⟩ ht) ?_
             rintro _ _ ⟨rfl, rfl⟩
             refine tp rfl (lv_move rfl) ?_
             refine tp rfl (lv_extract rfl rfl) ?_
             refine tp rfl (lv_extract rfl rfl) ?_
             refine tp rfl (lv_assign rfl) ?_
             refine tp rfl (lv_assign rfl) ?_
             refine t_done ?_
             refine q_then_n (hK31 _ _ ?_)
             refine c_region ?_
             refine tp rfl (lv_move rfl) ?_
             refine tp rfl (lv_move rfl) ?_
             refine tp rfl (lv_eql rfl rfl (beq_iff_eq.2 rfl)) ?_
             refine tp rfl (lv_move rfl) ?_
             refine t_guard rfl rfl ?_
             refine tp rfl (lv_move rfl) ?_
             refine t_guard rfl rfl ?_
             refine tp rfl (lv_move rfl) ?_
             refine t_guard rfl rfl ?_
             refine tp rfl (lv_eqb Try.underlying4 rfl rfl rfl) ?_
             refine tp rfl (lv_pick_t rfl rfl) ?_
             refine tp rfl (lv_assign rfl) ?_
             refine t_done ?_
             refine q_in_n ?_
             refine q_then_n ?_
             refine t_f2 ?_
             refine t_drop ?_
             refine t_f2 ?_
             refine t_drop ?_
             refine t_f1 ?_
             refine t_f2 ?_
             exact t_weak (by exact ⟨rfl, rfl, rfl, rfl, rfl, rfl, rfl, rfl, rfl, rfl, trivial⟩) (hM15 (setC mt ta ((mt.getD ta M3.z).c - (costsL ms (fewL ((l.getD i St4.d).ws))).getD ta 0)) ta (by rw [setC_len]; have h1 := (ht.inv (I := fun s => s.1.length = ms.length) rfl (fun s hs _ => by rw [stepT_len]; exact hs)).1; simp only at h1; omega))
          · -- no
           refine tp rfl (lv_eql rfl rfl (beq_eq_false_iff_ne.2 h23)) ?_
           refine tp rfl (lv_assign rfl) ?_
           refine t_done ?_
           refine q_then_n (hK22 _ _ ?_)
           refine c_false rfl ?_
           refine c_region ?_
           by_cases h29 : ((l.getD i St4.d).kd) = 5
           · -- yes
            refine tp rfl (lv_eql rfl rfl (beq_iff_eq.2 h29)) ?_
            refine tp rfl (lv_assign rfl) ?_
            refine t_done ?_
            refine q_then_n (hK19 _ _ ?_)
            refine c_true rfl ?_
            refine c_seq (fun K23 hK23 => ?_)
            refine c_region ?_
            refine tp rfl (lv_fieldAddr (o' := 3) Try.underlying41 rfl Try.sizeOf29 rfl rfl) ?_
            refine tp rfl (lv_load Try.isAgg29 rfl (gives_blk (.head _) rfl)) ?_
            refine tc rfl (en_fn Try.call15 rfl) (few_ok ((l.getD i St4.d).ws) (Rd.cons (Rd.cons (Rd.cons hrw))) okw (by omega)) ?_
            rintro _ _ ⟨bs30, cp31, hok32, hle33, rfl, rfl⟩
            refine tp rfl (lv_assign rfl) ?_
            refine t_done ?_
            refine q_then_n (hK23 _ _ ?_)
            refine c_seq (fun K24 hK24 => ?_)
            refine c_region ?_
            refine tp rfl (lv_assign rfl) ?_
            refine t_done ?_
            refine q_then_n (hK24 _ _ ?_)
            refine c_seq (fun K25 hK25 => ?_)
            refine c_seq (fun K26 hK26 => ?_)
            refine c_region ?_
            refine tp rfl (lv_assign rfl) ?_
            refine t_done ?_
            refine q_then_n (hK26 _ _ ?_)
            refine c_block ?_
            refine t_sat (fun _ h => sat_nilsl 51 2 h) ?_
            have hfl := few_len (l.getD i St4.d).ws
            refine c_loop (γ := (Nat) × (Option Addr) × (Nat)) (fun (j, bq, cq) => j ≤ (fewL ((l.getD i St4.d).ws)).length ∧ SlOk bq j ∧ j ≤ cq) (fun (j, bq, cq) => [(0, (.int .i64 n)), (1, (.slice bl l.length cl)), (5, (.bool true)), (6, (.pointer (some ⟨p1, 0, none⟩))), (7, (.pointer (some ⟨p2, 0, none⟩))), (8, (.int .i64 ((i : Nat) : Int))), (9, (.pointer (some ⟨b4, 0, none⟩))), (10, (.bool true)), (11, (.slice bs30 ((fewL ((l.getD i St4.d).ws)).length) cp31)), (12, (.slice bq j cq)), (13, (.int .i64 ((j : Nat) : Int))), (29, (.bool false)), (37, (.bool true)), (45, (.int .i64 ((l.getD i St4.d).kd))), (46, (.bool false)), (61, (.bool false)), (72, (.bool true))]) (fun (j, bq, cq) => (SlV 51 2 (.slice bq j cq) j (pairs ((fewL ((l.getD i St4.d).ws)).take j))) :: (SlV 31 2 (.slice bs30 ((fewL ((l.getD i St4.d).ws)).length) cp31) ((fewL ((l.getD i St4.d).ws)).length) (pairs (fewL ((l.getD i St4.d).ws)))) :: (Blk b4 [(.int .i64 ((l.getD i St4.d).kd)), (.int .i64 ((l.getD i St4.d).id)), (.int .i64 ((l.getD i St4.d).w)), (.slice bw ((l.getD i St4.d).ws.length) cw)] 41) :: (TurnsO p1 q ms a) :: (RTurnsO p2 q ms a) :: R) (fun (j, bq, cq) => (fewL ((l.getD i St4.d).ws)).length - j) (0, none, 0) ⟨by omega, slok_none, Nat.le_refl _⟩ ⟨rfl, rfl, rfl, rfl, rfl, rfl, rfl, rfl, rfl, rfl, rfl, rfl, rfl, rfl, rfl, rfl, rfl, trivial⟩ (fun _ h => h) ?_
            rintro ⟨j, bq, cq⟩ K27 hF hK27
            try dsimp only at hF hK27 ⊢
            obtain ⟨hj, hbq, hcq⟩ := hF
            refine c_seq (fun K28 hK28 => ?_)
            refine c_seq (fun K29 hK29 => ?_)
            refine c_region ?_
            refine tp rfl (lv_move rfl) ?_
            refine tp rfl (lv_move rfl) ?_
            refine tp rfl (lv_len Try.underlying29 rfl rfl) ?_
            by_cases h34 : ((j : Nat) : Int) < (((fewL ((l.getD i St4.d).ws)).length : Nat) : Int)
            · -- yes
             refine tp rfl (lv_lss rfl rfl (decide_eq_true h34)) ?_
             refine t_done ?_
             refine q_then_n (hK29 _ _ ?_)
             refine c_true rfl ?_
             refine c_skip ?_
             refine q_then_n (hK28 _ _ ?_)
             refine c_seq (fun K30 hK30 => ?_)
             refine c_block ?_
             refine c_draw (γ := Option Addr × Nat × Option Addr × Nat) (n := 15) Try.mixed rfl rfl (fun (bs35, cp36, bs39, cp40) S => (S 12 = true → SlOk bs35 1) ∧ (S 12 = true → 1 ≤ cp36) ∧ (S 13 = true → SlOk bs39 (j + 1)) ∧ (S 13 = true → j + 1 ≤ cp40)) (fun (bs35, cp36, bs39, cp40) => [(0, 86, (.slice bq j cq)), (1, 87, (.slice bs30 ((fewL ((l.getD i St4.d).ws)).length) cp31)), (2, 88, (.int .i64 ((j : Nat) : Int))), (3, 89, (.pointer (some (ad bs30 (j * 2))))), (4, 90, (.pointer (some (ad bs30 (j * 2))))), (5, 91, (.int .i64 (((fewL ((l.getD i St4.d).ws)).getD j (0, 0)).1))), (6, 92, (.slice bs30 ((fewL ((l.getD i St4.d).ws)).length) cp31)), (7, 93, (.int .i64 ((j : Nat) : Int))), (8, 94, (.pointer (some (ad bs30 (j * 2))))), (9, 95, (.pointer (some (ad bs30 (j * 2 + 1))))), (10, 96, (.int .i64 (((fewL ((l.getD i St4.d).ws)).getD j (0, 0)).2))), (11, 97, (.agg #[(.int .i64 (((fewL ((l.getD i St4.d).ws)).getD j (0, 0)).1)), (.int .i64 (((fewL ((l.getD i St4.d).ws)).getD j (0, 0)).2))])), (12, 98, (.slice bs35 1 cp36)), (13, 99, (.slice bs39 (j + 1) cp40)), (14, 12, (.slice bs39 (j + 1) cp40))]) (fun (bs35, cp36, bs39, cp40) S => (bif S 13 then (SlV 51 2 (.slice bs39 (j + 1) cp40) (j + 1) (pairs (((fewL ((l.getD i St4.d).ws)).take j) ++ [(((fewL ((l.getD i St4.d).ws)).getD j (0, 0)).1, ((fewL ((l.getD i St4.d).ws)).getD j (0, 0)).2)]))) else (SlV 51 2 (.slice bq j cq) j (pairs ((fewL ((l.getD i St4.d).ws)).take j)))) :: (SlV 31 2 (.slice bs30 ((fewL ((l.getD i St4.d).ws)).length) cp31) ((fewL ((l.getD i St4.d).ws)).length) (pairs (fewL ((l.getD i St4.d).ws)))) :: (Blk b4 [(.int .i64 ((l.getD i St4.d).kd)), (.int .i64 ((l.getD i St4.d).id)), (.int .i64 ((l.getD i St4.d).w)), (.slice bw ((l.getD i St4.d).ws.length) cw)] 41) :: (TurnsO p1 q ms a) :: (RTurnsO p2 q ms a) :: (bif S 12 then (SlV 51 2 (.slice bs35 1 cp36) 1 [(.int .i64 (((fewL ((l.getD i St4.d).ws)).getD j (0, 0)).1)), (.int .i64 (((fewL ((l.getD i St4.d).ws)).getD j (0, 0)).2))]) else Emp) :: R) (none, 0, none, 0) (by simp [Nat.ble]) (fun _ h => sat_emps [_, _, _, _, _] 1 h) (fun _ _ h => h) ?_ ?_
             · -- steps
              refine ⟨?_, ?_, ?_, ?_, ?_, ?_, ?_, ?_, ?_, ?_, ?_, ?_, ?_, ?_, ?_, trivial⟩
              · -- 0
               rintro ⟨bs35, cp36, bs39, cp40⟩ S hF hS D hp K hK
               try dsimp only at hF ⊢
               obtain ⟨hf0, hf1, hf2, hf3⟩ := hF
               refine d_need (small := [(12, (.slice bq j cq))]) ⟨look_b1 14 (nf hS D (k := 14) (i := 0) rfl) rfl rfl, trivial⟩ ?_
               refine tp rfl (lv_move rfl) ?_
               exact d_closes ⟨look_b1 14 (nf hS D (k := 14) (i := 0) rfl) rfl rfl, trivial⟩ 0 rfl rfl rfl hS (AgreeR.refl _) (t_sat (fun _ h => h) (hK (bs35, cp36, bs39, cp40) ⟨hf0, hf1, hf2, hf3⟩))
              · -- 1
               rintro ⟨bs35, cp36, bs39, cp40⟩ S hF hS D hp K hK
               try dsimp only at hF ⊢
               obtain ⟨hf0, hf1, hf2, hf3⟩ := hF
               refine d_need (small := [(11, (.slice bs30 ((fewL ((l.getD i St4.d).ws)).length) cp31))]) ⟨look_b rfl rfl, trivial⟩ ?_
               refine tp rfl (lv_move rfl) ?_
               exact d_closes ⟨look_b rfl rfl, trivial⟩ 1 rfl rfl rfl hS (AgreeR.refl _) (t_sat (fun _ h => h) (hK (bs35, cp36, bs39, cp40) ⟨hf0, hf1, hf2, hf3⟩))
              · -- 2
               rintro ⟨bs35, cp36, bs39, cp40⟩ S hF hS D hp K hK
               try dsimp only at hF ⊢
               obtain ⟨hf0, hf1, hf2, hf3⟩ := hF
               refine d_need (small := [(13, (.int .i64 ((j : Nat) : Int)))]) ⟨look_b rfl rfl, trivial⟩ ?_
               refine tp rfl (lv_move rfl) ?_
               exact d_closes ⟨look_b rfl rfl, trivial⟩ 2 rfl rfl rfl hS (AgreeR.refl _) (t_sat (fun _ h => h) (hK (bs35, cp36, bs39, cp40) ⟨hf0, hf1, hf2, hf3⟩))
              · -- 3
               rintro ⟨bs35, cp36, bs39, cp40⟩ S hF hS D hp K hK
               try dsimp only at hF ⊢
               obtain ⟨hf0, hf1, hf2, hf3⟩ := hF
               have s1 := hp 1 rfl
               have s2 := hp 2 rfl
               refine d_need (small := [(87, (.slice bs30 ((fewL ((l.getD i St4.d).ws)).length) cp31)), (88, (.int .i64 ((j : Nat) : Int)))]) ⟨look_row rfl 1 rfl s1, look_row rfl 2 rfl s2, trivial⟩ ?_
               refine tp rfl (lv_indexAddr (k' := j * 2) Try.underlying29 Try.sizeOf31 rfl rfl hok32 (by omega) (by omega) (by omega)) ?_
               exact d_closes ⟨look_row rfl 1 rfl s1, look_row rfl 2 rfl s2, trivial⟩ 3 rfl rfl rfl hS (AgreeR.refl _) (t_sat (fun _ h => h) (hK (bs35, cp36, bs39, cp40) ⟨hf0, hf1, hf2, hf3⟩))
              · -- 4
               rintro ⟨bs35, cp36, bs39, cp40⟩ S hF hS D hp K hK
               try dsimp only at hF ⊢
               obtain ⟨hf0, hf1, hf2, hf3⟩ := hF
               have s3 := hp 3 rfl
               refine d_need (small := [(89, (.pointer (some (ad bs30 (j * 2)))))]) ⟨look_row rfl 3 rfl s3, trivial⟩ ?_
               refine tp rfl (lv_fieldAddr_ad (o' := j * 2) Try.underlying31 rfl Try.sizeOf3 rfl rfl) ?_
               exact d_closes ⟨look_row rfl 3 rfl s3, trivial⟩ 4 rfl rfl rfl hS (AgreeR.refl _) (t_sat (fun _ h => h) (hK (bs35, cp36, bs39, cp40) ⟨hf0, hf1, hf2, hf3⟩))
              · -- 5
               rintro ⟨bs35, cp36, bs39, cp40⟩ S hF hS D hp K hK
               try dsimp only at hF ⊢
               obtain ⟨hf0, hf1, hf2, hf3⟩ := hF
               have s4 := hp 4 rfl
               refine d_need (small := [(90, (.pointer (some (ad bs30 (j * 2)))))]) ⟨look_row rfl 4 rfl s4, trivial⟩ ?_
               refine tp rfl (lv_load Try.isAgg3 rfl (gives_sl (.tail _ (.head _)) (pairs_get0 (by first | omega | (simp; omega))))) ?_
               exact d_closes ⟨look_row rfl 4 rfl s4, trivial⟩ 5 rfl rfl rfl hS (AgreeR.refl _) (t_sat (fun _ h => h) (hK (bs35, cp36, bs39, cp40) ⟨hf0, hf1, hf2, hf3⟩))
              · -- 6
               rintro ⟨bs35, cp36, bs39, cp40⟩ S hF hS D hp K hK
               try dsimp only at hF ⊢
               obtain ⟨hf0, hf1, hf2, hf3⟩ := hF
               refine d_need (small := [(11, (.slice bs30 ((fewL ((l.getD i St4.d).ws)).length) cp31))]) ⟨look_b rfl rfl, trivial⟩ ?_
               refine tp rfl (lv_move rfl) ?_
               exact d_closes ⟨look_b rfl rfl, trivial⟩ 6 rfl rfl rfl hS (AgreeR.refl _) (t_sat (fun _ h => h) (hK (bs35, cp36, bs39, cp40) ⟨hf0, hf1, hf2, hf3⟩))
              · -- 7
               rintro ⟨bs35, cp36, bs39, cp40⟩ S hF hS D hp K hK
               try dsimp only at hF ⊢
               obtain ⟨hf0, hf1, hf2, hf3⟩ := hF
               refine d_need (small := [(13, (.int .i64 ((j : Nat) : Int)))]) ⟨look_b rfl rfl, trivial⟩ ?_
               refine tp rfl (lv_move rfl) ?_
               exact d_closes ⟨look_b rfl rfl, trivial⟩ 7 rfl rfl rfl hS (AgreeR.refl _) (t_sat (fun _ h => h) (hK (bs35, cp36, bs39, cp40) ⟨hf0, hf1, hf2, hf3⟩))
              · -- 8
               rintro ⟨bs35, cp36, bs39, cp40⟩ S hF hS D hp K hK
               try dsimp only at hF ⊢
               obtain ⟨hf0, hf1, hf2, hf3⟩ := hF
               have s6 := hp 6 rfl
               have s7 := hp 7 rfl
               refine d_need (small := [(92, (.slice bs30 ((fewL ((l.getD i St4.d).ws)).length) cp31)), (93, (.int .i64 ((j : Nat) : Int)))]) ⟨look_row rfl 6 rfl s6, look_row rfl 7 rfl s7, trivial⟩ ?_
               refine tp rfl (lv_indexAddr (k' := j * 2) Try.underlying29 Try.sizeOf31 rfl rfl hok32 (by omega) (by omega) (by omega)) ?_
               exact d_closes ⟨look_row rfl 6 rfl s6, look_row rfl 7 rfl s7, trivial⟩ 8 rfl rfl rfl hS (AgreeR.refl _) (t_sat (fun _ h => h) (hK (bs35, cp36, bs39, cp40) ⟨hf0, hf1, hf2, hf3⟩))
              · -- 9
               rintro ⟨bs35, cp36, bs39, cp40⟩ S hF hS D hp K hK
               try dsimp only at hF ⊢
               obtain ⟨hf0, hf1, hf2, hf3⟩ := hF
               have s8 := hp 8 rfl
               refine d_need (small := [(94, (.pointer (some (ad bs30 (j * 2)))))]) ⟨look_row rfl 8 rfl s8, trivial⟩ ?_
               refine tp rfl (lv_fieldAddr_ad (o' := j * 2 + 1) Try.underlying31 rfl Try.sizeOf3 rfl rfl) ?_
               exact d_closes ⟨look_row rfl 8 rfl s8, trivial⟩ 9 rfl rfl rfl hS (AgreeR.refl _) (t_sat (fun _ h => h) (hK (bs35, cp36, bs39, cp40) ⟨hf0, hf1, hf2, hf3⟩))
              · -- 10
               rintro ⟨bs35, cp36, bs39, cp40⟩ S hF hS D hp K hK
               try dsimp only at hF ⊢
               obtain ⟨hf0, hf1, hf2, hf3⟩ := hF
               have s9 := hp 9 rfl
               refine d_need (small := [(95, (.pointer (some (ad bs30 (j * 2 + 1)))))]) ⟨look_row rfl 9 rfl s9, trivial⟩ ?_
               refine tp rfl (lv_load Try.isAgg3 rfl (gives_sl (.tail _ (.head _)) (pairs_get1 (by first | omega | (simp; omega))))) ?_
               exact d_closes ⟨look_row rfl 9 rfl s9, trivial⟩ 10 rfl rfl rfl hS (AgreeR.refl _) (t_sat (fun _ h => h) (hK (bs35, cp36, bs39, cp40) ⟨hf0, hf1, hf2, hf3⟩))
              · -- 11
               rintro ⟨bs35, cp36, bs39, cp40⟩ S hF hS D hp K hK
               try dsimp only at hF ⊢
               obtain ⟨hf0, hf1, hf2, hf3⟩ := hF
               have s5 := hp 5 rfl
               have s10 := hp 10 rfl
               refine d_need (small := [(91, (.int .i64 (((fewL ((l.getD i St4.d).ws)).getD j (0, 0)).1))), (96, (.int .i64 (((fewL ((l.getD i St4.d).ws)).getD j (0, 0)).2)))]) ⟨look_row rfl 5 rfl s5, look_row rfl 10 rfl s10, trivial⟩ ?_
               refine tp rfl (lv_build (cs := [(.int .i64 (((fewL ((l.getD i St4.d).ws)).getD j (0, 0)).1)), (.int .i64 (((fewL ((l.getD i St4.d).ws)).getD j (0, 0)).2))]) (pl := [(0, 1), (1, 1)]) Try.underlying51 Try.zeroValue51 (fun _ => by simp) rfl rfl) ?_
               exact d_closes ⟨look_row rfl 5 rfl s5, look_row rfl 10 rfl s10, trivial⟩ 11 rfl rfl rfl hS (AgreeR.refl _) (t_sat (fun _ h => h) (hK (bs35, cp36, bs39, cp40) ⟨hf0, hf1, hf2, hf3⟩))
              · -- 12
               rintro ⟨bs35, cp36, bs39, cp40⟩ S hF hS D hp K hK
               try dsimp only at hF ⊢
               obtain ⟨hf0, hf1, hf2, hf3⟩ := hF
               have s11 := hp 11 rfl
               refine d_need (small := [(97, (.agg #[(.int .i64 (((fewL ((l.getD i St4.d).ws)).getD j (0, 0)).1)), (.int .i64 (((fewL ((l.getD i St4.d).ws)).getD j (0, 0)).2))]))]) ⟨look_row rfl 11 rfl s11, trivial⟩ ?_
               refine tm rfl (mv_buildSlice (cs := [(.int .i64 (((fewL ((l.getD i St4.d).ws)).getD j (0, 0)).1)), (.int .i64 (((fewL ((l.getD i St4.d).ws)).getD j (0, 0)).2))]) Try.underlying50 Try.sizeOf51 Try.zeroValue51 (by decide) rfl rfl rfl rfl) ?_
               rintro _ _ ⟨bs35, cp36, hok37, hle38, rfl, rfl⟩
               refine t_sat (fun _ h => sat_put [_, _, _, _, _] h) ?_
               exact d_closes ⟨look_row rfl 11 rfl s11, trivial⟩ 12 rfl rfl rfl hS (by exact ⟨.inl rfl, .inl rfl, .inl rfl, .inl rfl, .inl rfl, .inl rfl, .inl rfl, .inl rfl, .inl rfl, .inl rfl, .inl rfl, .inl rfl, .inr ⟨rfl, rfl, hS⟩, .inl rfl, .inl rfl, trivial⟩) (t_sat (fun _ h => h) (hK (bs35, cp36, bs39, cp40) ⟨(fun _ => hok37), (fun _ => hle38), hf2, hf3⟩))
              · -- 13
               rintro ⟨bs35, cp36, bs39, cp40⟩ S hF hS D hp K hK
               try dsimp only at hF ⊢
               obtain ⟨hf0, hf1, hf2, hf3⟩ := hF
               have s12 := hp 12 rfl
               have hok37 := hf0 s12
               have hle38 := hf1 s12
               have s0 := hp 0 rfl
               refine d_need (small := [(86, (.slice bq j cq)), (98, (.slice bs35 1 cp36))]) ⟨look_row rfl 0 rfl s0, look_row rfl 12 rfl s12, trivial⟩ ?_
               refine t_cF hS ?_
               refine t_f5 ?_
               refine t_cT s12 ?_
               refine t_f1 ?_
               refine tm rfl (mv_append (i := Try.t51) Try.underlying50 Try.type51 rfl rfl rfl (by decide) rfl rfl hok37 (by first | (simp; done) | (simp; omega)) (rd_sl (.tail _ (.head _))) (by simp [Value.oneCell']) (by rw [show Try.t51.bytes = 16 from rfl]; omega)) ?_
               rintro _ _ ⟨bs39, cp40, hok41, hle42, rfl, rfl⟩
               rw [show pairs ((fewL ((l.getD i St4.d).ws)).take j) ++ [(.int .i64 (((fewL ((l.getD i St4.d).ws)).getD j (0, 0)).1)), (.int .i64 (((fewL ((l.getD i St4.d).ws)).getD j (0, 0)).2))] = pairs (((fewL ((l.getD i St4.d).ws)).take j) ++ [(((fewL ((l.getD i St4.d).ws)).getD j (0, 0)).1, ((fewL ((l.getD i St4.d).ws)).getD j (0, 0)).2)]) from pairs_snoc _ _ _]
               refine t_f1 ?_
               refine t_wT (B := Emp) s12 ?_
               refine t_f5 ?_
               refine t_f5 ?_
               refine t_f5 ?_
               refine t_f5 ?_
               refine t_f5 ?_
               exact d_closes ⟨look_row rfl 0 rfl s0, look_row rfl 12 rfl s12, trivial⟩ 13 rfl rfl rfl hS (by exact ⟨.inl rfl, .inl rfl, .inl rfl, .inl rfl, .inl rfl, .inl rfl, .inl rfl, .inl rfl, .inl rfl, .inl rfl, .inl rfl, .inl rfl, .inl rfl, .inr ⟨rfl, rfl, hS⟩, .inr ⟨rfl, rfl, (nf hS D (k := 14) (i := 13) rfl)⟩, trivial⟩) (t_sat (fun _ h => h) (hK (bs35, cp36, bs39, cp40) ⟨hf0, hf1, (fun _ => hok41), (fun _ => hle42)⟩))
              · -- 14
               rintro ⟨bs35, cp36, bs39, cp40⟩ S hF hS D hp K hK
               try dsimp only at hF ⊢
               obtain ⟨hf0, hf1, hf2, hf3⟩ := hF
               have s13 := hp 13 rfl
               refine d_need (small := [(99, (.slice bs39 (j + 1) cp40))]) ⟨look_row rfl 13 rfl s13, trivial⟩ ?_
               refine tp rfl (lv_assign rfl) ?_
               exact d_closes ⟨look_row rfl 13 rfl s13, trivial⟩ 14 rfl rfl rfl hS (AgreeR.refl _) (t_sat (fun _ h => h) (hK (bs35, cp36, bs39, cp40) ⟨hf0, hf1, hf2, hf3⟩))
             · -- behind
              rintro ⟨bs35, cp36, bs39, cp40⟩ hF
              try dsimp only at hF ⊢
              obtain ⟨hf0, hf1, hf2, hf3⟩ := hF
              have hok37 := hf0 rfl
              have hle38 := hf1 rfl
              have hok41 := hf2 rfl
              have hle42 := hf3 rfl
              refine t_weak (E' := [(0, (.int .i64 n)), (1, (.slice bl l.length cl)), (5, (.bool true)), (6, (.pointer (some ⟨p1, 0, none⟩))), (7, (.pointer (some ⟨p2, 0, none⟩))), (8, (.int .i64 ((i : Nat) : Int))), (9, (.pointer (some ⟨b4, 0, none⟩))), (10, (.bool true)), (11, (.slice bs30 ((fewL ((l.getD i St4.d).ws)).length) cp31)), (12, (.slice bs39 (j + 1) cp40)), (13, (.int .i64 ((j : Nat) : Int))), (29, (.bool false)), (37, (.bool true)), (45, (.int .i64 ((l.getD i St4.d).kd))), (46, (.bool false)), (61, (.bool false)), (72, (.bool true)), (83, (.bool true))]) ⟨rfl, rfl, rfl, rfl, rfl, rfl, rfl, rfl, rfl, rfl, rfl, rfl, rfl, rfl, rfl, rfl, rfl, rfl, trivial⟩ ?_
              refine q_in_n ?_
              refine q_then_n (hK30 _ _ ?_)
              refine c_region ?_
              refine tp rfl (lv_move rfl) ?_
              refine tp rfl (lv_add (c := ((j + 1 : Nat) : Int)) rfl rfl (wr_i64_succ (by omega))) ?_
              refine tp rfl (lv_assign rfl) ?_
              refine t_done ?_
              refine q_then_n ?_
              refine t_f5 ?_
              refine t_drop ?_
              rw [show ((fewL ((l.getD i St4.d).ws)).take j) ++ [(((fewL ((l.getD i St4.d).ws)).getD j (0, 0)).1, ((fewL ((l.getD i St4.d).ws)).getD j (0, 0)).2)] = (fewL ((l.getD i St4.d).ws)).take (j + 1) from (take_succ_getD (by omega) (0, 0)).symm]
              exact t_weak (by exact ⟨rfl, rfl, rfl, rfl, rfl, rfl, rfl, rfl, rfl, rfl, rfl, rfl, rfl, rfl, rfl, rfl, rfl, trivial⟩) ((hK27 (j + 1, bs39, cp40) ⟨by omega, hok41, hle42⟩ (by dsimp only; omega)))
            · -- no
             refine tp rfl (lv_lss rfl rfl (decide_eq_false h34)) ?_
             refine t_done ?_
             refine q_then_n (hK29 _ _ ?_)
             refine c_false rfl ?_
             refine c_exit ?_
             refine q_then_x ?_
             refine q_then_x ?_
             refine q_in_x ?_
             refine q_then_n (hK25 _ _ ?_)
             refine c_seq (fun K30 hK30 => ?_)
             have hjl : j = (fewL ((l.getD i St4.d).ws)).length := by omega
             rw [show (fewL ((l.getD i St4.d).ws)).take j = fewL ((l.getD i St4.d).ws) from List.take_of_length_le (by omega)]
             rcases hany : anyPos (costsL ms (fewL ((l.getD i St4.d).ws))) with _ | _
             · -- false
              refine c_region ?_
              refine tp rfl (lv_move rfl) ?_
              refine tp rfl (lv_move rfl) ?_
              refine t_f3 ?_
              refine tc rfl (en_fn Try.call13 rfl) (take_non (q := q) (ms := ms) (a := a) (fewL ((l.getD i St4.d).ws)) rfl (rd_sl (.tail _ (.head _))) hok32 (by omega) (by omega) hany) ?_
              rintro _ _ ⟨rfl, rfl⟩
              refine tp rfl (lv_move rfl) ?_
              refine tp rfl (lv_extract rfl rfl) ?_
              refine tp rfl (lv_extract rfl rfl) ?_
              refine tp rfl (lv_assign rfl) ?_
              refine tp rfl (lv_assign rfl) ?_
              refine t_done ?_
              refine q_then_n (hK30 _ _ ?_)
              refine c_seq (fun K31 hK31 => ?_)
              refine c_region ?_
              refine tp rfl (lv_move rfl) ?_
              refine tp rfl (lv_move rfl) ?_
              refine t_f4 ?_
              refine tc rfl (en_fn Try.call21 rfl) (rtake_no (q := q) (ms := ms) (a := a) (fewL ((l.getD i St4.d).ws)) hjl.symm (rd_sl (.tail _ (.head _))) hbq (by omega) (by omega) hany) ?_
              rintro _ _ ⟨rfl, rfl⟩
              refine tp rfl (lv_move rfl) ?_
              refine tp rfl (lv_extract rfl rfl) ?_
              refine tp rfl (lv_extract rfl rfl) ?_
              refine tp rfl (lv_assign rfl) ?_
              refine tp rfl (lv_assign rfl) ?_
              refine t_done ?_
              refine q_then_n (hK31 _ _ ?_)
              refine c_region ?_
              refine tp rfl (lv_move rfl) ?_
              refine tp rfl (lv_move rfl) ?_
              refine tp rfl (lv_eql (r := true) rfl rfl (by decide)) ?_
              refine tp rfl (lv_move rfl) ?_
              refine t_guard rfl rfl ?_
              refine tp rfl (lv_move rfl) ?_
              refine t_guard rfl rfl ?_
              refine tp rfl (lv_move rfl) ?_
              refine t_guard rfl rfl ?_
              refine tp rfl (lv_eqb Try.underlying4 rfl rfl rfl) ?_
              refine tp rfl (lv_pick_t rfl rfl) ?_
              refine tp rfl (lv_assign rfl) ?_
              refine t_done ?_
              refine q_in_n ?_
              refine q_then_n ?_
              refine t_f2 ?_
              refine t_drop ?_
              refine t_f2 ?_
              refine t_drop ?_
              refine t_f1 ?_
              refine t_f2 ?_
              exact t_weak (by exact ⟨rfl, rfl, rfl, rfl, rfl, rfl, rfl, rfl, rfl, rfl, trivial⟩) (hM15 ms a (by omega))
             · -- true
              refine c_region ?_
              refine tp rfl (lv_move rfl) ?_
              refine tp rfl (lv_move rfl) ?_
              refine t_f3 ?_
              refine tc rfl (en_fn Try.call13 rfl) (take_okn (q := q) (ms := ms) (a := a) (fewL ((l.getD i St4.d).ws)) rfl (rd_sl (.tail _ (.head _))) hok32 (by omega) (by omega) hany) ?_
              rintro _ _ ⟨mt, ta, ht, rfl, rfl⟩
              refine tp rfl (lv_move rfl) ?_
              refine tp rfl (lv_extract rfl rfl) ?_
              refine tp rfl (lv_extract rfl rfl) ?_
              refine tp rfl (lv_assign rfl) ?_
              refine tp rfl (lv_assign rfl) ?_
              refine t_done ?_
              refine q_then_n (hK30 _ _ ?_)
              refine c_seq (fun K31 hK31 => ?_)
              refine c_region ?_
              refine tp rfl (lv_move rfl) ?_
              refine tp rfl (lv_move rfl) ?_
              refine t_f4 ?_
              refine tc rfl (en_fn Try.call21 rfl) (rtake_ok (q := q) (ms := ms) (a := a) (fewL ((l.getD i St4.d).ws)) hjl.symm (rd_sl (.tail _ (.head _))) hbq (by omega) (by omega) ⟨hany, hT.tb, any_al hany hal, by omega⟩ ht) ?_
              rintro _ _ ⟨rfl, rfl⟩
              refine tp rfl (lv_move rfl) ?_
              refine tp rfl (lv_extract rfl rfl) ?_
              refine tp rfl (lv_extract rfl rfl) ?_
              refine tp rfl (lv_assign rfl) ?_
              refine tp rfl (lv_assign rfl) ?_
              refine t_done ?_
              refine q_then_n (hK31 _ _ ?_)
              refine c_region ?_
              refine tp rfl (lv_move rfl) ?_
              refine tp rfl (lv_move rfl) ?_
              refine tp rfl (lv_eql rfl rfl (beq_iff_eq.2 rfl)) ?_
              refine tp rfl (lv_move rfl) ?_
              refine t_guard rfl rfl ?_
              refine tp rfl (lv_move rfl) ?_
              refine t_guard rfl rfl ?_
              refine tp rfl (lv_move rfl) ?_
              refine t_guard rfl rfl ?_
              refine tp rfl (lv_eqb Try.underlying4 rfl rfl rfl) ?_
              refine tp rfl (lv_pick_t rfl rfl) ?_
              refine tp rfl (lv_assign rfl) ?_
              refine t_done ?_
              refine q_in_n ?_
              refine q_then_n ?_
              refine t_f2 ?_
              refine t_drop ?_
              refine t_f2 ?_
              refine t_drop ?_
              refine t_f1 ?_
              refine t_f2 ?_
              exact t_weak (by exact ⟨rfl, rfl, rfl, rfl, rfl, rfl, rfl, rfl, rfl, rfl, trivial⟩) (hM15 (setC mt ta ((mt.getD ta M3.z).c - (costsL ms (fewL ((l.getD i St4.d).ws))).getD ta 0)) ta (by rw [setC_len]; have h1 := (ht.inv (I := fun s => s.1.length = ms.length) rfl (fun s hs _ => by rw [stepT_len]; exact hs)).1; simp only at h1; omega))
           · -- no
            refine tp rfl (lv_eql rfl rfl (beq_eq_false_iff_ne.2 h29)) ?_
            refine tp rfl (lv_assign rfl) ?_
            refine t_done ?_
            refine q_then_n (hK19 _ _ ?_)
            refine c_false rfl ?_
            refine c_skip ?_
            refine q_in_n ?_
            refine q_then_n ?_
            exact t_weak (by exact ⟨rfl, rfl, rfl, rfl, rfl, rfl, rfl, rfl, rfl, rfl, trivial⟩) (hM15 ms a (by omega))
  · -- not both
    refine t_cut0 (E' := [(0, (.int .i64 n)), (1, (.slice bl l.length cl)), (5, (.bool true)), (6, (.pointer (some ⟨p1, 0, none⟩))), (7, (.pointer (some ⟨p2, 0, none⟩))), (8, (.int .i64 ((i : Nat) : Int))), (29, (.bool false)), (37, (.bool false))]) ?_ (fun KK hKK => ?_)
    ·
      refine q_then_n (hK11 _ _ ?_)
      refine c_false rfl ?_
      refine c_exit ?_
      refine q_then_x ?_
      refine q_then_x ?_
      refine q_in_x ?_
      refine q_then_n (hK7 _ _ ?_)
      refine c_seq (fun K12 hK12 => ?_)
      refine c_region ?_
      refine tp rfl (lv_move rfl) ?_
      refine tp rfl (lv_assign rfl) ?_
      refine t_done ?_
      refine q_then_n (hK12 _ _ ?_)
      refine c_ret ?_
      refine t_drop ?_
      refine t_drop ?_
      refine q_ret rfl rfl ?_
      exact ⟨rfl, rfl⟩
    · -- which
      by_cases hc3A : ((i : Nat) : Int) < ((l.length : Nat) : Int)
      ·
        have hc3B : ¬ (((i : Nat) : Int) < 150) := fun hh => hc3 ⟨hc3A, hh⟩
        refine tp rfl (lv_move rfl) ?_
        refine tp rfl (lv_move rfl) ?_
        refine tp rfl (lv_len Try.underlying38 rfl rfl) ?_
        refine tp rfl (lv_lss rfl rfl (decide_eq_true hc3A)) ?_
        refine tp rfl (lv_move rfl) ?_
        refine t_guard rfl rfl ?_
        refine tp rfl (lv_move rfl) ?_
        refine t_guard rfl rfl ?_
        refine tp rfl (lv_lss rfl rfl (decide_eq_false hc3B)) ?_
        refine tp rfl (lv_pick_t rfl rfl) ?_
        exact t_done (t_weak (by exact ⟨rfl, rfl, rfl, rfl, rfl, rfl, rfl, rfl, trivial⟩) hKK)
      ·
        refine tp rfl (lv_move rfl) ?_
        refine tp rfl (lv_move rfl) ?_
        refine tp rfl (lv_len Try.underlying38 rfl rfl) ?_
        refine tp rfl (lv_lss rfl rfl (decide_eq_false hc3A)) ?_
        refine tp rfl (lv_move rfl) ?_
        refine t_skip rfl rfl rfl ?_
        refine t_skip rfl rfl rfl ?_
        refine tp rfl (lv_pick_f rfl rfl) ?_
        exact t_done (t_weak (by exact ⟨rfl, rfl, rfl, rfl, rfl, rfl, rfl, rfl, trivial⟩) hKK)
end Go.Proofs.Ytkhceihokoheaaa
