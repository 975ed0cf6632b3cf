/- Package turns: contracts, the second half. -/
import Derived.Test.YtkhceihokoheaaaTa
set_option maxRecDepth 100000
set_option linter.unusedVariables false
set_option linter.unusedSimpArgs false
namespace Go.Proofs.Ytkhceihokoheaaa
open Go Go.Proofs Sp
theorem tnew_ok {R : List HP} (x : Int) :
    Ok Try.prog 11 [(.int .i64 x)] R
      (fun v M => ∃ p, v = .pointer (some ⟨p, 0, none⟩) ∧ M = TurnsO p (qOf x) [] 0 :: R) := by
  refine ok_of (N := 8) Try.func11 rfl rfl rfl (fun W => ?_)
  refine c_seq (fun K1 hK1 => ?_)
  refine c_region ?_
  refine tp rfl (lv_assign rfl) ?_
  refine t_done ?_
  refine q_then_n (hK1 _ _ ?_)
  refine c_seq (fun K2 hK2 => ?_)
  refine c_region ?_
  refine tp rfl (lv_move rfl) ?_
  refine tp rfl (lv_max (c := max x 1) rfl rfl rfl) ?_
  refine tp rfl (lv_min (c := min (max x 1) 1048576) rfl rfl rfl) ?_
  refine tp rfl (lv_build (cs := [(.int .i64 (min (max x 1) 1048576)), (.slice none 0 0), (.int .i64 0)]) (pl := [(0, 1), (1, 1), (2, 1)]) Try.underlying62 Try.zeroValue62 (fun _ => by simp) rfl rfl) ?_
  refine tm rfl (mv_box rfl rfl) ?_
  rintro _ _ ⟨b1, rfl, rfl⟩
  refine tp rfl (lv_assign rfl) ?_
  refine t_done ?_
  refine q_then_n (hK2 _ _ ?_)
  refine c_ret ?_
  refine t_newT (by omega) (by omega) ?_
  refine q_ret rfl rfl ?_
  exact ⟨_, rfl, rfl⟩

theorem tjoin_ok {R : List HP} {p a : Nat} {q : Int} {ms : List M3} (id w : Int) (hb : ms.length ≤ 50000) :
    Ok Try.prog 12 [(.pointer (some ⟨p, 0, none⟩)), (.int .i64 id), (.int .i64 w)] ((TurnsO p q ms a) :: R)
      (fun v M => v = .int .i64 (joinEr ms id w) ∧ M = TurnsO p q (joinM ms id w) a :: R) := by
  refine ok_of (N := 32) Try.func12 rfl rfl rfl (fun W => ?_)
  refine c_seq (fun K1 hK1 => ?_)
  refine c_region ?_
  refine tp rfl (lv_assign rfl) ?_
  refine t_done ?_
  refine q_then_n (hK1 _ _ ?_)
  refine c_seq (fun K2 hK2 => ?_)
  refine c_block ?_
  refine c_seq (fun K3 hK3 => ?_)
  refine c_region ?_
  refine tp rfl (lv_move rfl) ?_
  by_cases h1 : w < 1
  · -- yes
    refine tp rfl (lv_lss rfl rfl (decide_eq_true h1)) ?_
    refine tp rfl (lv_move rfl) ?_
    refine t_skip rfl rfl rfl ?_
    refine t_skip rfl rfl rfl ?_
    refine tp rfl (lv_pick_t rfl rfl) ?_
    refine tp rfl (lv_assign rfl) ?_
    refine t_done ?_
    refine q_then_n (hK3 _ _ ?_)
    refine c_true rfl ?_
    refine c_seq (fun K4 hK4 => ?_)
    refine c_region ?_
    refine tp rfl (lv_assign rfl) ?_
    refine t_done ?_
    refine q_then_n (hK4 _ _ ?_)
    refine c_ret ?_
    refine q_in_r ?_
    refine q_then_r ?_
    have hje : joinEr ms id w = 1 := by unfold joinEr; first | rw [if_pos (by omega)] | rw [if_neg (by omega), if_pos (by omega)]
    rw [show TurnsO p q ms a = TurnsO p q (joinM ms id w) a from by unfold joinM; rw [hje, if_neg (by decide)]]
    refine q_ret rfl rfl ?_
    exact ⟨by rw [hje], rfl⟩
  · -- no
    refine tp rfl (lv_lss rfl rfl (decide_eq_false h1)) ?_
    refine tp rfl (lv_move rfl) ?_
    refine t_guard rfl rfl ?_
    refine tp rfl (lv_move rfl) ?_
    refine t_guard rfl rfl ?_
    by_cases h2 : w > 100
    · -- yes
      refine tp rfl (lv_gtr rfl rfl (decide_eq_true h2)) ?_
      refine tp rfl (lv_pick_f rfl rfl) ?_
      refine tp rfl (lv_assign rfl) ?_
      refine t_done ?_
      refine q_then_n (hK3 _ _ ?_)
      refine c_true rfl ?_
      refine c_seq (fun K4 hK4 => ?_)
      refine c_region ?_
      refine tp rfl (lv_assign rfl) ?_
      refine t_done ?_
      refine q_then_n (hK4 _ _ ?_)
      refine c_ret ?_
      refine q_in_r ?_
      refine q_then_r ?_
      have hje : joinEr ms id w = 1 := by unfold joinEr; first | rw [if_pos (by omega)] | rw [if_neg (by omega), if_pos (by omega)]
      rw [show TurnsO p q ms a = TurnsO p q (joinM ms id w) a from by unfold joinM; rw [hje, if_neg (by decide)]]
      refine q_ret rfl rfl ?_
      exact ⟨by rw [hje], rfl⟩
    · -- no
      refine tp rfl (lv_gtr rfl rfl (decide_eq_false h2)) ?_
      refine tp rfl (lv_pick_f rfl rfl) ?_
      refine tp rfl (lv_assign rfl) ?_
      refine t_done ?_
      refine q_then_n (hK3 _ _ ?_)
      refine c_false rfl ?_
      refine c_seq (fun K4 hK4 => ?_)
      refine c_region ?_
      refine t_openT (fun ba ca ps hT => ?_)
      have hTlp := hT.lp
      have hTat := hT.at_
      have hTq1 := hT.q1
      have hTq2 := hT.q2
      refine tp rfl (lv_move rfl) ?_
      refine tp rfl (lv_move rfl) ?_
      refine t_f2 ?_
      refine t_f2 ?_
      refine t_f2 ?_
      refine tc rfl (en_fn Try.call24 rfl) (place_ok hTlp rfl hT.ok (by omega) id) ?_
      rintro _ _ ⟨rfl, rfl⟩
      by_cases h3 : (placeM ms id) ≥ 0
      · -- yes
        refine tp rfl (lv_geq rfl rfl (decide_eq_true h3)) ?_
        refine tp rfl (lv_assign rfl) ?_
        refine t_done ?_
        refine q_then_n (hK4 _ _ ?_)
        refine c_true rfl ?_
        refine c_seq (fun K5 hK5 => ?_)
        refine c_region ?_
        refine tp rfl (lv_assign rfl) ?_
        refine t_done ?_
        refine q_then_n (hK5 _ _ ?_)
        refine c_ret ?_
        refine q_in_r ?_
        refine q_then_r ?_
        refine t_f2 ?_
        refine t_f2 ?_
        refine t_f2 ?_
        refine t_shutTn rfl hT ?_
        have hje : joinEr ms id w = 8 := by unfold joinEr; first | rw [if_pos (by omega)] | rw [if_neg (by omega), if_pos (by omega)]
        rw [show TurnsO p q ms a = TurnsO p q (joinM ms id w) a from by unfold joinM; rw [hje, if_neg (by decide)]]
        refine q_ret rfl rfl ?_
        exact ⟨by rw [hje], rfl⟩
      · -- no
        refine tp rfl (lv_geq rfl rfl (decide_eq_false h3)) ?_
        refine tp rfl (lv_assign rfl) ?_
        refine t_done ?_
        refine q_then_n (hK4 _ _ ?_)
        refine c_false rfl ?_
        refine c_skip ?_
        refine q_in_n ?_
        refine q_then_n (hK2 _ _ ?_)
        refine c_seq (fun K5 hK5 => ?_)
        refine c_region ?_
        refine tp rfl (lv_move rfl) ?_
        refine tp rfl (lv_move rfl) ?_
        refine tp rfl (lv_nilCheck rfl) ?_
        refine tp rfl (lv_fieldAddr (o' := 1) Try.underlying62 rfl Try.sizeOf60 rfl rfl) ?_
        refine tp rfl (lv_load Try.isAgg60 rfl (gives_blk (.head _) rfl)) ?_
        refine tp rfl (lv_move rfl) ?_
        refine tp rfl (lv_move rfl) ?_
        refine tp rfl (lv_build (cs := [(.int .i64 id), (.int .i64 w), (.int .i64 0)]) (pl := [(0, 1), (1, 1), (2, 1)]) Try.underlying65 Try.zeroValue65 (fun _ => by simp) rfl rfl) ?_
        refine tm rfl (mv_box rfl rfl) ?_
        rintro _ _ ⟨b4, rfl, rfl⟩
        refine tm rfl (mv_buildSlice (cs := [(.pointer (some ⟨b4, 0, none⟩))]) Try.underlying60 Try.sizeOf63 Try.zeroValue63 (by decide) rfl rfl rfl rfl) ?_
        rintro _ _ ⟨bs5, cp6, hok7, hle8, rfl, rfl⟩
        refine t_f3 ?_
        refine tm rfl (mv_append (i := Try.t63) Try.underlying60 Try.type63 rfl rfl rfl (by decide) rfl rfl hok7 (by first | (simp; done) | (simp; omega)) (rd_sl (.tail _ (.head _))) (by simp [Value.oneCell']) (by rw [show Try.t63.bytes = 8 from rfl]; omega)) ?_
        rintro _ _ ⟨bs9, cp10, hok11, hle12, rfl, rfl⟩
        rw [show recs ptrF ps ++ [(.pointer (some ⟨b4, 0, none⟩))] = recs ptrF (ps ++ [b4]) from recs_snoc ptrF ps b4]
        refine tp rfl (lv_nilCheck rfl) ?_
        refine tp rfl (lv_fieldAddr (o' := 1) Try.underlying62 rfl Try.sizeOf60 rfl rfl) ?_
        refine t_f3 ?_
        refine ts (sv_blk Try.sizeOf60 rfl rfl rfl (Nat.le_of_ble_eq_true rfl) rfl) ?_
        refine t_done ?_
        refine q_then_n (hK5 _ _ ?_)
        refine c_seq (fun K6 hK6 => ?_)
        refine c_region ?_
        refine tp rfl (lv_assign rfl) ?_
        refine t_done ?_
        refine q_then_n (hK6 _ _ ?_)
        refine c_ret ?_
        refine t_f4 ?_
        refine t_f4 ?_
        refine t_addM ⟨id, w, 0⟩ hTlp ?_
        refine t_f2 ?_
        refine t_f2 ?_
        refine t_shutTn (by simp) (hT.joined (by omega) (by omega) hok11 hle12) ?_
        have hje : joinEr ms id w = 0 := by unfold joinEr; rw [if_neg (by omega), if_neg (by omega)]
        rw [show (ms ++ [⟨id, w, 0⟩] : List M3) = joinM ms id w from by unfold joinM; rw [if_pos hje]]
        refine t_f1 ?_
        refine t_drop ?_
        refine q_ret rfl rfl ?_
        exact ⟨by rw [hje], rfl⟩

set_option maxHeartbeats 4000000 in
theorem tleave_ok {R : List HP} {p a : Nat} {q : Int} {ms : List M3} (id : Int) (hb : ms.length ≤ 50000) :
    Ok Try.prog 14 [(.pointer (some ⟨p, 0, none⟩)), (.int .i64 id)] ((TurnsO p q ms a) :: R)
      (fun v M => v = .int .i64 (leaveEr ms id) ∧ M = TurnsO p q (leaveM ms id) (leaveA ms a id) :: R) := by
  refine ok_of (N := 48) Try.func14 rfl rfl rfl (fun W => ?_)
  refine t_openT (fun ba ca ps hT => ?_)
  have hTlp := hT.lp
  have hTat := hT.at_
  have hTq1 := hT.q1
  have hTq2 := hT.q2
  refine c_seq (fun K1 hK1 => ?_)
  refine c_region ?_
  refine tp rfl (lv_assign rfl) ?_
  refine t_done ?_
  refine q_then_n (hK1 _ _ ?_)
  refine c_seq (fun K2 hK2 => ?_)
  refine c_region ?_
  refine tp rfl (lv_move rfl) ?_
  refine tp rfl (lv_move rfl) ?_
  refine t_f2 ?_
  refine t_f2 ?_
  refine t_f2 ?_
  refine tc rfl (en_fn Try.call24 rfl) (place_ok hTlp rfl hT.ok (by omega) id) ?_
  rintro _ _ ⟨rfl, rfl⟩
  refine tp rfl (lv_assign rfl) ?_
  refine t_done ?_
  refine q_then_n (hK2 _ _ ?_)
  refine c_seq (fun K3 hK3 => ?_)
  refine c_seq (fun K4 hK4 => ?_)
  refine c_region ?_
  refine tp rfl (lv_move rfl) ?_
  by_cases h1 : (placeM ms id) < 0
  · -- yes
    refine tp rfl (lv_lss rfl rfl (decide_eq_true h1)) ?_
    refine t_done ?_
    refine q_then_n (hK4 _ _ ?_)
    refine c_true rfl ?_
    refine c_seq (fun K5 hK5 => ?_)
    refine c_region ?_
    refine tp rfl (lv_assign rfl) ?_
    refine t_done ?_
    refine q_then_n (hK5 _ _ ?_)
    refine c_ret ?_
    refine q_then_r ?_
    refine t_f2 ?_
    refine t_f2 ?_
    refine t_f2 ?_
    refine t_shutTn rfl hT ?_
    rw [show TurnsO p q ms a = TurnsO p q (leaveM ms id) (leaveA ms a id) from by unfold leaveM leaveA; rw [if_pos (by omega), if_pos (by omega)]]
    refine q_ret rfl rfl ?_
    exact ⟨by unfold leaveEr; split <;> first | rfl | (exfalso; omega), rfl⟩
  · -- no
    refine tp rfl (lv_lss rfl rfl (decide_eq_false h1)) ?_
    refine t_done ?_
    refine q_then_n (hK4 _ _ ?_)
    refine c_false rfl ?_
    refine c_skip ?_
    refine q_then_n (hK3 _ _ ?_)
    refine c_seq (fun K5 hK5 => ?_)
    refine c_region ?_
    have hpg := placeM_ge ms id
    obtain ⟨kp, hkp⟩ : ∃ k : Nat, placeM ms id = (k : Int) := ⟨(placeM ms id).toNat, by omega⟩
    rw [hkp]
    have hkl : kp < ms.length := by omega
    refine tp rfl (lv_move rfl) ?_
    refine tp rfl (lv_move rfl) ?_
    refine tp rfl (lv_nilCheck rfl) ?_
    refine tp rfl (lv_fieldAddr (o' := 1) Try.underlying62 rfl Try.sizeOf60 rfl rfl) ?_
    refine tp rfl (lv_load Try.isAgg60 rfl (gives_blk (.head _) rfl)) ?_
    refine tp rfl (lv_move rfl) ?_
    refine tp rfl (lv_move rfl) ?_
    refine tp rfl (lv_add (c := ((kp + 1 : Nat) : Int)) rfl rfl (wr_i64_succ (by omega))) ?_
    refine t_f1 ?_
    refine tc rfl (en_fn Try.call28 rfl) (pdelete_ok_n (cx := ca) ps (by first | rfl | omega) kp hkl) ?_
    rintro _ _ ⟨rfl, rfl⟩
    refine tp rfl (lv_nilCheck rfl) ?_
    refine tp rfl (lv_fieldAddr (o' := 1) Try.underlying62 rfl Try.sizeOf60 rfl rfl) ?_
    refine t_f1 ?_
    refine ts (sv_blk Try.sizeOf60 rfl rfl rfl (Nat.le_of_ble_eq_true rfl) rfl) ?_
    refine t_done ?_
    refine q_then_n (hK5 _ _ ?_)
    refine c_seq (fun K6 hK6 => ?_)
    refine c_seq (fun K7 hK7 => ?_)
    refine c_region ?_
    refine t_f2 ?_
    refine t_takeM (i := kp) hTlp (by omega) ?_
    refine t_drop ?_
    have hel : (ms.eraseIdx kp).length = ms.length - 1 := by rw [List.length_eraseIdx, if_pos hkl]
    have hpel : (ps.eraseIdx kp).length = (ms.eraseIdx kp).length := by rw [hel, List.length_eraseIdx, if_pos (by omega)]; omega
    rw [hpel]
    have hbok : SlOk ba (ms.eraseIdx kp).length := slok_le hT.ok (by omega)
    refine tp rfl (lv_move rfl) ?_
    refine tp rfl (lv_move rfl) ?_
    refine tp rfl (lv_nilCheck rfl) ?_
    refine tp rfl (lv_fieldAddr (o' := 2) Try.underlying62 rfl Try.sizeOf3 rfl rfl) ?_
    refine tp rfl (lv_load Try.isAgg3 rfl (gives_blk (.tail _ (.head _)) rfl)) ?_
    by_cases h2 : ((kp : Nat) : Int) < ((a : Nat) : Int)
    · -- yes
      refine tp rfl (lv_lss rfl rfl (decide_eq_true h2)) ?_
      refine t_done ?_
      refine q_then_n (hK7 _ _ ?_)
      refine c_true rfl ?_
      refine c_region ?_
      refine tp rfl (lv_move rfl) ?_
      refine tp rfl (lv_nilCheck rfl) ?_
      refine tp rfl (lv_fieldAddr (o' := 2) Try.underlying62 rfl Try.sizeOf3 rfl rfl) ?_
      refine tp rfl (lv_load Try.isAgg3 rfl (gives_blk (.tail _ (.head _)) rfl)) ?_
      refine tp rfl (lv_sub (c := ((a - 1 : Nat) : Int)) rfl rfl ((wr_i64 (by omega) (by omega)).trans (by omega))) ?_
      refine tp rfl (lv_nilCheck rfl) ?_
      refine tp rfl (lv_fieldAddr (o' := 2) Try.underlying62 rfl Try.sizeOf3 rfl rfl) ?_
      refine t_f1 ?_
      refine ts (sv_blk Try.sizeOf3 rfl rfl rfl (Nat.le_of_ble_eq_true rfl) rfl) ?_
      refine t_done ?_
      refine q_then_n (hK6 _ _ ?_)
      refine c_seq (fun K8 hK8 => ?_)
      refine c_seq (fun K9 hK9 => ?_)
      by_cases h3 : ((a - 1 : Nat) : Int) = (((ms.eraseIdx kp).length : Nat) : Int)
      · -- yes
        refine c_draw (γ := Unit) (n := 10) Try.mixed rfl rfl (fun _ S => True) (fun _ => [(0, 35, (.pointer (some ⟨p, 0, none⟩))), (1, 36, (.pointer (some ⟨p, 0, none⟩))), (2, 37, (.pointer (some ⟨p, 2, none⟩))), (3, 38, (.int .i64 ((a - 1 : Nat) : Int))), (4, 39, (.pointer (some ⟨p, 0, none⟩))), (5, 40, (.pointer (some ⟨p, 0, none⟩))), (6, 41, (.pointer (some ⟨p, 1, none⟩))), (7, 42, (.slice ba ((ms.eraseIdx kp).length) ca)), (8, 43, (.int .i64 (((ms.eraseIdx kp).length : Nat) : Int))), (9, 44, (.bool true))]) (fun _ S => (Blk p [(.int .i64 q), (.slice ba ((ms.eraseIdx kp).length) ca), (.int .i64 ((a - 1 : Nat) : Int))] 62) :: (Join (mems (ps.eraseIdx kp) (ms.eraseIdx kp))) :: (SlV 63 1 (.slice ba ((ms.eraseIdx kp).length) ca) ((ms.eraseIdx kp).length) (recs ptrF (ps.eraseIdx kp))) :: R) (()) trivial (fun _ h => h) (fun _ _ h => h) ?_ ?_
        · -- steps
         refine ⟨?_, ?_, ?_, ?_, ?_, ?_, ?_, ?_, ?_, ?_, trivial⟩
         · -- 0
          rintro _ S hF hS D hp K hK
          try dsimp only at hF ⊢
          refine d_need (small := [(0, (.pointer (some ⟨p, 0, none⟩)))]) ⟨look_b rfl rfl, trivial⟩ ?_
          refine tp rfl (lv_move rfl) ?_
          exact d_closes ⟨look_b rfl rfl, trivial⟩ 0 rfl rfl rfl hS (AgreeR.refl _) (t_sat (fun _ h => h) (hK () trivial))
         · -- 1
          rintro _ S hF hS D hp K hK
          try dsimp only at hF ⊢
          have s0 := hp 0 rfl
          refine d_need (small := [(35, (.pointer (some ⟨p, 0, none⟩)))]) ⟨look_row rfl 0 rfl s0, trivial⟩ ?_
          refine tp rfl (lv_nilCheck rfl) ?_
          exact d_closes ⟨look_row rfl 0 rfl s0, trivial⟩ 1 rfl rfl rfl hS (AgreeR.refl _) (t_sat (fun _ h => h) (hK () trivial))
         · -- 2
          rintro _ S hF hS D hp K hK
          try dsimp only at hF ⊢
          have s1 := hp 1 rfl
          refine d_need (small := [(36, (.pointer (some ⟨p, 0, none⟩)))]) ⟨look_row rfl 1 rfl s1, trivial⟩ ?_
          refine tp rfl (lv_fieldAddr (o' := 2) Try.underlying62 rfl Try.sizeOf3 rfl rfl) ?_
          exact d_closes ⟨look_row rfl 1 rfl s1, trivial⟩ 2 rfl rfl rfl hS (AgreeR.refl _) (t_sat (fun _ h => h) (hK () trivial))
         · -- 3
          rintro _ S hF hS D hp K hK
          try dsimp only at hF ⊢
          have s2 := hp 2 rfl
          refine d_need (small := [(37, (.pointer (some ⟨p, 2, none⟩)))]) ⟨look_row rfl 2 rfl s2, trivial⟩ ?_
          refine tp rfl (lv_load Try.isAgg3 rfl (gives_blk (.head _) rfl)) ?_
          exact d_closes ⟨look_row rfl 2 rfl s2, trivial⟩ 3 rfl rfl rfl hS (AgreeR.refl _) (t_sat (fun _ h => h) (hK () trivial))
         · -- 4
          rintro _ S hF hS D hp K hK
          try dsimp only at hF ⊢
          refine d_need (small := [(0, (.pointer (some ⟨p, 0, none⟩)))]) ⟨look_b rfl rfl, trivial⟩ ?_
          refine tp rfl (lv_move rfl) ?_
          exact d_closes ⟨look_b rfl rfl, trivial⟩ 4 rfl rfl rfl hS (AgreeR.refl _) (t_sat (fun _ h => h) (hK () trivial))
         · -- 5
          rintro _ S hF hS D hp K hK
          try dsimp only at hF ⊢
          have s4 := hp 4 rfl
          refine d_need (small := [(39, (.pointer (some ⟨p, 0, none⟩)))]) ⟨look_row rfl 4 rfl s4, trivial⟩ ?_
          refine tp rfl (lv_nilCheck rfl) ?_
          exact d_closes ⟨look_row rfl 4 rfl s4, trivial⟩ 5 rfl rfl rfl hS (AgreeR.refl _) (t_sat (fun _ h => h) (hK () trivial))
         · -- 6
          rintro _ S hF hS D hp K hK
          try dsimp only at hF ⊢
          have s5 := hp 5 rfl
          refine d_need (small := [(40, (.pointer (some ⟨p, 0, none⟩)))]) ⟨look_row rfl 5 rfl s5, trivial⟩ ?_
          refine tp rfl (lv_fieldAddr (o' := 1) Try.underlying62 rfl Try.sizeOf60 rfl rfl) ?_
          exact d_closes ⟨look_row rfl 5 rfl s5, trivial⟩ 6 rfl rfl rfl hS (AgreeR.refl _) (t_sat (fun _ h => h) (hK () trivial))
         · -- 7
          rintro _ S hF hS D hp K hK
          try dsimp only at hF ⊢
          have s6 := hp 6 rfl
          refine d_need (small := [(41, (.pointer (some ⟨p, 1, none⟩)))]) ⟨look_row rfl 6 rfl s6, trivial⟩ ?_
          refine tp rfl (lv_load Try.isAgg60 rfl (gives_blk (.head _) rfl)) ?_
          exact d_closes ⟨look_row rfl 6 rfl s6, trivial⟩ 7 rfl rfl rfl hS (AgreeR.refl _) (t_sat (fun _ h => h) (hK () trivial))
         · -- 8
          rintro _ S hF hS D hp K hK
          try dsimp only at hF ⊢
          have s7 := hp 7 rfl
          refine d_need (small := [(42, (.slice ba ((ms.eraseIdx kp).length) ca))]) ⟨look_row rfl 7 rfl s7, trivial⟩ ?_
          refine tp rfl (lv_len Try.underlying60 rfl rfl) ?_
          exact d_closes ⟨look_row rfl 7 rfl s7, trivial⟩ 8 rfl rfl rfl hS (AgreeR.refl _) (t_sat (fun _ h => h) (hK () trivial))
         · -- 9
          rintro _ S hF hS D hp K hK
          try dsimp only at hF ⊢
          have s3 := hp 3 rfl
          have s8 := hp 8 rfl
          refine d_need (small := [(38, (.int .i64 ((a - 1 : Nat) : Int))), (43, (.int .i64 (((ms.eraseIdx kp).length : Nat) : Int)))]) ⟨look_row rfl 3 rfl s3, look_row rfl 8 rfl s8, trivial⟩ ?_
          refine tp rfl (lv_eql rfl rfl (beq_iff_eq.2 h3)) ?_
          exact d_closes ⟨look_row rfl 3 rfl s3, look_row rfl 8 rfl s8, trivial⟩ 9 rfl rfl rfl hS (AgreeR.refl _) (t_sat (fun _ h => h) (hK () trivial))
        · -- behind
         rintro _ hF
         try dsimp only at hF ⊢
         refine t_weak (E' := [(0, (.pointer (some ⟨p, 0, none⟩))), (1, (.int .i64 id)), (4, (.int .i64 0)), (5, (.int .i64 ((kp : Nat) : Int))), (10, (.bool false)), (27, (.bool true)), (44, (.bool true))]) ⟨rfl, rfl, rfl, rfl, rfl, rfl, rfl, trivial⟩ ?_
         refine q_then_n (hK9 _ _ ?_)
         refine c_true rfl ?_
         refine c_region ?_
         refine tp rfl (lv_move rfl) ?_
         refine tp rfl (lv_nilCheck rfl) ?_
         refine tp rfl (lv_fieldAddr (o' := 2) Try.underlying62 rfl Try.sizeOf3 rfl rfl) ?_
         refine ts (sv_blk Try.sizeOf3 rfl rfl rfl (Nat.le_of_ble_eq_true rfl) rfl) ?_
         refine t_done ?_
         refine q_then_n (hK8 _ _ ?_)
         refine c_seq (fun K10 hK10 => ?_)
         refine c_region ?_
         refine tp rfl (lv_assign rfl) ?_
         refine t_done ?_
         refine q_then_n (hK10 _ _ ?_)
         refine c_ret ?_
         have hlv : 0 = leaveA ms a id := by
                                    unfold leaveA; rw [hkp, Int.toNat_natCast, if_neg (by omega)]
                                    by_cases h1 : kp < a
                                    · simp only [if_pos h1]; first | (rw [if_pos (by omega)]; done) | (rw [if_pos (by omega)]; omega) | (rw [if_neg (by omega)]; done) | (rw [if_neg (by omega)]; omega)
                                    · simp only [if_neg h1]; first | (rw [if_pos (by omega)]; done) | (rw [if_pos (by omega)]; omega) | (rw [if_neg (by omega)]; done) | (rw [if_neg (by omega)]; omega)
         refine t_f1 ?_
         refine t_f2 ?_
         refine t_f2 ?_
         refine t_shutTv (congrArg (fun x : Nat => Value.int .i64 ((x : Nat) : Int)) hlv) rfl (hT.left (k := kp) (by omega) (by unfold leaveA; rw [hkp, Int.toNat_natCast, if_neg (by omega)]) hbok) ?_
         rw [show ms.eraseIdx kp = leaveM ms id from by unfold leaveM; rw [hkp, Int.toNat_natCast, if_neg (by omega)]]
         refine q_ret rfl rfl ?_
         exact ⟨by unfold leaveEr; split <;> first | rfl | (exfalso; omega), rfl⟩
      · -- no
        refine c_draw (γ := Unit) (n := 10) Try.mixed rfl rfl (fun _ S => True) (fun _ => [(0, 35, (.pointer (some ⟨p, 0, none⟩))), (1, 36, (.pointer (some ⟨p, 0, none⟩))), (2, 37, (.pointer (some ⟨p, 2, none⟩))), (3, 38, (.int .i64 ((a - 1 : Nat) : Int))), (4, 39, (.pointer (some ⟨p, 0, none⟩))), (5, 40, (.pointer (some ⟨p, 0, none⟩))), (6, 41, (.pointer (some ⟨p, 1, none⟩))), (7, 42, (.slice ba ((ms.eraseIdx kp).length) ca)), (8, 43, (.int .i64 (((ms.eraseIdx kp).length : Nat) : Int))), (9, 44, (.bool false))]) (fun _ S => (Blk p [(.int .i64 q), (.slice ba ((ms.eraseIdx kp).length) ca), (.int .i64 ((a - 1 : Nat) : Int))] 62) :: (Join (mems (ps.eraseIdx kp) (ms.eraseIdx kp))) :: (SlV 63 1 (.slice ba ((ms.eraseIdx kp).length) ca) ((ms.eraseIdx kp).length) (recs ptrF (ps.eraseIdx kp))) :: R) (()) trivial (fun _ h => h) (fun _ _ h => h) ?_ ?_
        · -- steps
         refine ⟨?_, ?_, ?_, ?_, ?_, ?_, ?_, ?_, ?_, ?_, trivial⟩
         · -- 0
          rintro _ S hF hS D hp K hK
          try dsimp only at hF ⊢
          refine d_need (small := [(0, (.pointer (some ⟨p, 0, none⟩)))]) ⟨look_b rfl rfl, trivial⟩ ?_
          refine tp rfl (lv_move rfl) ?_
          exact d_closes ⟨look_b rfl rfl, trivial⟩ 0 rfl rfl rfl hS (AgreeR.refl _) (t_sat (fun _ h => h) (hK () trivial))
         · -- 1
          rintro _ S hF hS D hp K hK
          try dsimp only at hF ⊢
          have s0 := hp 0 rfl
          refine d_need (small := [(35, (.pointer (some ⟨p, 0, none⟩)))]) ⟨look_row rfl 0 rfl s0, trivial⟩ ?_
          refine tp rfl (lv_nilCheck rfl) ?_
          exact d_closes ⟨look_row rfl 0 rfl s0, trivial⟩ 1 rfl rfl rfl hS (AgreeR.refl _) (t_sat (fun _ h => h) (hK () trivial))
         · -- 2
          rintro _ S hF hS D hp K hK
          try dsimp only at hF ⊢
          have s1 := hp 1 rfl
          refine d_need (small := [(36, (.pointer (some ⟨p, 0, none⟩)))]) ⟨look_row rfl 1 rfl s1, trivial⟩ ?_
          refine tp rfl (lv_fieldAddr (o' := 2) Try.underlying62 rfl Try.sizeOf3 rfl rfl) ?_
          exact d_closes ⟨look_row rfl 1 rfl s1, trivial⟩ 2 rfl rfl rfl hS (AgreeR.refl _) (t_sat (fun _ h => h) (hK () trivial))
         · -- 3
          rintro _ S hF hS D hp K hK
          try dsimp only at hF ⊢
          have s2 := hp 2 rfl
          refine d_need (small := [(37, (.pointer (some ⟨p, 2, none⟩)))]) ⟨look_row rfl 2 rfl s2, trivial⟩ ?_
          refine tp rfl (lv_load Try.isAgg3 rfl (gives_blk (.head _) rfl)) ?_
          exact d_closes ⟨look_row rfl 2 rfl s2, trivial⟩ 3 rfl rfl rfl hS (AgreeR.refl _) (t_sat (fun _ h => h) (hK () trivial))
         · -- 4
          rintro _ S hF hS D hp K hK
          try dsimp only at hF ⊢
          refine d_need (small := [(0, (.pointer (some ⟨p, 0, none⟩)))]) ⟨look_b rfl rfl, trivial⟩ ?_
          refine tp rfl (lv_move rfl) ?_
          exact d_closes ⟨look_b rfl rfl, trivial⟩ 4 rfl rfl rfl hS (AgreeR.refl _) (t_sat (fun _ h => h) (hK () trivial))
         · -- 5
          rintro _ S hF hS D hp K hK
          try dsimp only at hF ⊢
          have s4 := hp 4 rfl
          refine d_need (small := [(39, (.pointer (some ⟨p, 0, none⟩)))]) ⟨look_row rfl 4 rfl s4, trivial⟩ ?_
          refine tp rfl (lv_nilCheck rfl) ?_
          exact d_closes ⟨look_row rfl 4 rfl s4, trivial⟩ 5 rfl rfl rfl hS (AgreeR.refl _) (t_sat (fun _ h => h) (hK () trivial))
         · -- 6
          rintro _ S hF hS D hp K hK
          try dsimp only at hF ⊢
          have s5 := hp 5 rfl
          refine d_need (small := [(40, (.pointer (some ⟨p, 0, none⟩)))]) ⟨look_row rfl 5 rfl s5, trivial⟩ ?_
          refine tp rfl (lv_fieldAddr (o' := 1) Try.underlying62 rfl Try.sizeOf60 rfl rfl) ?_
          exact d_closes ⟨look_row rfl 5 rfl s5, trivial⟩ 6 rfl rfl rfl hS (AgreeR.refl _) (t_sat (fun _ h => h) (hK () trivial))
         · -- 7
          rintro _ S hF hS D hp K hK
          try dsimp only at hF ⊢
          have s6 := hp 6 rfl
          refine d_need (small := [(41, (.pointer (some ⟨p, 1, none⟩)))]) ⟨look_row rfl 6 rfl s6, trivial⟩ ?_
          refine tp rfl (lv_load Try.isAgg60 rfl (gives_blk (.head _) rfl)) ?_
          exact d_closes ⟨look_row rfl 6 rfl s6, trivial⟩ 7 rfl rfl rfl hS (AgreeR.refl _) (t_sat (fun _ h => h) (hK () trivial))
         · -- 8
          rintro _ S hF hS D hp K hK
          try dsimp only at hF ⊢
          have s7 := hp 7 rfl
          refine d_need (small := [(42, (.slice ba ((ms.eraseIdx kp).length) ca))]) ⟨look_row rfl 7 rfl s7, trivial⟩ ?_
          refine tp rfl (lv_len Try.underlying60 rfl rfl) ?_
          exact d_closes ⟨look_row rfl 7 rfl s7, trivial⟩ 8 rfl rfl rfl hS (AgreeR.refl _) (t_sat (fun _ h => h) (hK () trivial))
         · -- 9
          rintro _ S hF hS D hp K hK
          try dsimp only at hF ⊢
          have s3 := hp 3 rfl
          have s8 := hp 8 rfl
          refine d_need (small := [(38, (.int .i64 ((a - 1 : Nat) : Int))), (43, (.int .i64 (((ms.eraseIdx kp).length : Nat) : Int)))]) ⟨look_row rfl 3 rfl s3, look_row rfl 8 rfl s8, trivial⟩ ?_
          refine tp rfl (lv_eql rfl rfl (beq_eq_false_iff_ne.2 h3)) ?_
          exact d_closes ⟨look_row rfl 3 rfl s3, look_row rfl 8 rfl s8, trivial⟩ 9 rfl rfl rfl hS (AgreeR.refl _) (t_sat (fun _ h => h) (hK () trivial))
        · -- behind
         rintro _ hF
         try dsimp only at hF ⊢
         refine t_weak (E' := [(0, (.pointer (some ⟨p, 0, none⟩))), (1, (.int .i64 id)), (4, (.int .i64 0)), (5, (.int .i64 ((kp : Nat) : Int))), (10, (.bool false)), (27, (.bool true)), (44, (.bool false))]) ⟨rfl, rfl, rfl, rfl, rfl, rfl, rfl, trivial⟩ ?_
         refine q_then_n (hK9 _ _ ?_)
         refine c_false rfl ?_
         refine c_skip ?_
         refine q_then_n (hK8 _ _ ?_)
         refine c_seq (fun K10 hK10 => ?_)
         refine c_region ?_
         refine tp rfl (lv_assign rfl) ?_
         refine t_done ?_
         refine q_then_n (hK10 _ _ ?_)
         refine c_ret ?_
         have hlv : a - 1 = leaveA ms a id := by
                                    unfold leaveA; rw [hkp, Int.toNat_natCast, if_neg (by omega)]
                                    by_cases h1 : kp < a
                                    · simp only [if_pos h1]; first | (rw [if_pos (by omega)]; done) | (rw [if_pos (by omega)]; omega) | (rw [if_neg (by omega)]; done) | (rw [if_neg (by omega)]; omega)
                                    · simp only [if_neg h1]; first | (rw [if_pos (by omega)]; done) | (rw [if_pos (by omega)]; omega) | (rw [if_neg (by omega)]; done) | (rw [if_neg (by omega)]; omega)
         refine t_f1 ?_
         refine t_f2 ?_
         refine t_f2 ?_
         refine t_shutTv (congrArg (fun x : Nat => Value.int .i64 ((x : Nat) : Int)) hlv) rfl (hT.left (k := kp) (by omega) (by unfold leaveA; rw [hkp, Int.toNat_natCast, if_neg (by omega)]) hbok) ?_
         rw [show ms.eraseIdx kp = leaveM ms id from by unfold leaveM; rw [hkp, Int.toNat_natCast, if_neg (by omega)]]
         refine q_ret rfl rfl ?_
         exact ⟨by unfold leaveEr; split <;> first | rfl | (exfalso; omega), rfl⟩
    · -- no
      refine tp rfl (lv_lss rfl rfl (decide_eq_false h2)) ?_
      refine t_done ?_
      refine q_then_n (hK7 _ _ ?_)
      refine c_false rfl ?_
      refine c_skip ?_
      refine q_then_n (hK6 _ _ ?_)
      refine c_seq (fun K8 hK8 => ?_)
      refine c_seq (fun K9 hK9 => ?_)
      by_cases h4 : ((a : Nat) : Int) = (((ms.eraseIdx kp).length : Nat) : Int)
      · -- yes
        refine c_draw (γ := Unit) (n := 10) Try.mixed rfl rfl (fun _ S => True) (fun _ => [(0, 35, (.pointer (some ⟨p, 0, none⟩))), (1, 36, (.pointer (some ⟨p, 0, none⟩))), (2, 37, (.pointer (some ⟨p, 2, none⟩))), (3, 38, (.int .i64 ((a : Nat) : Int))), (4, 39, (.pointer (some ⟨p, 0, none⟩))), (5, 40, (.pointer (some ⟨p, 0, none⟩))), (6, 41, (.pointer (some ⟨p, 1, none⟩))), (7, 42, (.slice ba ((ms.eraseIdx kp).length) ca)), (8, 43, (.int .i64 (((ms.eraseIdx kp).length : Nat) : Int))), (9, 44, (.bool true))]) (fun _ S => (Join (mems (ps.eraseIdx kp) (ms.eraseIdx kp))) :: (Blk p [(.int .i64 q), (.slice ba ((ms.eraseIdx kp).length) ca), (.int .i64 ((a : Nat) : Int))] 62) :: (SlV 63 1 (.slice ba ((ms.eraseIdx kp).length) ca) ((ms.eraseIdx kp).length) (recs ptrF (ps.eraseIdx kp))) :: R) (()) trivial (fun _ h => h) (fun _ _ h => h) ?_ ?_
        · -- steps
         refine ⟨?_, ?_, ?_, ?_, ?_, ?_, ?_, ?_, ?_, ?_, trivial⟩
         · -- 0
          rintro _ S hF hS D hp K hK
          try dsimp only at hF ⊢
          refine d_need (small := [(0, (.pointer (some ⟨p, 0, none⟩)))]) ⟨look_b rfl rfl, trivial⟩ ?_
          refine tp rfl (lv_move rfl) ?_
          exact d_closes ⟨look_b rfl rfl, trivial⟩ 0 rfl rfl rfl hS (AgreeR.refl _) (t_sat (fun _ h => h) (hK () trivial))
         · -- 1
          rintro _ S hF hS D hp K hK
          try dsimp only at hF ⊢
          have s0 := hp 0 rfl
          refine d_need (small := [(35, (.pointer (some ⟨p, 0, none⟩)))]) ⟨look_row rfl 0 rfl s0, trivial⟩ ?_
          refine tp rfl (lv_nilCheck rfl) ?_
          exact d_closes ⟨look_row rfl 0 rfl s0, trivial⟩ 1 rfl rfl rfl hS (AgreeR.refl _) (t_sat (fun _ h => h) (hK () trivial))
         · -- 2
          rintro _ S hF hS D hp K hK
          try dsimp only at hF ⊢
          have s1 := hp 1 rfl
          refine d_need (small := [(36, (.pointer (some ⟨p, 0, none⟩)))]) ⟨look_row rfl 1 rfl s1, trivial⟩ ?_
          refine tp rfl (lv_fieldAddr (o' := 2) Try.underlying62 rfl Try.sizeOf3 rfl rfl) ?_
          exact d_closes ⟨look_row rfl 1 rfl s1, trivial⟩ 2 rfl rfl rfl hS (AgreeR.refl _) (t_sat (fun _ h => h) (hK () trivial))
         · -- 3
          rintro _ S hF hS D hp K hK
          try dsimp only at hF ⊢
          have s2 := hp 2 rfl
          refine d_need (small := [(37, (.pointer (some ⟨p, 2, none⟩)))]) ⟨look_row rfl 2 rfl s2, trivial⟩ ?_
          refine tp rfl (lv_load Try.isAgg3 rfl (gives_blk (.tail _ (.head _)) rfl)) ?_
          exact d_closes ⟨look_row rfl 2 rfl s2, trivial⟩ 3 rfl rfl rfl hS (AgreeR.refl _) (t_sat (fun _ h => h) (hK () trivial))
         · -- 4
          rintro _ S hF hS D hp K hK
          try dsimp only at hF ⊢
          refine d_need (small := [(0, (.pointer (some ⟨p, 0, none⟩)))]) ⟨look_b rfl rfl, trivial⟩ ?_
          refine tp rfl (lv_move rfl) ?_
          exact d_closes ⟨look_b rfl rfl, trivial⟩ 4 rfl rfl rfl hS (AgreeR.refl _) (t_sat (fun _ h => h) (hK () trivial))
         · -- 5
          rintro _ S hF hS D hp K hK
          try dsimp only at hF ⊢
          have s4 := hp 4 rfl
          refine d_need (small := [(39, (.pointer (some ⟨p, 0, none⟩)))]) ⟨look_row rfl 4 rfl s4, trivial⟩ ?_
          refine tp rfl (lv_nilCheck rfl) ?_
          exact d_closes ⟨look_row rfl 4 rfl s4, trivial⟩ 5 rfl rfl rfl hS (AgreeR.refl _) (t_sat (fun _ h => h) (hK () trivial))
         · -- 6
          rintro _ S hF hS D hp K hK
          try dsimp only at hF ⊢
          have s5 := hp 5 rfl
          refine d_need (small := [(40, (.pointer (some ⟨p, 0, none⟩)))]) ⟨look_row rfl 5 rfl s5, trivial⟩ ?_
          refine tp rfl (lv_fieldAddr (o' := 1) Try.underlying62 rfl Try.sizeOf60 rfl rfl) ?_
          exact d_closes ⟨look_row rfl 5 rfl s5, trivial⟩ 6 rfl rfl rfl hS (AgreeR.refl _) (t_sat (fun _ h => h) (hK () trivial))
         · -- 7
          rintro _ S hF hS D hp K hK
          try dsimp only at hF ⊢
          have s6 := hp 6 rfl
          refine d_need (small := [(41, (.pointer (some ⟨p, 1, none⟩)))]) ⟨look_row rfl 6 rfl s6, trivial⟩ ?_
          refine tp rfl (lv_load Try.isAgg60 rfl (gives_blk (.tail _ (.head _)) rfl)) ?_
          exact d_closes ⟨look_row rfl 6 rfl s6, trivial⟩ 7 rfl rfl rfl hS (AgreeR.refl _) (t_sat (fun _ h => h) (hK () trivial))
         · -- 8
          rintro _ S hF hS D hp K hK
          try dsimp only at hF ⊢
          have s7 := hp 7 rfl
          refine d_need (small := [(42, (.slice ba ((ms.eraseIdx kp).length) ca))]) ⟨look_row rfl 7 rfl s7, trivial⟩ ?_
          refine tp rfl (lv_len Try.underlying60 rfl rfl) ?_
          exact d_closes ⟨look_row rfl 7 rfl s7, trivial⟩ 8 rfl rfl rfl hS (AgreeR.refl _) (t_sat (fun _ h => h) (hK () trivial))
         · -- 9
          rintro _ S hF hS D hp K hK
          try dsimp only at hF ⊢
          have s3 := hp 3 rfl
          have s8 := hp 8 rfl
          refine d_need (small := [(38, (.int .i64 ((a : Nat) : Int))), (43, (.int .i64 (((ms.eraseIdx kp).length : Nat) : Int)))]) ⟨look_row rfl 3 rfl s3, look_row rfl 8 rfl s8, trivial⟩ ?_
          refine tp rfl (lv_eql rfl rfl (beq_iff_eq.2 h4)) ?_
          exact d_closes ⟨look_row rfl 3 rfl s3, look_row rfl 8 rfl s8, trivial⟩ 9 rfl rfl rfl hS (AgreeR.refl _) (t_sat (fun _ h => h) (hK () trivial))
        · -- behind
         rintro _ hF
         try dsimp only at hF ⊢
         refine t_weak (E' := [(0, (.pointer (some ⟨p, 0, none⟩))), (1, (.int .i64 id)), (4, (.int .i64 0)), (5, (.int .i64 ((kp : Nat) : Int))), (10, (.bool false)), (27, (.bool false)), (44, (.bool true))]) ⟨rfl, rfl, rfl, rfl, rfl, rfl, rfl, trivial⟩ ?_
         refine q_then_n (hK9 _ _ ?_)
         refine c_true rfl ?_
         refine c_region ?_
         refine tp rfl (lv_move rfl) ?_
         refine tp rfl (lv_nilCheck rfl) ?_
         refine tp rfl (lv_fieldAddr (o' := 2) Try.underlying62 rfl Try.sizeOf3 rfl rfl) ?_
         refine t_f1 ?_
         refine ts (sv_blk Try.sizeOf3 rfl rfl rfl (Nat.le_of_ble_eq_true rfl) rfl) ?_
         refine t_done ?_
         refine q_then_n (hK8 _ _ ?_)
         refine c_seq (fun K10 hK10 => ?_)
         refine c_region ?_
         refine tp rfl (lv_assign rfl) ?_
         refine t_done ?_
         refine q_then_n (hK10 _ _ ?_)
         refine c_ret ?_
         have hlv : 0 = leaveA ms a id := by
                                    unfold leaveA; rw [hkp, Int.toNat_natCast, if_neg (by omega)]
                                    by_cases h1 : kp < a
                                    · simp only [if_pos h1]; first | (rw [if_pos (by omega)]; done) | (rw [if_pos (by omega)]; omega) | (rw [if_neg (by omega)]; done) | (rw [if_neg (by omega)]; omega)
                                    · simp only [if_neg h1]; first | (rw [if_pos (by omega)]; done) | (rw [if_pos (by omega)]; omega) | (rw [if_neg (by omega)]; done) | (rw [if_neg (by omega)]; omega)
         refine t_f1 ?_
         refine t_f2 ?_
         refine t_f2 ?_
         refine t_shutTv (congrArg (fun x : Nat => Value.int .i64 ((x : Nat) : Int)) hlv) rfl (hT.left (k := kp) (by omega) (by unfold leaveA; rw [hkp, Int.toNat_natCast, if_neg (by omega)]) hbok) ?_
         rw [show ms.eraseIdx kp = leaveM ms id from by unfold leaveM; rw [hkp, Int.toNat_natCast, if_neg (by omega)]]
         refine q_ret rfl rfl ?_
         exact ⟨by unfold leaveEr; split <;> first | rfl | (exfalso; omega), rfl⟩
      · -- no
        refine c_draw (γ := Unit) (n := 10) Try.mixed rfl rfl (fun _ S => True) (fun _ => [(0, 35, (.pointer (some ⟨p, 0, none⟩))), (1, 36, (.pointer (some ⟨p, 0, none⟩))), (2, 37, (.pointer (some ⟨p, 2, none⟩))), (3, 38, (.int .i64 ((a : Nat) : Int))), (4, 39, (.pointer (some ⟨p, 0, none⟩))), (5, 40, (.pointer (some ⟨p, 0, none⟩))), (6, 41, (.pointer (some ⟨p, 1, none⟩))), (7, 42, (.slice ba ((ms.eraseIdx kp).length) ca)), (8, 43, (.int .i64 (((ms.eraseIdx kp).length : Nat) : Int))), (9, 44, (.bool false))]) (fun _ S => (Join (mems (ps.eraseIdx kp) (ms.eraseIdx kp))) :: (Blk p [(.int .i64 q), (.slice ba ((ms.eraseIdx kp).length) ca), (.int .i64 ((a : Nat) : Int))] 62) :: (SlV 63 1 (.slice ba ((ms.eraseIdx kp).length) ca) ((ms.eraseIdx kp).length) (recs ptrF (ps.eraseIdx kp))) :: R) (()) trivial (fun _ h => h) (fun _ _ h => h) ?_ ?_
        · -- steps
         refine ⟨?_, ?_, ?_, ?_, ?_, ?_, ?_, ?_, ?_, ?_, trivial⟩
         · -- 0
          rintro _ S hF hS D hp K hK
          try dsimp only at hF ⊢
          refine d_need (small := [(0, (.pointer (some ⟨p, 0, none⟩)))]) ⟨look_b rfl rfl, trivial⟩ ?_
          refine tp rfl (lv_move rfl) ?_
          exact d_closes ⟨look_b rfl rfl, trivial⟩ 0 rfl rfl rfl hS (AgreeR.refl _) (t_sat (fun _ h => h) (hK () trivial))
         · -- 1
          rintro _ S hF hS D hp K hK
          try dsimp only at hF ⊢
          have s0 := hp 0 rfl
          refine d_need (small := [(35, (.pointer (some ⟨p, 0, none⟩)))]) ⟨look_row rfl 0 rfl s0, trivial⟩ ?_
          refine tp rfl (lv_nilCheck rfl) ?_
          exact d_closes ⟨look_row rfl 0 rfl s0, trivial⟩ 1 rfl rfl rfl hS (AgreeR.refl _) (t_sat (fun _ h => h) (hK () trivial))
         · -- 2
          rintro _ S hF hS D hp K hK
          try dsimp only at hF ⊢
          have s1 := hp 1 rfl
          refine d_need (small := [(36, (.pointer (some ⟨p, 0, none⟩)))]) ⟨look_row rfl 1 rfl s1, trivial⟩ ?_
          refine tp rfl (lv_fieldAddr (o' := 2) Try.underlying62 rfl Try.sizeOf3 rfl rfl) ?_
          exact d_closes ⟨look_row rfl 1 rfl s1, trivial⟩ 2 rfl rfl rfl hS (AgreeR.refl _) (t_sat (fun _ h => h) (hK () trivial))
         · -- 3
          rintro _ S hF hS D hp K hK
          try dsimp only at hF ⊢
          have s2 := hp 2 rfl
          refine d_need (small := [(37, (.pointer (some ⟨p, 2, none⟩)))]) ⟨look_row rfl 2 rfl s2, trivial⟩ ?_
          refine tp rfl (lv_load Try.isAgg3 rfl (gives_blk (.tail _ (.head _)) rfl)) ?_
          exact d_closes ⟨look_row rfl 2 rfl s2, trivial⟩ 3 rfl rfl rfl hS (AgreeR.refl _) (t_sat (fun _ h => h) (hK () trivial))
         · -- 4
          rintro _ S hF hS D hp K hK
          try dsimp only at hF ⊢
          refine d_need (small := [(0, (.pointer (some ⟨p, 0, none⟩)))]) ⟨look_b rfl rfl, trivial⟩ ?_
          refine tp rfl (lv_move rfl) ?_
          exact d_closes ⟨look_b rfl rfl, trivial⟩ 4 rfl rfl rfl hS (AgreeR.refl _) (t_sat (fun _ h => h) (hK () trivial))
         · -- 5
          rintro _ S hF hS D hp K hK
          try dsimp only at hF ⊢
          have s4 := hp 4 rfl
          refine d_need (small := [(39, (.pointer (some ⟨p, 0, none⟩)))]) ⟨look_row rfl 4 rfl s4, trivial⟩ ?_
          refine tp rfl (lv_nilCheck rfl) ?_
          exact d_closes ⟨look_row rfl 4 rfl s4, trivial⟩ 5 rfl rfl rfl hS (AgreeR.refl _) (t_sat (fun _ h => h) (hK () trivial))
         · -- 6
          rintro _ S hF hS D hp K hK
          try dsimp only at hF ⊢
          have s5 := hp 5 rfl
          refine d_need (small := [(40, (.pointer (some ⟨p, 0, none⟩)))]) ⟨look_row rfl 5 rfl s5, trivial⟩ ?_
          refine tp rfl (lv_fieldAddr (o' := 1) Try.underlying62 rfl Try.sizeOf60 rfl rfl) ?_
          exact d_closes ⟨look_row rfl 5 rfl s5, trivial⟩ 6 rfl rfl rfl hS (AgreeR.refl _) (t_sat (fun _ h => h) (hK () trivial))
         · -- 7
          rintro _ S hF hS D hp K hK
          try dsimp only at hF ⊢
          have s6 := hp 6 rfl
          refine d_need (small := [(41, (.pointer (some ⟨p, 1, none⟩)))]) ⟨look_row rfl 6 rfl s6, trivial⟩ ?_
          refine tp rfl (lv_load Try.isAgg60 rfl (gives_blk (.tail _ (.head _)) rfl)) ?_
          exact d_closes ⟨look_row rfl 6 rfl s6, trivial⟩ 7 rfl rfl rfl hS (AgreeR.refl _) (t_sat (fun _ h => h) (hK () trivial))
         · -- 8
          rintro _ S hF hS D hp K hK
          try dsimp only at hF ⊢
          have s7 := hp 7 rfl
          refine d_need (small := [(42, (.slice ba ((ms.eraseIdx kp).length) ca))]) ⟨look_row rfl 7 rfl s7, trivial⟩ ?_
          refine tp rfl (lv_len Try.underlying60 rfl rfl) ?_
          exact d_closes ⟨look_row rfl 7 rfl s7, trivial⟩ 8 rfl rfl rfl hS (AgreeR.refl _) (t_sat (fun _ h => h) (hK () trivial))
         · -- 9
          rintro _ S hF hS D hp K hK
          try dsimp only at hF ⊢
          have s3 := hp 3 rfl
          have s8 := hp 8 rfl
          refine d_need (small := [(38, (.int .i64 ((a : Nat) : Int))), (43, (.int .i64 (((ms.eraseIdx kp).length : Nat) : Int)))]) ⟨look_row rfl 3 rfl s3, look_row rfl 8 rfl s8, trivial⟩ ?_
          refine tp rfl (lv_eql rfl rfl (beq_eq_false_iff_ne.2 h4)) ?_
          exact d_closes ⟨look_row rfl 3 rfl s3, look_row rfl 8 rfl s8, trivial⟩ 9 rfl rfl rfl hS (AgreeR.refl _) (t_sat (fun _ h => h) (hK () trivial))
        · -- behind
         rintro _ hF
         try dsimp only at hF ⊢
         refine t_weak (E' := [(0, (.pointer (some ⟨p, 0, none⟩))), (1, (.int .i64 id)), (4, (.int .i64 0)), (5, (.int .i64 ((kp : Nat) : Int))), (10, (.bool false)), (27, (.bool false)), (44, (.bool false))]) ⟨rfl, rfl, rfl, rfl, rfl, rfl, rfl, trivial⟩ ?_
         refine q_then_n (hK9 _ _ ?_)
         refine c_false rfl ?_
         refine c_skip ?_
         refine q_then_n (hK8 _ _ ?_)
         refine c_seq (fun K10 hK10 => ?_)
         refine c_region ?_
         refine tp rfl (lv_assign rfl) ?_
         refine t_done ?_
         refine q_then_n (hK10 _ _ ?_)
         refine c_ret ?_
         have hlv : a = leaveA ms a id := by
                                    unfold leaveA; rw [hkp, Int.toNat_natCast, if_neg (by omega)]
                                    by_cases h1 : kp < a
                                    · simp only [if_pos h1]; first | (rw [if_pos (by omega)]; done) | (rw [if_pos (by omega)]; omega) | (rw [if_neg (by omega)]; done) | (rw [if_neg (by omega)]; omega)
                                    · simp only [if_neg h1]; first | (rw [if_pos (by omega)]; done) | (rw [if_pos (by omega)]; omega) | (rw [if_neg (by omega)]; done) | (rw [if_neg (by omega)]; omega)
         refine t_f2 ?_
         refine t_f2 ?_
         refine t_shutTv (congrArg (fun x : Nat => Value.int .i64 ((x : Nat) : Int)) hlv) rfl (hT.left (k := kp) (by omega) (by unfold leaveA; rw [hkp, Int.toNat_natCast, if_neg (by omega)]) hbok) ?_
         rw [show ms.eraseIdx kp = leaveM ms id from by unfold leaveM; rw [hkp, Int.toNat_natCast, if_neg (by omega)]]
         refine q_ret rfl rfl ?_
         exact ⟨by unfold leaveEr; split <;> first | rfl | (exfalso; omega), rfl⟩

theorem tcredit_ok {R : List HP} {p a : Nat} {q : Int} {ms : List M3} (id : Int) (hb : ms.length ≤ 50000) :
    Ok Try.prog 16 [(.pointer (some ⟨p, 0, none⟩)), (.int .i64 id)] ((TurnsO p q ms a) :: R)
      (fun v M => v = .tuple #[.int .i64 (credV ms id), .bool (decide (placeM ms id ≥ 0))] ∧ M = TurnsO p q ms a :: R) := by
  refine ok_of (N := 22) Try.func16 rfl rfl rfl (fun W => ?_)
  refine t_openT (fun ba ca ps hT => ?_)
  have hTlp := hT.lp
  have hTat := hT.at_
  have hTq1 := hT.q1
  have hTq2 := hT.q2
  have hpg := placeM_ge ms id
  refine c_seq (fun K1 hK1 => ?_)
  refine c_region ?_
  refine tp rfl (lv_assign rfl) ?_
  refine tp rfl (lv_assign rfl) ?_
  refine t_done ?_
  refine q_then_n (hK1 _ _ ?_)
  refine c_seq (fun K2 hK2 => ?_)
  refine c_seq (fun K3 hK3 => ?_)
  refine c_region ?_
  refine tp rfl (lv_move rfl) ?_
  refine tp rfl (lv_move rfl) ?_
  refine t_f2 ?_
  refine t_f2 ?_
  refine t_f2 ?_
  refine tc rfl (en_fn Try.call24 rfl) (place_ok hTlp rfl hT.ok (by omega) id) ?_
  rintro _ _ ⟨rfl, rfl⟩
  refine tp rfl (lv_assign rfl) ?_
  refine t_done ?_
  refine q_then_n (hK3 _ _ ?_)
  refine c_seq (fun K4 hK4 => ?_)
  refine c_region ?_
  refine tp rfl (lv_move rfl) ?_
  by_cases h1 : (placeM ms id) ≥ 0
  · -- yes
    refine tp rfl (lv_geq rfl rfl (decide_eq_true h1)) ?_
    refine t_done ?_
    refine q_then_n (hK4 _ _ ?_)
    refine c_true rfl ?_
    refine c_seq (fun K5 hK5 => ?_)
    refine c_region ?_
    refine t_f2 ?_
    refine t_takeM (i := (placeM ms id).toNat) hTlp (by omega) ?_
    refine tp rfl (lv_move rfl) ?_
    refine tp rfl (lv_nilCheck rfl) ?_
    refine tp rfl (lv_fieldAddr (o' := 1) Try.underlying62 rfl Try.sizeOf60 rfl rfl) ?_
    refine tp rfl (lv_load Try.isAgg60 rfl (gives_blk (.tail _ (.tail _ (.head _))) rfl)) ?_
    refine tp rfl (lv_move rfl) ?_
    refine tp rfl (lv_indexAddr (k' := (placeM ms id).toNat) Try.underlying60 Try.sizeOf63 rfl rfl hT.ok (by omega) (by omega) (by omega)) ?_
    refine tp rfl (lv_load Try.isAgg63 rfl (gives_sl (.tail _ (.tail _ (.tail _ (.head _)))) (ptrs_get (by first | omega | (simp; omega))))) ?_
    refine tp rfl (lv_nilCheck rfl) ?_
    refine tp rfl (lv_fieldAddr (o' := 2) Try.underlying65 rfl Try.sizeOf3 rfl rfl) ?_
    refine tp rfl (lv_load Try.isAgg3 rfl (gives_blk (.head _) rfl)) ?_
    refine tp rfl (lv_assign rfl) ?_
    refine tp rfl (lv_assign rfl) ?_
    refine t_done ?_
    refine q_then_n (hK5 _ _ ?_)
    refine c_ret ?_
    refine q_then_r ?_
    refine t_f1 ?_
    refine t_f1 ?_
    refine t_putM0 hTlp (by omega) ?_
    refine t_f2 ?_
    refine t_f2 ?_
    refine t_shutTn rfl hT ?_
    refine q_ret2 rfl rfl rfl ?_
    exact ⟨by unfold credV; first | rw [if_pos (by omega), decide_eq_true (by omega)] | rw [if_neg (by omega), decide_eq_false (by omega)], rfl⟩
  · -- no
    refine tp rfl (lv_geq rfl rfl (decide_eq_false h1)) ?_
    refine t_done ?_
    refine q_then_n (hK4 _ _ ?_)
    refine c_false rfl ?_
    refine c_skip ?_
    refine q_then_n (hK2 _ _ ?_)
    refine c_seq (fun K5 hK5 => ?_)
    refine c_region ?_
    refine tp rfl (lv_assign rfl) ?_
    refine tp rfl (lv_assign rfl) ?_
    refine t_done ?_
    refine q_then_n (hK5 _ _ ?_)
    refine c_ret ?_
    refine t_f2 ?_
    refine t_f2 ?_
    refine t_f2 ?_
    refine t_shutTn rfl hT ?_
    refine q_ret2 rfl rfl rfl ?_
    exact ⟨by unfold credV; first | rw [if_pos (by omega), decide_eq_true (by omega)] | rw [if_neg (by omega), decide_eq_false (by omega)], rfl⟩

theorem tturn_ok {R : List HP} {p a : Nat} {q : Int} {ms : List M3} (hb : ms.length ≤ 50000) :
    Ok Try.prog 17 [(.pointer (some ⟨p, 0, none⟩))] ((TurnsO p q ms a) :: R)
      (fun v M => v = .tuple #[.int .i64 (ms.getD a M3.z).id, .bool (decide (ms.length ≠ 0))] ∧ M = TurnsO p q ms a :: R) := by
  refine ok_of (N := 23) Try.func17 rfl rfl rfl (fun W => ?_)
  refine t_openT (fun ba ca ps hT => ?_)
  have hTlp := hT.lp
  have hTat := hT.at_
  have hTq1 := hT.q1
  have hTq2 := hT.q2
  refine c_seq (fun K1 hK1 => ?_)
  refine c_region ?_
  refine tp rfl (lv_assign rfl) ?_
  refine tp rfl (lv_assign rfl) ?_
  refine t_done ?_
  refine q_then_n (hK1 _ _ ?_)
  refine c_seq (fun K2 hK2 => ?_)
  refine c_seq (fun K3 hK3 => ?_)
  refine c_region ?_
  refine tp rfl (lv_move rfl) ?_
  refine tp rfl (lv_nilCheck rfl) ?_
  refine tp rfl (lv_fieldAddr (o' := 1) Try.underlying62 rfl Try.sizeOf60 rfl rfl) ?_
  refine tp rfl (lv_load Try.isAgg60 rfl (gives_blk (.head _) rfl)) ?_
  refine tp rfl (lv_len Try.underlying60 rfl rfl) ?_
  by_cases h1 : ((ms.length : Nat) : Int) = 0
  · -- yes
    refine tp rfl (lv_eql rfl rfl (beq_iff_eq.2 h1)) ?_
    refine t_done ?_
    refine q_then_n (hK3 _ _ ?_)
    refine c_true rfl ?_
    refine c_seq (fun K4 hK4 => ?_)
    refine c_region ?_
    refine tp rfl (lv_assign rfl) ?_
    refine tp rfl (lv_assign rfl) ?_
    refine t_done ?_
    refine q_then_n (hK4 _ _ ?_)
    refine c_ret ?_
    refine q_then_r ?_
    refine t_f2 ?_
    refine t_f2 ?_
    refine t_f2 ?_
    refine t_shutTn rfl hT ?_
    refine q_ret2 rfl rfl rfl ?_
    exact ⟨by rw [decide_eq_false (by omega)]; have : ms = [] := List.eq_nil_of_length_eq_zero (by omega); subst this; rfl, rfl⟩
  · -- no
    refine tp rfl (lv_eql rfl rfl (beq_eq_false_iff_ne.2 h1)) ?_
    refine t_done ?_
    refine q_then_n (hK3 _ _ ?_)
    refine c_false rfl ?_
    refine c_skip ?_
    refine q_then_n (hK2 _ _ ?_)
    refine c_seq (fun K4 hK4 => ?_)
    have hal : a < ms.length := by rcases hTat with h | ⟨_, h⟩; exact h; subst h; simp at *
    refine t_f2 ?_
    refine t_takeM (i := a) hTlp (by omega) ?_
    refine c_draw (γ := Unit) (n := 15) Try.mixed rfl rfl (fun _ S => True) (fun _ => [(0, 10, (.pointer (some ⟨p, 0, none⟩))), (1, 11, (.pointer (some ⟨p, 0, none⟩))), (2, 12, (.pointer (some ⟨p, 1, none⟩))), (3, 13, (.slice ba ms.length ca)), (4, 14, (.pointer (some ⟨p, 0, none⟩))), (5, 15, (.pointer (some ⟨p, 0, none⟩))), (6, 16, (.pointer (some ⟨p, 2, none⟩))), (7, 17, (.int .i64 ((a : Nat) : Int))), (8, 18, (.pointer (some (ad ba a)))), (9, 19, (.pointer (some ⟨(ps.getD a 0), 0, none⟩))), (10, 20, (.pointer (some ⟨(ps.getD a 0), 0, none⟩))), (11, 21, (.pointer (some ⟨(ps.getD a 0), 0, none⟩))), (12, 22, (.int .i64 ((ms.getD a M3.z).id))), (13, 2, (.int .i64 ((ms.getD a M3.z).id))), (14, 3, (.bool true))]) (fun _ S => (Blk (ps.getD a 0) [(.int .i64 ((ms.getD a M3.z).id)), (.int .i64 ((ms.getD a M3.z).w)), (.int .i64 ((ms.getD a M3.z).c))] 65) :: (Join (mems (ps.eraseIdx a) (ms.eraseIdx a))) :: (Blk p [(.int .i64 q), (.slice ba ms.length ca), (.int .i64 ((a : Nat) : Int))] 62) :: (SlV 63 1 (.slice ba ms.length ca) ms.length (recs ptrF ps)) :: R) (()) trivial (fun _ h => h) (fun _ _ h => h) ?_ ?_
    · -- steps
      refine ⟨?_, ?_, ?_, ?_, ?_, ?_, ?_, ?_, ?_, ?_, ?_, ?_, ?_, ?_, ?_, trivial⟩
      · -- 0
        rintro _ S hF hS D hp K hK
        try dsimp only at hF ⊢
        refine d_need (small := [(0, (.pointer (some ⟨p, 0, none⟩)))]) ⟨look_b rfl rfl, trivial⟩ ?_
        refine tp rfl (lv_move rfl) ?_
        exact d_closes ⟨look_b rfl rfl, trivial⟩ 0 rfl rfl rfl hS (AgreeR.refl _) (t_sat (fun _ h => h) (hK () trivial))
      · -- 1
        rintro _ S hF hS D hp K hK
        try dsimp only at hF ⊢
        have s0 := hp 0 rfl
        refine d_need (small := [(10, (.pointer (some ⟨p, 0, none⟩)))]) ⟨look_row rfl 0 rfl s0, trivial⟩ ?_
        refine tp rfl (lv_nilCheck rfl) ?_
        exact d_closes ⟨look_row rfl 0 rfl s0, trivial⟩ 1 rfl rfl rfl hS (AgreeR.refl _) (t_sat (fun _ h => h) (hK () trivial))
      · -- 2
        rintro _ S hF hS D hp K hK
        try dsimp only at hF ⊢
        have s1 := hp 1 rfl
        refine d_need (small := [(11, (.pointer (some ⟨p, 0, none⟩)))]) ⟨look_row rfl 1 rfl s1, trivial⟩ ?_
        refine tp rfl (lv_fieldAddr (o' := 1) Try.underlying62 rfl Try.sizeOf60 rfl rfl) ?_
        exact d_closes ⟨look_row rfl 1 rfl s1, trivial⟩ 2 rfl rfl rfl hS (AgreeR.refl _) (t_sat (fun _ h => h) (hK () trivial))
      · -- 3
        rintro _ S hF hS D hp K hK
        try dsimp only at hF ⊢
        have s2 := hp 2 rfl
        refine d_need (small := [(12, (.pointer (some ⟨p, 1, none⟩)))]) ⟨look_row rfl 2 rfl s2, trivial⟩ ?_
        refine tp rfl (lv_load Try.isAgg60 rfl (gives_blk (.tail _ (.tail _ (.head _))) rfl)) ?_
        exact d_closes ⟨look_row rfl 2 rfl s2, trivial⟩ 3 rfl rfl rfl hS (AgreeR.refl _) (t_sat (fun _ h => h) (hK () trivial))
      · -- 4
        rintro _ S hF hS D hp K hK
        try dsimp only at hF ⊢
        refine d_need (small := [(0, (.pointer (some ⟨p, 0, none⟩)))]) ⟨look_b rfl rfl, trivial⟩ ?_
        refine tp rfl (lv_move rfl) ?_
        exact d_closes ⟨look_b rfl rfl, trivial⟩ 4 rfl rfl rfl hS (AgreeR.refl _) (t_sat (fun _ h => h) (hK () trivial))
      · -- 5
        rintro _ S hF hS D hp K hK
        try dsimp only at hF ⊢
        have s4 := hp 4 rfl
        refine d_need (small := [(14, (.pointer (some ⟨p, 0, none⟩)))]) ⟨look_row rfl 4 rfl s4, trivial⟩ ?_
        refine tp rfl (lv_nilCheck rfl) ?_
        exact d_closes ⟨look_row rfl 4 rfl s4, trivial⟩ 5 rfl rfl rfl hS (AgreeR.refl _) (t_sat (fun _ h => h) (hK () trivial))
      · -- 6
        rintro _ S hF hS D hp K hK
        try dsimp only at hF ⊢
        have s5 := hp 5 rfl
        refine d_need (small := [(15, (.pointer (some ⟨p, 0, none⟩)))]) ⟨look_row rfl 5 rfl s5, trivial⟩ ?_
        refine tp rfl (lv_fieldAddr (o' := 2) Try.underlying62 rfl Try.sizeOf3 rfl rfl) ?_
        exact d_closes ⟨look_row rfl 5 rfl s5, trivial⟩ 6 rfl rfl rfl hS (AgreeR.refl _) (t_sat (fun _ h => h) (hK () trivial))
      · -- 7
        rintro _ S hF hS D hp K hK
        try dsimp only at hF ⊢
        have s6 := hp 6 rfl
        refine d_need (small := [(16, (.pointer (some ⟨p, 2, none⟩)))]) ⟨look_row rfl 6 rfl s6, trivial⟩ ?_
        refine tp rfl (lv_load Try.isAgg3 rfl (gives_blk (.tail _ (.tail _ (.head _))) rfl)) ?_
        exact d_closes ⟨look_row rfl 6 rfl s6, trivial⟩ 7 rfl rfl rfl hS (AgreeR.refl _) (t_sat (fun _ h => h) (hK () trivial))
      · -- 8
        rintro _ S hF hS D hp K hK
        try dsimp only at hF ⊢
        have s3 := hp 3 rfl
        have s7 := hp 7 rfl
        refine d_need (small := [(13, (.slice ba ms.length ca)), (17, (.int .i64 ((a : Nat) : Int)))]) ⟨look_row rfl 3 rfl s3, look_row rfl 7 rfl s7, trivial⟩ ?_
        refine tp rfl (lv_indexAddr (k' := a) Try.underlying60 Try.sizeOf63 rfl rfl hT.ok (by omega) (by omega) (by omega)) ?_
        exact d_closes ⟨look_row rfl 3 rfl s3, look_row rfl 7 rfl s7, trivial⟩ 8 rfl rfl rfl hS (AgreeR.refl _) (t_sat (fun _ h => h) (hK () trivial))
      · -- 9
        rintro _ S hF hS D hp K hK
        try dsimp only at hF ⊢
        have s8 := hp 8 rfl
        refine d_need (small := [(18, (.pointer (some (ad ba a))))]) ⟨look_row rfl 8 rfl s8, trivial⟩ ?_
        refine tp rfl (lv_load Try.isAgg63 rfl (gives_sl (.tail _ (.tail _ (.tail _ (.head _)))) (ptrs_get (by first | omega | (simp; omega))))) ?_
        exact d_closes ⟨look_row rfl 8 rfl s8, trivial⟩ 9 rfl rfl rfl hS (AgreeR.refl _) (t_sat (fun _ h => h) (hK () trivial))
      · -- 10
        rintro _ S hF hS D hp K hK
        try dsimp only at hF ⊢
        have s9 := hp 9 rfl
        refine d_need (small := [(19, (.pointer (some ⟨(ps.getD a 0), 0, none⟩)))]) ⟨look_row rfl 9 rfl s9, trivial⟩ ?_
        refine tp rfl (lv_nilCheck rfl) ?_
        exact d_closes ⟨look_row rfl 9 rfl s9, trivial⟩ 10 rfl rfl rfl hS (AgreeR.refl _) (t_sat (fun _ h => h) (hK () trivial))
      · -- 11
        rintro _ S hF hS D hp K hK
        try dsimp only at hF ⊢
        have s10 := hp 10 rfl
        refine d_need (small := [(20, (.pointer (some ⟨(ps.getD a 0), 0, none⟩)))]) ⟨look_row rfl 10 rfl s10, trivial⟩ ?_
        refine tp rfl (lv_fieldAddr (o' := 0) Try.underlying65 rfl Try.sizeOf3 rfl rfl) ?_
        exact d_closes ⟨look_row rfl 10 rfl s10, trivial⟩ 11 rfl rfl rfl hS (AgreeR.refl _) (t_sat (fun _ h => h) (hK () trivial))
      · -- 12
        rintro _ S hF hS D hp K hK
        try dsimp only at hF ⊢
        have s11 := hp 11 rfl
        refine d_need (small := [(21, (.pointer (some ⟨(ps.getD a 0), 0, none⟩)))]) ⟨look_row rfl 11 rfl s11, trivial⟩ ?_
        refine tp rfl (lv_load Try.isAgg3 rfl (gives_blk (.head _) rfl)) ?_
        exact d_closes ⟨look_row rfl 11 rfl s11, trivial⟩ 12 rfl rfl rfl hS (AgreeR.refl _) (t_sat (fun _ h => h) (hK () trivial))
      · -- 13
        rintro _ S hF hS D hp K hK
        try dsimp only at hF ⊢
        have s12 := hp 12 rfl
        refine d_need (small := [(22, (.int .i64 ((ms.getD a M3.z).id)))]) ⟨look_row rfl 12 rfl s12, trivial⟩ ?_
        refine tp rfl (lv_assign rfl) ?_
        exact d_closes ⟨look_row rfl 12 rfl s12, trivial⟩ 13 rfl rfl rfl hS (AgreeR.refl _) (t_sat (fun _ h => h) (hK () trivial))
      · -- 14
        rintro _ S hF hS D hp K hK
        try dsimp only at hF ⊢
        refine d_need (small := []) trivial ?_
        refine tp rfl (lv_assign rfl) ?_
        exact d_closes trivial 14 rfl rfl rfl hS (AgreeR.refl _) (t_sat (fun _ h => h) (hK () trivial))
    · -- behind
      rintro _ hF
      try dsimp only at hF ⊢
      refine t_weak (E' := [(0, (.pointer (some ⟨p, 0, none⟩))), (2, (.int .i64 ((ms.getD a M3.z).id))), (3, (.bool true)), (9, (.bool false))]) ⟨rfl, rfl, rfl, rfl, trivial⟩ ?_
      refine q_then_n (hK4 _ _ ?_)
      refine c_ret ?_
      refine t_f1 ?_
      refine t_f1 ?_
      refine t_putM0 hTlp (by omega) ?_
      refine t_f2 ?_
      refine t_f2 ?_
      refine t_shutTn rfl hT ?_
      refine q_ret2 rfl rfl rfl ?_
      exact ⟨by rw [decide_eq_true (by omega)], rfl⟩

theorem tlen_ok {R : List HP} {p a : Nat} {q : Int} {ms : List M3} (hb : ms.length ≤ 50000) :
    Ok Try.prog 23 [(.pointer (some ⟨p, 0, none⟩))] ((TurnsO p q ms a) :: R)
      (fun v M => v = .int .i64 ((ms.length : Nat) : Int) ∧ M = TurnsO p q ms a :: R) := by
  refine ok_of (N := 8) Try.func23 rfl rfl rfl (fun W => ?_)
  refine t_openT (fun ba ca ps hT => ?_)
  have hTlp := hT.lp
  have hTat := hT.at_
  have hTq1 := hT.q1
  have hTq2 := hT.q2
  refine c_seq (fun K1 hK1 => ?_)
  refine c_region ?_
  refine tp rfl (lv_assign rfl) ?_
  refine t_done ?_
  refine q_then_n (hK1 _ _ ?_)
  refine c_seq (fun K2 hK2 => ?_)
  refine c_region ?_
  refine tp rfl (lv_move rfl) ?_
  refine tp rfl (lv_nilCheck rfl) ?_
  refine tp rfl (lv_fieldAddr (o' := 1) Try.underlying62 rfl Try.sizeOf60 rfl rfl) ?_
  refine tp rfl (lv_load Try.isAgg60 rfl (gives_blk (.head _) rfl)) ?_
  refine tp rfl (lv_len Try.underlying60 rfl rfl) ?_
  refine tp rfl (lv_assign rfl) ?_
  refine t_done ?_
  refine q_then_n (hK2 _ _ ?_)
  refine c_ret ?_
  refine t_f2 ?_
  refine t_f2 ?_
  refine t_f2 ?_
  refine t_shutTn rfl hT ?_
  refine q_ret rfl rfl ?_
  exact ⟨rfl, rfl⟩
end Go.Proofs.Ytkhceihokoheaaa
