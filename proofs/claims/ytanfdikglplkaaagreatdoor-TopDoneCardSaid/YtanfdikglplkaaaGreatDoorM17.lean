/- Parts Tb, Gb, Gc: own lemmas and contracts of the code that the claim reaches. -/
import Derived.Test.YtanfdikglplkaaaGreatDoorM03
import Derived.Test.YtanfdikglplkaaaGreatDoorM16
import Derived.Test.YtanfdikglplkaaaGreatDoorM13
import Derived.Test.YtanfdikglplkaaaGreatDoorM08
set_option linter.unusedSimpArgs false
set_option linter.unusedVariables false
set_option maxRecDepth 100000
namespace Go.Proofs.YtanfdikglplkaaaGreatDoor
open Go Go.Proofs Sp
theorem tunew_ok {R : List HP} (x : Int) :
    Ok Tryz.prog 39 [(.int .i64 x)] R
      (fun v M => ∃ p, v = .pointer (some ⟨p, 0, none⟩) ∧ M = TurnsO p (qOf x) [] 0 :: R) := by
 refine ok_of (N := 8) Tryz.func39 rfl rfl rfl (fun W => ?_)
 refine c_seq (fun K1 hK1 => c_region (tp rfl (lv_assign rfl) (t_done (q_then_n (hK1 _ _ (c_seq (fun K2 hK2 => c_region (tp rfl (lv_move rfl) (tp rfl (lv_max (c := max x 1) rfl rfl rfl) (tp rfl (lv_min (c := min (max x 1) 1048576) rfl rfl rfl) ?_))))))))))
 refine tp rfl (lv_build (cs := [(.int .i64 (min (max x 1) 1048576)), (.slice none 0 0), (.int .i64 0)]) (pl := [(0, 1), (1, 1), (2, 1)]) Tryz.underlying139 Tryz.zeroValue139 (fun _ => by simp) rfl rfl) ?_
 refine tm rfl (mv_box rfl rfl) ?_
 rintro _ _ ⟨b1, rfl, rfl⟩
 refine tp rfl (lv_assign rfl) (t_done (q_then_n (hK2 _ _ (c_ret ?_))))
 refine t_newT (by omega) (by omega) ?_
 refine q_ret rfl rfl ?_
 exact ⟨_, rfl, rfl⟩
set_option maxHeartbeats 4000000 in
theorem tjoin_ok {R : List HP} {p a : Nat} {q : Int} {ms : List M3} (id w : Int) (hb : ms.length ≤ 50000) :
    Ok Tryz.prog 75 [(.pointer (some ⟨p, 0, none⟩)), (.int .i64 id), (.int .i64 w)] ((TurnsO p q ms a) :: R)
      (fun v M => v = .int .i64 (joinEr ms id w) ∧ M = TurnsO p q (joinM ms id w) a :: R) := by
 refine ok_of (N := 32) Tryz.func75 rfl rfl rfl (fun W => ?_)
 refine c_seq (fun K1 hK1 => c_region (tp rfl (lv_assign rfl) (t_done (q_then_n (hK1 _ _ (c_seq (fun K2 hK2 => c_block (c_seq (fun K3 hK3 => c_region (tp rfl (lv_move rfl) ?_))))))))))
 by_cases h1 : w < 1
 · refine tp rfl (lv_lss rfl rfl (decide_eq_true h1)) (tp rfl (lv_move rfl) ?_)
   refine t_skip rfl rfl rfl ?_
   refine t_skip rfl rfl rfl ?_
   refine tp rfl (lv_pick_t rfl rfl) (tp rfl (lv_assign rfl) (t_done (q_then_n (hK3 _ _ (c_true rfl (c_seq (fun K4 hK4 => c_region (tp rfl (lv_assign rfl) (t_done (q_then_n (hK4 _ _ ?_)))))))))))
   refine c_ret ?_
   refine q_in_r ?_
   refine q_then_r ?_
   have hje : joinEr ms id w = 1 := by unfold joinEr; first | rw [if_pos (by omega)] | rw [if_neg (by omega), if_pos (by omega)]
   rw [show TurnsO p q ms a = TurnsO p q (joinM ms id w) a from by unfold joinM; rw [hje, if_neg (by decide)]]
   refine q_ret rfl rfl ?_
   exact ⟨by rw [hje], rfl⟩
 · refine tp rfl (lv_lss rfl rfl (decide_eq_false h1)) (tp rfl (lv_move rfl) ?_)
   refine t_guard rfl rfl ?_
   refine tp rfl (lv_move rfl) ?_
   refine t_guard rfl rfl ?_
   by_cases h2 : w > 100
   · refine tp rfl (lv_gtr rfl rfl (decide_eq_true h2)) (tp rfl (lv_pick_f rfl rfl) (tp rfl (lv_assign rfl) (t_done (q_then_n (hK3 _ _ (c_true rfl (c_seq (fun K4 hK4 => c_region (tp rfl (lv_assign rfl) (t_done ?_))))))))))
     refine q_then_n (hK4 _ _ (c_ret ?_))
     refine q_in_r ?_
     refine q_then_r ?_
     have hje : joinEr ms id w = 1 := by unfold joinEr; first | rw [if_pos (by omega)] | rw [if_neg (by omega), if_pos (by omega)]
     rw [show TurnsO p q ms a = TurnsO p q (joinM ms id w) a from by unfold joinM; rw [hje, if_neg (by decide)]]
     refine q_ret rfl rfl ?_
     exact ⟨by rw [hje], rfl⟩
   · refine tp rfl (lv_gtr rfl rfl (decide_eq_false h2)) (tp rfl (lv_pick_f rfl rfl) (tp rfl (lv_assign rfl) (t_done (q_then_n (hK3 _ _ (c_false rfl (c_seq (fun K4 hK4 => c_region ?_))))))))
     refine t_openT (fun ba ca ps hT => ?_)
     have hTlp := hT.lp
     have hTat := hT.at_
     have hTq1 := hT.q1
     have hTq2 := hT.q2
     refine tp rfl (lv_move rfl) (tp rfl (lv_move rfl) (t_f2 (t_f2 (t_f2 ?_))))
     refine tc rfl (en_fn Tryz.call123 rfl) (place_ok hTlp rfl hT.ok (by omega) id) ?_
     rintro _ _ ⟨rfl, rfl⟩
     by_cases h3 : (placeM ms id) ≥ 0
     · refine tp rfl (lv_geq rfl rfl (decide_eq_true h3)) (tp rfl (lv_assign rfl) (t_done (q_then_n (hK4 _ _ (c_true rfl (c_seq (fun K5 hK5 => c_region (tp rfl (lv_assign rfl) (t_done (q_then_n (hK5 _ _ ?_)))))))))))
       refine c_ret ?_
       refine q_in_r ?_
       refine q_then_r ?_
       refine t_f2 (t_f2 (t_f2 ?_))
       refine t_shutTn rfl hT ?_
       have hje : joinEr ms id w = 8 := by unfold joinEr; first | rw [if_pos (by omega)] | rw [if_neg (by omega), if_pos (by omega)]
       rw [show TurnsO p q ms a = TurnsO p q (joinM ms id w) a from by unfold joinM; rw [hje, if_neg (by decide)]]
       refine q_ret rfl rfl ?_
       exact ⟨by rw [hje], rfl⟩
     · refine tp rfl (lv_geq rfl rfl (decide_eq_false h3)) (tp rfl (lv_assign rfl) (t_done (q_then_n (hK4 _ _ (c_false rfl (c_skip (q_in_n (q_then_n (hK2 _ _ (c_seq (fun K5 hK5 => c_region ?_)))))))))))
       refine tp rfl (lv_move rfl) (tp rfl (lv_move rfl) (tp rfl (lv_nilCheck rfl) (tp rfl (lv_fieldAddr (o' := 1) Tryz.underlying139 rfl Tryz.sizeOf137 rfl rfl) (tp rfl (lv_load Tryz.isAgg137 rfl (gives_blk (.head _) rfl)) (tp rfl (lv_move rfl) (tp rfl (lv_move rfl) (tp rfl (lv_build (cs := [(.int .i64 id), (.int .i64 w), (.int .i64 0)]) (pl := [(0, 1), (1, 1), (2, 1)]) Tryz.underlying161 Tryz.zeroValue161 (fun _ => by simp) rfl rfl) ?_)))))))
       refine tm rfl (mv_box rfl rfl) ?_
       rintro _ _ ⟨b4, rfl, rfl⟩
       refine tm rfl (mv_buildSlice (cs := [(.pointer (some ⟨b4, 0, none⟩))]) Tryz.underlying137 Tryz.sizeOf159 Tryz.zeroValue159 (by decide) rfl rfl rfl rfl) ?_
       rintro _ _ ⟨bs5, cp6, hok7, hle8, rfl, rfl⟩
       refine t_f3 ?_
       refine tm rfl (mv_append (i := Tryz.t159) Tryz.underlying137 Tryz.type159 rfl rfl rfl (by decide) rfl rfl hok7 (by first | (simp; done) | (simp; omega)) (rd_sl (.tail _ (.head _))) (by simp [Value.oneCell']) (by rw [show Tryz.t159.bytes = 8 from rfl]; omega)) ?_
       rintro _ _ ⟨bs9, cp10, hok11, hle12, rfl, rfl⟩
       rw [show recs ptrF ps ++ [(.pointer (some ⟨b4, 0, none⟩))] = recs ptrF (ps ++ [b4]) from recs_snoc ptrF ps b4]
       refine tp rfl (lv_nilCheck rfl) (tp rfl (lv_fieldAddr (o' := 1) Tryz.underlying139 rfl Tryz.sizeOf137 rfl rfl) (t_f3 ?_))
       refine ts (sv_blk Tryz.sizeOf137 rfl rfl rfl (Nat.le_of_ble_eq_true rfl) rfl) ?_
       refine t_done (q_then_n (hK5 _ _ (c_seq (fun K6 hK6 => c_region (tp rfl (lv_assign rfl) (t_done (q_then_n (hK6 _ _ (c_ret (t_f4 (t_f4 ?_)))))))))))
       refine t_addM ⟨id, w, 0⟩ hTlp ?_
       refine t_f2 (t_f2 ?_)
       refine t_shutTn (by simp) (hT.joined (by omega) (by omega) hok11 hle12) ?_
       have hje : joinEr ms id w = 0 := by unfold joinEr; rw [if_neg (by omega), if_neg (by omega)]
       rw [show (ms ++ [⟨id, w, 0⟩] : List M3) = joinM ms id w from by unfold joinM; rw [if_pos hje]]
       refine t_f1 (t_drop ?_)
       refine q_ret rfl rfl ?_
       exact ⟨by rw [hje], rfl⟩
set_option maxHeartbeats 4000000 in
theorem tleave_ok {R : List HP} {p a : Nat} {q : Int} {ms : List M3} (id : Int) (hb : ms.length ≤ 50000) :
    Ok Tryz.prog 78 [(.pointer (some ⟨p, 0, none⟩)), (.int .i64 id)] ((TurnsO p q ms a) :: R)
      (fun v M => v = .int .i64 (leaveEr ms id) ∧ M = TurnsO p q (leaveM ms id) (leaveA ms a id) :: R) := by
 refine ok_of (N := 48) Tryz.func78 rfl rfl rfl (fun W => ?_)
 refine t_openT (fun ba ca ps hT => ?_)
 have hTlp := hT.lp
 have hTat := hT.at_
 have hTq1 := hT.q1
 have hTq2 := hT.q2
 refine c_seq (fun K1 hK1 => c_region (tp rfl (lv_assign rfl) (t_done (q_then_n (hK1 _ _ (c_seq (fun K2 hK2 => c_region (tp rfl (lv_move rfl) (tp rfl (lv_move rfl) (t_f2 ?_))))))))))
 refine t_f2 (t_f2 ?_)
 refine tc rfl (en_fn Tryz.call123 rfl) (place_ok hTlp rfl hT.ok (by omega) id) ?_
 rintro _ _ ⟨rfl, rfl⟩
 refine tp rfl (lv_assign rfl) (t_done (q_then_n (hK2 _ _ (c_seq (fun K3 hK3 => c_seq (fun K4 hK4 => c_region (tp rfl (lv_move rfl) ?_)))))))
 by_cases h1 : (placeM ms id) < 0
 · refine tp rfl (lv_lss rfl rfl (decide_eq_true h1)) (t_done (q_then_n (hK4 _ _ (c_true rfl (c_seq (fun K5 hK5 => c_region (tp rfl (lv_assign rfl) (t_done (q_then_n (hK5 _ _ (c_ret ?_)))))))))))
   refine q_then_r ?_
   refine t_f2 (t_f2 (t_f2 ?_))
   refine t_shutTn rfl hT ?_
   rw [show TurnsO p q ms a = TurnsO p q (leaveM ms id) (leaveA ms a id) from by unfold leaveM leaveA; rw [if_pos (by omega), if_pos (by omega)]]
   refine q_ret rfl rfl ?_
   exact ⟨by unfold leaveEr; split <;> first | rfl | (exfalso; omega), rfl⟩
 · refine tp rfl (lv_lss rfl rfl (decide_eq_false h1)) (t_done (q_then_n (hK4 _ _ (c_false rfl (c_skip (q_then_n (hK3 _ _ (c_seq (fun K5 hK5 => c_region ?_)))))))))
   have hpg := placeM_ge ms id
   obtain ⟨kp, hkp⟩ : ∃ k : Nat, placeM ms id = (k : Int) := ⟨(placeM ms id).toNat, by omega⟩
   rw [hkp]
   have hkl : kp < ms.length := by omega
   refine tp rfl (lv_move rfl) (tp rfl (lv_move rfl) (tp rfl (lv_nilCheck rfl) (tp rfl (lv_fieldAddr (o' := 1) Tryz.underlying139 rfl Tryz.sizeOf137 rfl rfl) (tp rfl (lv_load Tryz.isAgg137 rfl (gives_blk (.head _) rfl)) (tp rfl (lv_move rfl) (tp rfl (lv_move rfl) (tp rfl (lv_add (c := ((kp + 1 : Nat) : Int)) rfl rfl (wr_i64_succ (by omega))) ?_)))))))
   refine t_f1 ?_
   refine tc rfl (en_fn Tryz.call124 rfl) (pdelete_ok_n (cx := ca) ps (by first | rfl | omega) kp hkl) ?_
   rintro _ _ ⟨rfl, rfl⟩
   refine tp rfl (lv_nilCheck rfl) (tp rfl (lv_fieldAddr (o' := 1) Tryz.underlying139 rfl Tryz.sizeOf137 rfl rfl) (t_f1 ?_))
   refine ts (sv_blk Tryz.sizeOf137 rfl rfl rfl (Nat.le_of_ble_eq_true rfl) rfl) ?_
   refine t_done (q_then_n (hK5 _ _ (c_seq (fun K6 hK6 => c_seq (fun K7 hK7 => c_region (t_f2 ?_))))))
   refine t_takeM (i := kp) hTlp (by omega) ?_
   refine t_drop ?_
   have hel : (ms.eraseIdx kp).length = ms.length - 1 := by rw [List.length_eraseIdx, if_pos hkl]
   have hpel : (ps.eraseIdx kp).length = (ms.eraseIdx kp).length := by rw [hel, List.length_eraseIdx, if_pos (by omega)]; omega
   rw [hpel]
   have hbok : SlOk ba (ms.eraseIdx kp).length := slok_le hT.ok (by omega)
   refine tp rfl (lv_move rfl) (tp rfl (lv_move rfl) (tp rfl (lv_nilCheck rfl) (tp rfl (lv_fieldAddr (o' := 2) Tryz.underlying139 rfl Tryz.sizeOf3 rfl rfl) (tp rfl (lv_load Tryz.isAgg3 rfl (gives_blk (.tail _ (.head _)) rfl)) ?_))))
   by_cases h2 : ((kp : Nat) : Int) < ((a : Nat) : Int)
   · refine tp rfl (lv_lss rfl rfl (decide_eq_true h2)) (t_done (q_then_n (hK7 _ _ (c_true rfl (c_region (tp rfl (lv_move rfl) (tp rfl (lv_nilCheck rfl) (tp rfl (lv_fieldAddr (o' := 2) Tryz.underlying139 rfl Tryz.sizeOf3 rfl rfl) (tp rfl (lv_load Tryz.isAgg3 rfl (gives_blk (.tail _ (.head _)) rfl)) (tp rfl (lv_sub (c := ((a - 1 : Nat) : Int)) rfl rfl ((wr_i64 (by omega) (by omega)).trans (by omega))) ?_))))))))))
     refine tp rfl (lv_nilCheck rfl) (tp rfl (lv_fieldAddr (o' := 2) Tryz.underlying139 rfl Tryz.sizeOf3 rfl rfl) (t_f1 ?_))
     refine ts (sv_blk Tryz.sizeOf3 rfl rfl rfl (Nat.le_of_ble_eq_true rfl) rfl) ?_
     refine t_done (q_then_n (hK6 _ _ (c_seq (fun K8 hK8 => c_seq (fun K9 hK9 => ?_)))))
     by_cases h3 : ((a - 1 : Nat) : Int) = (((ms.eraseIdx kp).length : Nat) : Int)
     · refine c_draw (γ := Unit) (n := 10) Tryz.mixed rfl rfl (fun _ S => True) (fun _ => [(0, 35, (vP p 0)), (1, 36, (vP p 0)), (2, 37, (vP p 2)), (3, 38, (.int .i64 ((a - 1 : Nat) : Int))), (4, 39, (vP p 0)), (5, 40, (vP p 0)), (6, 41, (vP p 1)), (7, 42, (.slice ba ((ms.eraseIdx kp).length) ca)), (8, 43, (.int .i64 (((ms.eraseIdx kp).length : Nat) : Int))), (9, 44, (.bool true))]) (fun _ S => (Blk p [(.int .i64 q), (.slice ba ((ms.eraseIdx kp).length) ca), (.int .i64 ((a - 1 : Nat) : Int))] 139) :: (Join (mems (ps.eraseIdx kp) (ms.eraseIdx kp))) :: (SlV 159 1 (.slice ba ((ms.eraseIdx kp).length) ca) ((ms.eraseIdx kp).length) (recs ptrF (ps.eraseIdx kp))) :: R) (()) trivial (fun _ h => h) (fun _ _ h => h) ?_ ?_
       · refine ⟨?_, ?_, ?_, ?_, ?_, ?_, ?_, ?_, ?_, ?_, trivial⟩
         · intro _ S h s D p K k; exact d_lv1 (look_b (t := 0) rfl rfl) (lv_move rfl) 0 rfl rfl s (k () h)
         · intro _ S h s D p K k; exact d_lv1 (lkr p 0 rfl rfl) (lv_nilCheck rfl) 1 rfl rfl s (k () h)
         · intro _ S h s D p K k; exact d_lv1 (lkr p 1 rfl rfl) (lv_fieldAddr (o' := 2) Tryz.underlying139 rfl Tryz.sizeOf3 rfl rfl) 2 rfl rfl s (k () h)
         · intro _ S h s D p K k; exact d_lv1 (lkr p 2 rfl rfl) (lv_load Tryz.isAgg3 rfl (gives_blk (.head _) rfl)) 3 rfl rfl s (k () h)
         · intro _ S h s D p K k; exact d_lv1 (look_b (t := 0) rfl rfl) (lv_move rfl) 4 rfl rfl s (k () h)
         · intro _ S h s D p K k; exact d_lv1 (lkr p 4 rfl rfl) (lv_nilCheck rfl) 5 rfl rfl s (k () h)
         · intro _ S h s D p K k; exact d_lv1 (lkr p 5 rfl rfl) (lv_fieldAddr (o' := 1) Tryz.underlying139 rfl Tryz.sizeOf137 rfl rfl) 6 rfl rfl s (k () h)
         · intro _ S h s D p K k; exact d_lv1 (lkr p 6 rfl rfl) (lv_load Tryz.isAgg137 rfl (gives_blk (.head _) rfl)) 7 rfl rfl s (k () h)
         · intro _ S h s D p K k; exact d_lv1 (lkr p 7 rfl rfl) (lv_len Tryz.underlying137 rfl rfl) 8 rfl rfl s (k () h)
         · intro _ S h s D p K k; exact d_lv2 (lkr p 3 rfl rfl) (lkr p 8 rfl rfl) (lv_eql rfl rfl (beq_iff_eq.2 h3)) 9 rfl rfl s (k () h)
       · rintro _ hF
         try dsimp only at hF ⊢
         refine t_weak (E' := [(0, (vP p 0)), (1, (.int .i64 id)), (4, (.int .i64 0)), (5, (vN kp)), (10, (.bool false)), (27, (.bool true)), (44, (.bool true))]) ⟨rfl, rfl, rfl, rfl, rfl, rfl, rfl, trivial⟩ ?_
         refine q_then_n (hK9 _ _ (c_true rfl (c_region (tp rfl (lv_move rfl) (tp rfl (lv_nilCheck rfl) (tp rfl (lv_fieldAddr (o' := 2) Tryz.underlying139 rfl Tryz.sizeOf3 rfl rfl) ?_))))))
         refine ts (sv_blk Tryz.sizeOf3 rfl rfl rfl (Nat.le_of_ble_eq_true rfl) rfl) ?_
         refine t_done (q_then_n (hK8 _ _ (c_seq (fun K10 hK10 => c_region (tp rfl (lv_assign rfl) (t_done (q_then_n (hK10 _ _ (c_ret ?_)))))))))
         have hlv : 0 = leaveA ms a id := by
                                        unfold leaveA; rw [hkp, Int.toNat_natCast, if_neg (by omega)]
                                        by_cases h1 : kp < a
                                        · simp only [if_pos h1]; first | (rw [if_pos (by omega)]; done) | (rw [if_pos (by omega)]; omega) | (rw [if_neg (by omega)]; done) | (rw [if_neg (by omega)]; omega)
                                        · simp only [if_neg h1]; first | (rw [if_pos (by omega)]; done) | (rw [if_pos (by omega)]; omega) | (rw [if_neg (by omega)]; done) | (rw [if_neg (by omega)]; omega)
         refine t_f1 (t_f2 (t_f2 ?_))
         refine t_shutTv (congrArg (fun x : Nat => Value.int .i64 ((x : Nat) : Int)) hlv) rfl (hT.left (k := kp) (by omega) (by unfold leaveA; rw [hkp, Int.toNat_natCast, if_neg (by omega)]) hbok) ?_
         rw [show ms.eraseIdx kp = leaveM ms id from by unfold leaveM; rw [hkp, Int.toNat_natCast, if_neg (by omega)]]
         refine q_ret rfl rfl ?_
         exact ⟨by unfold leaveEr; split <;> first | rfl | (exfalso; omega), rfl⟩
     · refine c_draw (γ := Unit) (n := 10) Tryz.mixed rfl rfl (fun _ S => True) (fun _ => [(0, 35, (vP p 0)), (1, 36, (vP p 0)), (2, 37, (vP p 2)), (3, 38, (.int .i64 ((a - 1 : Nat) : Int))), (4, 39, (vP p 0)), (5, 40, (vP p 0)), (6, 41, (vP p 1)), (7, 42, (.slice ba ((ms.eraseIdx kp).length) ca)), (8, 43, (.int .i64 (((ms.eraseIdx kp).length : Nat) : Int))), (9, 44, (.bool false))]) (fun _ S => (Blk p [(.int .i64 q), (.slice ba ((ms.eraseIdx kp).length) ca), (.int .i64 ((a - 1 : Nat) : Int))] 139) :: (Join (mems (ps.eraseIdx kp) (ms.eraseIdx kp))) :: (SlV 159 1 (.slice ba ((ms.eraseIdx kp).length) ca) ((ms.eraseIdx kp).length) (recs ptrF (ps.eraseIdx kp))) :: R) (()) trivial (fun _ h => h) (fun _ _ h => h) ?_ ?_
       · refine ⟨?_, ?_, ?_, ?_, ?_, ?_, ?_, ?_, ?_, ?_, trivial⟩
         · intro _ S h s D p K k; exact d_lv1 (look_b (t := 0) rfl rfl) (lv_move rfl) 0 rfl rfl s (k () h)
         · intro _ S h s D p K k; exact d_lv1 (lkr p 0 rfl rfl) (lv_nilCheck rfl) 1 rfl rfl s (k () h)
         · intro _ S h s D p K k; exact d_lv1 (lkr p 1 rfl rfl) (lv_fieldAddr (o' := 2) Tryz.underlying139 rfl Tryz.sizeOf3 rfl rfl) 2 rfl rfl s (k () h)
         · intro _ S h s D p K k; exact d_lv1 (lkr p 2 rfl rfl) (lv_load Tryz.isAgg3 rfl (gives_blk (.head _) rfl)) 3 rfl rfl s (k () h)
         · intro _ S h s D p K k; exact d_lv1 (look_b (t := 0) rfl rfl) (lv_move rfl) 4 rfl rfl s (k () h)
         · intro _ S h s D p K k; exact d_lv1 (lkr p 4 rfl rfl) (lv_nilCheck rfl) 5 rfl rfl s (k () h)
         · intro _ S h s D p K k; exact d_lv1 (lkr p 5 rfl rfl) (lv_fieldAddr (o' := 1) Tryz.underlying139 rfl Tryz.sizeOf137 rfl rfl) 6 rfl rfl s (k () h)
         · intro _ S h s D p K k; exact d_lv1 (lkr p 6 rfl rfl) (lv_load Tryz.isAgg137 rfl (gives_blk (.head _) rfl)) 7 rfl rfl s (k () h)
         · intro _ S h s D p K k; exact d_lv1 (lkr p 7 rfl rfl) (lv_len Tryz.underlying137 rfl rfl) 8 rfl rfl s (k () h)
         · intro _ S h s D p K k; exact d_lv2 (lkr p 3 rfl rfl) (lkr p 8 rfl rfl) (lv_eql rfl rfl (beq_eq_false_iff_ne.2 h3)) 9 rfl rfl s (k () h)
       · rintro _ hF
         try dsimp only at hF ⊢
         refine t_weak (E' := [(0, (vP p 0)), (1, (.int .i64 id)), (4, (.int .i64 0)), (5, (vN kp)), (10, (.bool false)), (27, (.bool true)), (44, (.bool false))]) ⟨rfl, rfl, rfl, rfl, rfl, rfl, rfl, trivial⟩ ?_
         refine q_then_n (hK9 _ _ (c_false rfl (c_skip (q_then_n (hK8 _ _ (c_seq (fun K10 hK10 => c_region (tp rfl (lv_assign rfl) (t_done (q_then_n (hK10 _ _ (c_ret ?_))))))))))))
         have hlv : a - 1 = leaveA ms a id := by
                                        unfold leaveA; rw [hkp, Int.toNat_natCast, if_neg (by omega)]
                                        by_cases h1 : kp < a
                                        · simp only [if_pos h1]; first | (rw [if_pos (by omega)]; done) | (rw [if_pos (by omega)]; omega) | (rw [if_neg (by omega)]; done) | (rw [if_neg (by omega)]; omega)
                                        · simp only [if_neg h1]; first | (rw [if_pos (by omega)]; done) | (rw [if_pos (by omega)]; omega) | (rw [if_neg (by omega)]; done) | (rw [if_neg (by omega)]; omega)
         refine t_f1 (t_f2 (t_f2 ?_))
         refine t_shutTv (congrArg (fun x : Nat => Value.int .i64 ((x : Nat) : Int)) hlv) rfl (hT.left (k := kp) (by omega) (by unfold leaveA; rw [hkp, Int.toNat_natCast, if_neg (by omega)]) hbok) ?_
         rw [show ms.eraseIdx kp = leaveM ms id from by unfold leaveM; rw [hkp, Int.toNat_natCast, if_neg (by omega)]]
         refine q_ret rfl rfl ?_
         exact ⟨by unfold leaveEr; split <;> first | rfl | (exfalso; omega), rfl⟩
   · refine tp rfl (lv_lss rfl rfl (decide_eq_false h2)) (t_done (q_then_n (hK7 _ _ (c_false rfl (c_skip (q_then_n (hK6 _ _ (c_seq (fun K8 hK8 => c_seq (fun K9 hK9 => ?_))))))))))
     by_cases h4 : ((a : Nat) : Int) = (((ms.eraseIdx kp).length : Nat) : Int)
     · refine c_draw (γ := Unit) (n := 10) Tryz.mixed rfl rfl (fun _ S => True) (fun _ => [(0, 35, (vP p 0)), (1, 36, (vP p 0)), (2, 37, (vP p 2)), (3, 38, (vN a)), (4, 39, (vP p 0)), (5, 40, (vP p 0)), (6, 41, (vP p 1)), (7, 42, (.slice ba ((ms.eraseIdx kp).length) ca)), (8, 43, (.int .i64 (((ms.eraseIdx kp).length : Nat) : Int))), (9, 44, (.bool true))]) (fun _ S => (Join (mems (ps.eraseIdx kp) (ms.eraseIdx kp))) :: (Blk p [(.int .i64 q), (.slice ba ((ms.eraseIdx kp).length) ca), (vN a)] 139) :: (SlV 159 1 (.slice ba ((ms.eraseIdx kp).length) ca) ((ms.eraseIdx kp).length) (recs ptrF (ps.eraseIdx kp))) :: R) (()) trivial (fun _ h => h) (fun _ _ h => h) ?_ ?_
       · refine ⟨?_, ?_, ?_, ?_, ?_, ?_, ?_, ?_, ?_, ?_, trivial⟩
         · intro _ S h s D p K k; exact d_lv1 (look_b (t := 0) rfl rfl) (lv_move rfl) 0 rfl rfl s (k () h)
         · intro _ S h s D p K k; exact d_lv1 (lkr p 0 rfl rfl) (lv_nilCheck rfl) 1 rfl rfl s (k () h)
         · intro _ S h s D p K k; exact d_lv1 (lkr p 1 rfl rfl) (lv_fieldAddr (o' := 2) Tryz.underlying139 rfl Tryz.sizeOf3 rfl rfl) 2 rfl rfl s (k () h)
         · intro _ S h s D p K k; exact d_lv1 (lkr p 2 rfl rfl) (lv_load Tryz.isAgg3 rfl (gives_blk (.tail _ (.head _)) rfl)) 3 rfl rfl s (k () h)
         · intro _ S h s D p K k; exact d_lv1 (look_b (t := 0) rfl rfl) (lv_move rfl) 4 rfl rfl s (k () h)
         · intro _ S h s D p K k; exact d_lv1 (lkr p 4 rfl rfl) (lv_nilCheck rfl) 5 rfl rfl s (k () h)
         · intro _ S h s D p K k; exact d_lv1 (lkr p 5 rfl rfl) (lv_fieldAddr (o' := 1) Tryz.underlying139 rfl Tryz.sizeOf137 rfl rfl) 6 rfl rfl s (k () h)
         · intro _ S h s D p K k; exact d_lv1 (lkr p 6 rfl rfl) (lv_load Tryz.isAgg137 rfl (gives_blk (.tail _ (.head _)) rfl)) 7 rfl rfl s (k () h)
         · intro _ S h s D p K k; exact d_lv1 (lkr p 7 rfl rfl) (lv_len Tryz.underlying137 rfl rfl) 8 rfl rfl s (k () h)
         · intro _ S h s D p K k; exact d_lv2 (lkr p 3 rfl rfl) (lkr p 8 rfl rfl) (lv_eql rfl rfl (beq_iff_eq.2 h4)) 9 rfl rfl s (k () h)
       · rintro _ hF
         try dsimp only at hF ⊢
         refine t_weak (E' := [(0, (vP p 0)), (1, (.int .i64 id)), (4, (.int .i64 0)), (5, (vN kp)), (10, (.bool false)), (27, (.bool false)), (44, (.bool true))]) ⟨rfl, rfl, rfl, rfl, rfl, rfl, rfl, trivial⟩ ?_
         refine q_then_n (hK9 _ _ (c_true rfl (c_region (tp rfl (lv_move rfl) (tp rfl (lv_nilCheck rfl) (tp rfl (lv_fieldAddr (o' := 2) Tryz.underlying139 rfl Tryz.sizeOf3 rfl rfl) (t_f1 ?_)))))))
         refine ts (sv_blk Tryz.sizeOf3 rfl rfl rfl (Nat.le_of_ble_eq_true rfl) rfl) ?_
         refine t_done (q_then_n (hK8 _ _ (c_seq (fun K10 hK10 => c_region (tp rfl (lv_assign rfl) (t_done (q_then_n (hK10 _ _ (c_ret ?_)))))))))
         have hlv : 0 = leaveA ms a id := by
                                        unfold leaveA; rw [hkp, Int.toNat_natCast, if_neg (by omega)]
                                        by_cases h1 : kp < a
                                        · simp only [if_pos h1]; first | (rw [if_pos (by omega)]; done) | (rw [if_pos (by omega)]; omega) | (rw [if_neg (by omega)]; done) | (rw [if_neg (by omega)]; omega)
                                        · simp only [if_neg h1]; first | (rw [if_pos (by omega)]; done) | (rw [if_pos (by omega)]; omega) | (rw [if_neg (by omega)]; done) | (rw [if_neg (by omega)]; omega)
         refine t_f1 (t_f2 (t_f2 ?_))
         refine t_shutTv (congrArg (fun x : Nat => Value.int .i64 ((x : Nat) : Int)) hlv) rfl (hT.left (k := kp) (by omega) (by unfold leaveA; rw [hkp, Int.toNat_natCast, if_neg (by omega)]) hbok) ?_
         rw [show ms.eraseIdx kp = leaveM ms id from by unfold leaveM; rw [hkp, Int.toNat_natCast, if_neg (by omega)]]
         refine q_ret rfl rfl ?_
         exact ⟨by unfold leaveEr; split <;> first | rfl | (exfalso; omega), rfl⟩
     · refine c_draw (γ := Unit) (n := 10) Tryz.mixed rfl rfl (fun _ S => True) (fun _ => [(0, 35, (vP p 0)), (1, 36, (vP p 0)), (2, 37, (vP p 2)), (3, 38, (vN a)), (4, 39, (vP p 0)), (5, 40, (vP p 0)), (6, 41, (vP p 1)), (7, 42, (.slice ba ((ms.eraseIdx kp).length) ca)), (8, 43, (.int .i64 (((ms.eraseIdx kp).length : Nat) : Int))), (9, 44, (.bool false))]) (fun _ S => (Join (mems (ps.eraseIdx kp) (ms.eraseIdx kp))) :: (Blk p [(.int .i64 q), (.slice ba ((ms.eraseIdx kp).length) ca), (vN a)] 139) :: (SlV 159 1 (.slice ba ((ms.eraseIdx kp).length) ca) ((ms.eraseIdx kp).length) (recs ptrF (ps.eraseIdx kp))) :: R) (()) trivial (fun _ h => h) (fun _ _ h => h) ?_ ?_
       · refine ⟨?_, ?_, ?_, ?_, ?_, ?_, ?_, ?_, ?_, ?_, trivial⟩
         · intro _ S h s D p K k; exact d_lv1 (look_b (t := 0) rfl rfl) (lv_move rfl) 0 rfl rfl s (k () h)
         · intro _ S h s D p K k; exact d_lv1 (lkr p 0 rfl rfl) (lv_nilCheck rfl) 1 rfl rfl s (k () h)
         · intro _ S h s D p K k; exact d_lv1 (lkr p 1 rfl rfl) (lv_fieldAddr (o' := 2) Tryz.underlying139 rfl Tryz.sizeOf3 rfl rfl) 2 rfl rfl s (k () h)
         · intro _ S h s D p K k; exact d_lv1 (lkr p 2 rfl rfl) (lv_load Tryz.isAgg3 rfl (gives_blk (.tail _ (.head _)) rfl)) 3 rfl rfl s (k () h)
         · intro _ S h s D p K k; exact d_lv1 (look_b (t := 0) rfl rfl) (lv_move rfl) 4 rfl rfl s (k () h)
         · intro _ S h s D p K k; exact d_lv1 (lkr p 4 rfl rfl) (lv_nilCheck rfl) 5 rfl rfl s (k () h)
         · intro _ S h s D p K k; exact d_lv1 (lkr p 5 rfl rfl) (lv_fieldAddr (o' := 1) Tryz.underlying139 rfl Tryz.sizeOf137 rfl rfl) 6 rfl rfl s (k () h)
         · intro _ S h s D p K k; exact d_lv1 (lkr p 6 rfl rfl) (lv_load Tryz.isAgg137 rfl (gives_blk (.tail _ (.head _)) rfl)) 7 rfl rfl s (k () h)
         · intro _ S h s D p K k; exact d_lv1 (lkr p 7 rfl rfl) (lv_len Tryz.underlying137 rfl rfl) 8 rfl rfl s (k () h)
         · intro _ S h s D p K k; exact d_lv2 (lkr p 3 rfl rfl) (lkr p 8 rfl rfl) (lv_eql rfl rfl (beq_eq_false_iff_ne.2 h4)) 9 rfl rfl s (k () h)
       · rintro _ hF
         try dsimp only at hF ⊢
         refine t_weak (E' := [(0, (vP p 0)), (1, (.int .i64 id)), (4, (.int .i64 0)), (5, (vN kp)), (10, (.bool false)), (27, (.bool false)), (44, (.bool false))]) ⟨rfl, rfl, rfl, rfl, rfl, rfl, rfl, trivial⟩ ?_
         refine q_then_n (hK9 _ _ (c_false rfl (c_skip (q_then_n (hK8 _ _ (c_seq (fun K10 hK10 => c_region (tp rfl (lv_assign rfl) (t_done (q_then_n (hK10 _ _ (c_ret ?_))))))))))))
         have hlv : a = leaveA ms a id := by
                                        unfold leaveA; rw [hkp, Int.toNat_natCast, if_neg (by omega)]
                                        by_cases h1 : kp < a
                                        · simp only [if_pos h1]; first | (rw [if_pos (by omega)]; done) | (rw [if_pos (by omega)]; omega) | (rw [if_neg (by omega)]; done) | (rw [if_neg (by omega)]; omega)
                                        · simp only [if_neg h1]; first | (rw [if_pos (by omega)]; done) | (rw [if_pos (by omega)]; omega) | (rw [if_neg (by omega)]; done) | (rw [if_neg (by omega)]; omega)
         refine t_f2 (t_f2 ?_)
         refine t_shutTv (congrArg (fun x : Nat => Value.int .i64 ((x : Nat) : Int)) hlv) rfl (hT.left (k := kp) (by omega) (by unfold leaveA; rw [hkp, Int.toNat_natCast, if_neg (by omega)]) hbok) ?_
         rw [show ms.eraseIdx kp = leaveM ms id from by unfold leaveM; rw [hkp, Int.toNat_natCast, if_neg (by omega)]]
         refine q_ret rfl rfl ?_
         exact ⟨by unfold leaveEr; split <;> first | rfl | (exfalso; omega), rfl⟩
end Go.Proofs.YtanfdikglplkaaaGreatDoor
set_option maxRecDepth 100000
namespace Go.Proofs.YtanfdikglplkaaaGreatDoor
open Go Go.Proofs Sp
theorem in_t {R : List HP} {p N : Nat} {es : Es} (a : Nat) (ha : a < N) :
    Ok Tryz.prog 110 [(.pointer (some ⟨p, 0, none⟩)), (.int .i64 ((a : Nat) : Int))] ((GraphO p N es) :: R)
      (OutSl 3 1 (inns es ((a : Nat) : Int)).length (ints .i64 (inns es ((a : Nat) : Int))) (GraphO p N es :: R)) := by
 refine ok_of (N := 18) Tryz.func110 rfl rfl rfl (fun W => ?_)
 refine t_learn (fun _ h => gok_of h) (fun hgok => ?_)
 refine c_seq (fun K1 hK1 => c_region (tp rfl (lv_assign rfl) (t_done (q_then_n (hK1 _ _ (c_seq (fun K2 hK2 => c_seq (fun K3 hK3 => c_region (tp rfl (lv_move rfl) (tp rfl (lv_move rfl) ?_))))))))))
 refine tm rfl (mv_buildSlice (cs := [(.int .i64 ((a : Nat) : Int))]) Tryz.underlying34 Tryz.sizeOf3 Tryz.zeroValue3 (by decide) rfl rfl rfl rfl) ?_
 rintro _ _ ⟨bs1, cp2, hok3, hle4, rfl, rfl⟩
 refine t_f1 ?_
 refine tc rfl (en_fn Tryz.call71 rfl) (there_is (N := N) (es := es) [((a : Nat) : Int)] (there_t1 ha) (rd_sl (.head _)) hok3 (by simp)) ?_
 rintro _ _ ⟨rfl, rfl⟩
 refine tp rfl (lv_not (c := false) rfl rfl) (t_done (q_then_n (hK3 _ _ (c_false rfl (c_skip (q_then_n (hK2 _ _ (c_seq (fun K4 hK4 => c_region ?_)))))))))
 refine t_openG (fun bo co bi ci bt ct vo vi hG => ?_)
 have gsm := hG.ok.small
 have glo := hG.lo
 have gli := hG.li
 have gml := masksOf_length N es
 have hll := hgok.inns_le (a : Int)
 refine t_rdRow (a := a) (.tail _ (.tail _ (.tail _ (.tail _ (.tail _ (.head _)))))) (by rw [rowsOf_length]; first | exact glo | exact gli) (by omega) ?_
 rw [rowsOf_get ha]
 intro ba ca hoka hlea hva hrda
 refine tp rfl (lv_move rfl) (tp rfl (lv_nilCheck rfl) (tp rfl (lv_fieldAddr (o' := 1) Tryz.underlying126 rfl Tryz.sizeOf123 rfl rfl) (tp rfl (lv_load Tryz.isAgg123 rfl (gives_blk (.head _) rfl)) (tp rfl (lv_move rfl) (tp rfl (lv_indexAddr (k' := a) Tryz.underlying123 Tryz.sizeOf34 rfl rfl hG.oki (by omega) (by omega) (by omega)) ?_)))))
 refine tp rfl (lv_load Tryz.isAgg34 rfl (gives_as hva (gives_sl (.tail _ (.tail _ (.head _))) (vals_get (by omega))))) ?_
 refine tc rfl (en_fn Tryz.call72 rfl) (clone_ok (inns es ((a : Nat) : Int)) hrda hoka (by first | omega | (simp; omega))) ?_
 rintro _ _ ⟨bs5, cp6, hok7, hle8, rfl, rfl⟩
 refine tp rfl (lv_assign rfl) (t_done (q_then_n (hK4 _ _ (c_ret (t_f6 (t_f6 (t_f6 (t_f6 (t_f6 (t_f6 ?_))))))))))
 refine t_shutG hG ?_
 refine t_f1 (t_f2 (t_drop ?_))
 refine q_ret rfl rfl ?_
 exact ⟨_, _, hok7, hle8, rfl, rfl⟩
theorem in_f {R : List HP} {p N : Nat} {es : Es} (a : Int) (hv : thereB N [a] = false) (hv' : valid N a = false) :
    Ok Tryz.prog 110 [(.pointer (some ⟨p, 0, none⟩)), (.int .i64 a)] ((GraphO p N es) :: R)
      (OutSl 3 1 (inns es a).length (ints .i64 (inns es a)) (GraphO p N es :: R)) := by
 refine ok_of (N := 18) Tryz.func110 rfl rfl rfl (fun W => ?_)
 refine t_learn (fun _ h => gok_of h) (fun hgok => ?_)
 refine c_seq (fun K1 hK1 => c_region (tp rfl (lv_assign rfl) (t_done (q_then_n (hK1 _ _ (c_seq (fun K2 hK2 => c_seq (fun K3 hK3 => c_region (tp rfl (lv_move rfl) (tp rfl (lv_move rfl) ?_))))))))))
 refine tm rfl (mv_buildSlice (cs := [(.int .i64 a)]) Tryz.underlying34 Tryz.sizeOf3 Tryz.zeroValue3 (by decide) rfl rfl rfl rfl) ?_
 rintro _ _ ⟨bs1, cp2, hok3, hle4, rfl, rfl⟩
 refine t_f1 ?_
 refine tc rfl (en_fn Tryz.call71 rfl) (there_is (N := N) (es := es) [a] hv (rd_sl (.head _)) hok3 (by simp)) ?_
 rintro _ _ ⟨rfl, rfl⟩
 refine tp rfl (lv_not (c := true) rfl rfl) (t_done (q_then_n (hK3 _ _ (c_true rfl (c_seq (fun K4 hK4 => c_region (tp rfl (lv_assign rfl) (t_done (q_then_n (hK4 _ _ (c_ret ?_)))))))))))
 refine q_then_r ?_
 refine t_sat (fun _ h => sat_nilsl 3 1 h) ?_
 refine t_f2 (t_drop ?_)
 refine q_ret rfl rfl ?_
 rw [inns_f hgok hv']
 exact ⟨none, 0, slok_none, Nat.le_refl _, rfl, rfl⟩
theorem in_ok {R : List HP} {p N : Nat} {es : Es} (a : Int) : Ok Tryz.prog 110 [(.pointer (some ⟨p, 0, none⟩)), (.int .i64 a)] (GraphO p N es :: R)
      (OutSl 3 1 (inns es a).length (ints .i64 (inns es a)) (GraphO p N es :: R)) := by
  rcases there_cases1 N a with ⟨k, hk, rfl⟩ | ⟨h1, h2⟩
  · exact in_t k hk
  · exact in_f a h1 h2
end Go.Proofs.YtanfdikglplkaaaGreatDoor
set_option maxRecDepth 100000
namespace Go.Proofs.YtanfdikglplkaaaGreatDoor
open Go Go.Proofs Sp
theorem tz_ok {R : List HP} (m : Nat) (h0 : m ≠ 0) (hm : m < 2 ^ 64) (hT : Tab R) :
    Ok Tryz.prog 135 [(.int .u64 ((m : Nat) : Int))] R
      (fun v M => v = .int .i64 ((Lib.ctz 64 m : Nat) : Int) ∧ M = R) := by
 have hc := ctz_lt h0 hm
 have hd := Lib.deBruijn64_at _ hc
 refine ok_of (N := 14) Tryz.func135 rfl rfl rfl (fun W => ?_)
 refine c_seq (fun K1 hK1 => c_region (tp rfl (lv_assign rfl) (t_done (q_then_n (hK1 _ _ (c_seq (fun K2 hK2 => c_seq (fun K3 hK3 => c_region (tp rfl (lv_move rfl) (tp rfl (lv_eql rfl rfl (beq_eq_false_iff_ne.2 (by omega))) ?_))))))))))
 refine t_done (q_then_n (hK3 _ _ (c_false rfl (c_skip (q_then_n (hK2 _ _ (c_seq (fun K4 hK4 => c_region (tp rfl (lv_move rfl) (tp rfl (lv_move rfl) (tp rfl (lv_neg rfl (neg_u64 h0 hm)) ?_)))))))))))
 refine tp rfl (lv_and (c := ((2 ^ Lib.ctz 64 m : Nat) : Int)) rfl rfl (and_low h0 hm)) (tp rfl (lv_mul (c := ((2 ^ Lib.ctz 64 m * 285870213051353865 % 18446744073709551616 : Nat) : Int)) rfl rfl (mul_low _)) (tp rfl (lv_shr (c := ((2 ^ Lib.ctz 64 m * 285870213051353865 % 18446744073709551616 / 288230376151711744 : Nat) : Int)) rfl rfl (by decide) (shr_58 _)) ?_))
 refine tp rfl (lv_indexArr (k' := 2 ^ Lib.ctz 64 m * 285870213051353865 % 18446744073709551616 / 288230376151711744) Tryz.underlying218 Tryz.sizeOf5 rfl rfl (Int.natCast_nonneg _) (Int.ofNat_lt.2 hd.1) (by rw [Nat.mul_one, Int.toNat_natCast])) ?_
 refine tp rfl (lv_load Tryz.isAgg5 rfl (hT (2 ^ Lib.ctz 64 m * 285870213051353865 % 18446744073709551616 / 288230376151711744) hd.1)) (tp rfl (lv_convert (c := ((Lib.ctz 64 m : Nat) : Int)) Tryz.underlying5 Tryz.underlying3 rfl (by rw [hd.2]; exact wr_i64 (by omega) (by omega))) ?_)
 refine tp rfl (lv_assign rfl) (t_done (q_then_n (hK4 _ _ (c_ret ?_))))
 refine q_ret rfl rfl ?_
 exact ⟨rfl, rfl⟩
set_option maxHeartbeats 4000000 in
theorem rset_ok {R : List HP} {p N : Nat} {es : Es} (a : Nat) (ha : a < N) (hT : Tab R) :
    Ok Tryz.prog 134 [(.pointer (some ⟨p, 0, none⟩)), (.int .i64 ((a : Nat) : Int))] ((GraphO p N es) :: R)
      (fun v M => ∃ m : Nat, m < 2 ^ 64 ∧ (∀ i : Nat, m.testBit i = true ↔ Rch es (a : Int) (i : Int)) ∧ v = .int .u64 (m : Int) ∧ M = GraphO p N es :: R) := by
 refine ok_of (N := 29) Tryz.func134 rfl rfl rfl (fun W => ?_)
 refine t_learn (fun _ h => gok_of h) (fun hgok => ?_)
 have hsmall := hgok.small
 refine c_seq (fun K1 hK1 => c_region (tp rfl (lv_assign rfl) (t_done (q_then_n (hK1 _ _ (c_seq (fun K2 hK2 => ?_)))))))
 refine c_draw (γ := Unit) (n := 4) Tryz.mixed rfl rfl (fun _ S => True) (fun _ => [(0, 8, (vN a)), (1, 9, (.int .u64 ((2 ^ a : Nat) : Int))), (2, 5, (.int .u64 0)), (3, 6, (.int .u64 ((2 ^ a : Nat) : Int)))]) (fun _ S => (GraphO p N es) :: R) (()) trivial (fun _ h => h) (fun _ _ h => h) ?_ ?_
 · refine ⟨?_, ?_, ?_, ?_, trivial⟩
   · intro _ S h s D p K k; exact d_lv1 (look_b (t := 1) rfl rfl) (lv_move rfl) 0 rfl rfl s (k () h)
   · intro _ S h s D p K k; exact d_lv1 (lkr p 0 rfl rfl) (lv_shl (c := ((2 ^ a : Nat) : Int)) rfl rfl (by omega) (bShl_one a (by omega))) 1 rfl rfl s (k () h)
   · intro _ S h s D p K k; exact d_lv0 (lv_assign rfl) 2 rfl rfl s (k () h)
   · intro _ S h s D p K k; exact d_lv1 (lkr p 1 rfl rfl) (lv_assign rfl) 3 rfl rfl s (k () h)
 · rintro _ hF
   try dsimp only at hF ⊢
   refine t_weak (E' := [(0, (vP p 0)), (1, (vN a)), (4, (.int .u64 0)), (5, (.int .u64 0)), (6, (.int .u64 ((2 ^ a : Nat) : Int)))]) ⟨rfl, rfl, rfl, rfl, rfl, trivial⟩ ?_
   refine q_then_n (hK2 _ _ (c_seq (fun K3 hK3 => c_block ?_)))
   refine c_loop (γ := (Nat) × (Nat)) (fun (s, o) => RInv N es a s o) (fun (s, o) => [(0, (vP p 0)), (5, (.int .u64 ((s : Nat) : Int))), (6, (.int .u64 ((o : Nat) : Int)))]) (fun (s, o) => (GraphO p N es) :: R) (fun (s, o) => unseen s) (0, 2 ^ a) (RInv.init a (by omega)) ⟨rfl, rfl, rfl, trivial⟩ (fun _ h => h) ?_
   rintro ⟨s, o⟩ K4 hF hK4
   try dsimp only at hF hK4 ⊢
   have hsl := hF.sl
   have hol := hF.ol
   refine c_seq (fun K5 hK5 => c_seq (fun K6 hK6 => c_region (tp rfl (lv_move rfl) ?_)))
   by_cases hz : ((o : Nat) : Int) = 0
   · refine tp rfl (lv_neq rfl rfl (bne_eq_false_iff_eq.2 hz)) (t_done (q_then_n (hK6 _ _ (c_false rfl (c_exit (q_then_x (q_then_x (q_in_x (q_then_n (hK3 _ _ (c_seq (fun K7 hK7 => ?_))))))))))))
     refine c_region (tp rfl (lv_move rfl) (tp rfl (lv_assign rfl) (t_done (q_then_n (hK7 _ _ (c_ret ?_))))))
     refine q_ret rfl rfl ?_
     exact ⟨s, hF.sl, (by have e : o = 0 := (by omega); subst e; exact hF.done hgok), rfl, rfl⟩
   · refine tp rfl (lv_neq rfl rfl (bne_iff_ne.2 hz)) (t_done (q_then_n (hK6 _ _ (c_true rfl (c_skip (q_then_n (hK5 _ _ (c_block (c_seq (fun K7 hK7 => c_region ?_))))))))))
     have h0 : o ≠ 0 := by intro e; subst e; exact absurd rfl ‹_›
     have hcx := ctz_lt h0 hol
     have hcN : Lib.ctz 64 o < N := by have := (hF.reach _ (.inr (ctz_bit h0 hol))).inn hgok ⟨by omega, by omega⟩; omega
     have hwl := with_lt s _ hcx hsl
     have hml := hgok.mask_lt ((Lib.ctz 64 o : Nat) : Int)
     refine tp rfl (lv_move rfl) ?_
     refine tc rfl (en_fn Tryz.call135 rfl) (tz_ok o h0 hol (Tab.cons hT)) ?_
     rintro _ _ ⟨rfl, rfl⟩
     refine tp rfl (lv_assign rfl) (t_done (q_then_n (hK7 _ _ (c_seq (fun K8 hK8 => c_region (tp rfl (lv_move rfl) (tp rfl (lv_move rfl) ?_)))))))
     refine tc rfl (en_fn Tryz.call150 rfl) (with_ok s (Lib.ctz 64 o) hcx hsl) ?_
     rintro _ _ ⟨rfl, rfl⟩
     refine tp rfl (lv_assign rfl) (t_done (q_then_n (hK8 _ _ (c_region (tp rfl (lv_move rfl) ?_)))))
     obtain ⟨o2, ho2, ho2l, ho2b⟩ := bAndNot_nat (o ||| maskL (outs es ((Lib.ctz 64 o : Nat) : Int))) (s ||| 2 ^ Lib.ctz 64 o) (Nat.or_lt_two_pow hol hml) hwl
     have hst := hF.step hgok h0 ho2b
     refine t_openG (fun bo co bi ci bt ct vo vi hG => ?_)
     have gsm := hG.ok.small
     have glo := hG.lo
     have gli := hG.li
     have gml := masksOf_length N es
     refine tp rfl (lv_move rfl) (tp rfl (lv_nilCheck rfl) (tp rfl (lv_fieldAddr (o' := 2) Tryz.underlying126 rfl Tryz.sizeOf124 rfl rfl) (tp rfl (lv_load Tryz.isAgg124 rfl (gives_blk (.head _) rfl)) (tp rfl (lv_move rfl) (tp rfl (lv_indexAddr (k' := Lib.ctz 64 o) Tryz.underlying124 Tryz.sizeOf166 rfl rfl hG.okt (by omega) (by omega) (by omega)) ?_)))))
     refine tp rfl (lv_load Tryz.isAgg166 rfl (gives_as (by rw [masksOf_get (by omega)]) (gives_sl (.tail _ (.tail _ (.tail _ (.head _)))) (ints_get (by first | omega | (simp; omega)))))) ?_
     refine tp rfl (lv_or (c := ((o ||| maskL (outs es ((Lib.ctz 64 o : Nat) : Int)) : Nat) : Int)) rfl rfl (bOr_nat o _ hol hml)) (tp rfl (lv_move rfl) (tp rfl (lv_andNot (c := ((o2 : Nat) : Int)) rfl rfl ho2) (tp rfl (lv_assign rfl) (t_done (q_in_n (q_then_n (t_f5 (t_f5 (t_f5 ?_)))))))))
     refine t_f5 (t_f5 (t_f5 ?_))
     refine t_shutG hG ?_
     exact t_weak (by exact ⟨rfl, rfl, rfl, trivial⟩) ((hK4 (s ||| 2 ^ Lib.ctz 64 o, o2) hst.1 hst.2))
set_option maxHeartbeats 4000000 in
theorem reach_t {R : List HP} {p N : Nat} {es : Es} (a : Nat) (ha : a < N) (hT : Tab R) :
    Ok Tryz.prog 93 [(.pointer (some ⟨p, 0, none⟩)), (.int .i64 ((a : Nat) : Int))] ((GraphO p N es) :: R)
      (OutSl 3 1 (reachL N es ((a : Nat) : Int)).length (ints .i64 (reachL N es ((a : Nat) : Int))) (GraphO p N es :: R)) := by
 refine ok_of (N := 26) Tryz.func93 rfl rfl rfl (fun W => ?_)
 refine t_learn (fun _ h => gok_of h) (fun hgok => ?_)
 refine c_seq (fun K1 hK1 => c_region (tp rfl (lv_assign rfl) (t_done (q_then_n (hK1 _ _ (c_seq (fun K2 hK2 => c_seq (fun K3 hK3 => c_region (tp rfl (lv_move rfl) (tp rfl (lv_move rfl) ?_))))))))))
 refine tm rfl (mv_buildSlice (cs := [(.int .i64 ((a : Nat) : Int))]) Tryz.underlying34 Tryz.sizeOf3 Tryz.zeroValue3 (by decide) rfl rfl rfl rfl) ?_
 rintro _ _ ⟨bs1, cp2, hok3, hle4, rfl, rfl⟩
 refine t_f1 ?_
 refine tc rfl (en_fn Tryz.call71 rfl) (there_is (N := N) (es := es) [((a : Nat) : Int)] (there_t1 ha) (rd_sl (.head _)) hok3 (by simp)) ?_
 rintro _ _ ⟨rfl, rfl⟩
 refine tp rfl (lv_not (c := false) rfl rfl) (t_done (q_then_n (hK3 _ _ (c_false rfl (c_skip (q_then_n (hK2 _ _ (c_seq (fun K4 hK4 => c_seq (fun K5 hK5 => c_region (tp rfl (lv_move rfl) ?_)))))))))))
 refine tp rfl (lv_move rfl) ?_
 refine tc rfl (en_fn Tryz.call134 rfl) (rset_ok (N := N) (es := es) a (by omega) (Tab.cons hT)) ?_
 rintro _ _ ⟨m, hm1, hm2, rfl, rfl⟩
 refine tp rfl (lv_assign rfl) (t_done (q_then_n (hK5 _ _ (c_block ?_))))
 refine t_sat (fun _ h => sat_nilsl 3 1 h) ?_
 refine c_loop (γ := (Nat) × (List Int) × (Option Addr) × (Nat)) (fun (r, xs, bs, cp) => r < 2 ^ 64 ∧ bitsOf m = xs ++ bitsOf r ∧ SlOk bs xs.length ∧ xs.length ≤ cp) (fun (r, xs, bs, cp) => [(0, (vP p 0)), (4, (.slice bs xs.length cp)), (5, (.int .u64 ((r : Nat) : Int)))]) (fun (r, xs, bs, cp) => (SlV 3 1 (.slice bs xs.length cp) xs.length (ints .i64 xs)) :: (GraphO p N es) :: (SlV 3 1 (.slice bs1 1 cp2) 1 [(vN a)]) :: R) (fun (r, xs, bs, cp) => r) (m, [], none, 0) ⟨‹_›, rfl, slok_none, Nat.le_refl _⟩ ⟨rfl, rfl, rfl, trivial⟩ (fun _ h => h) ?_
 rintro ⟨r, xs, bs, cp⟩ K6 hF hK6
 try dsimp only at hF hK6 ⊢
 obtain ⟨hrl, hall, hok, hle⟩ := hF
 have hxl : xs.length ≤ 64 := by have h1 := bitsOf_len m; have h2 := congrArg List.length hall; rw [List.length_append] at h2; omega
 refine c_seq (fun K7 hK7 => c_seq (fun K8 hK8 => c_region (tp rfl (lv_move rfl) ?_)))
 by_cases h5 : ((r : Nat) : Int) = 0
 · refine tp rfl (lv_neq rfl rfl (bne_eq_false_iff_eq.2 h5)) (t_done (q_then_n (hK8 _ _ (c_false rfl (c_exit (q_then_x (q_then_x (q_in_x (q_then_n (hK4 _ _ (c_seq (fun K9 hK9 => ?_))))))))))))
   refine c_region (tp rfl (lv_move rfl) (tp rfl (lv_assign rfl) (t_done (q_then_n (hK9 _ _ (c_ret (t_f2 (t_drop ?_))))))))
   refine q_ret rfl rfl ?_
   have e : r = 0 := (by omega)
   subst e
   rw [bitsOf_zero, List.append_nil] at hall
   rw [← bitsOf_reach hgok ha hm2, hall]
   exact ⟨_, _, hok, hle, rfl, rfl⟩
 · refine tp rfl (lv_neq rfl rfl (bne_iff_ne.2 h5)) (t_done (q_then_n (hK8 _ _ (c_true rfl (c_skip (q_then_n (hK7 _ _ (c_seq (fun K9 hK9 => c_block (c_region ?_))))))))))
   have h0 : r ≠ 0 := by intro e; subst e; exact absurd rfl ‹_›
   obtain ⟨r2, hr2, hr2l, hr2b⟩ := low_off h0 hrl
   have hstep := bitsOf_step h0 hrl hr2b
   refine tp rfl (lv_move rfl) (tp rfl (lv_move rfl) ?_)
   refine tc rfl (en_fn Tryz.call135 rfl) (tz_ok r h0 hrl (Tab.cons (Tab.cons (Tab.cons hT)))) ?_
   rintro _ _ ⟨rfl, rfl⟩
   refine tm rfl (mv_buildSlice (cs := [(.int .i64 ((Lib.ctz 64 r : Nat) : Int))]) Tryz.underlying34 Tryz.sizeOf3 Tryz.zeroValue3 (by decide) rfl rfl rfl rfl) ?_
   rintro _ _ ⟨bs6, cp7, hok8, hle9, rfl, rfl⟩
   refine t_f1 ?_
   refine tm rfl (mv_append (i := Tryz.t3) Tryz.underlying34 Tryz.type3 rfl rfl rfl (by decide) rfl rfl hok8 (by first | (simp; done) | (simp; omega)) (rd_sl (.tail _ (.head _))) (by simp [Value.oneCell']) (by rw [show Tryz.t3.bytes = 8 from rfl]; omega)) ?_
   rintro _ _ ⟨bs10, cp11, hok12, hle13, rfl, rfl⟩
   rw [show ints .i64 xs ++ [(.int .i64 ((Lib.ctz 64 r : Nat) : Int))] = ints .i64 (xs ++ [((Lib.ctz 64 r : Nat) : Int)]) from ints_snoc _ _ _]
   refine tp rfl (lv_assign rfl) (t_done (q_in_n (q_then_n (hK9 _ _ (c_region (tp rfl (lv_move rfl) (tp rfl (lv_move rfl) (tp rfl (lv_sub (c := IntKind.u64.wrap (((r : Nat) : Int) - 1)) rfl rfl rfl) (tp rfl (lv_and (c := ((r2 : Nat) : Int)) rfl rfl hr2) (tp rfl (lv_assign rfl) ?_))))))))))
   refine t_done (q_then_n (t_f1 (t_drop ?_)))
   have hlen : xs.length + 1 = (xs ++ [((Lib.ctz 64 r : Nat) : Int)]).length := by simp
   have hok' := hok12
   have hle' := hle13
   rw [hlen] at hok' hle' ⊢
   exact t_weak (by exact ⟨rfl, rfl, rfl, trivial⟩) ((hK6 (r2, xs ++ [((Lib.ctz 64 r : Nat) : Int)], bs10, cp11) ⟨by omega, by rw [hall, hstep]; simp, hok', hle'⟩ (by omega)))
theorem reach_f {R : List HP} {p N : Nat} {es : Es} (a : Int) (hv : thereB N [a] = false) (hv' : valid N a = false) :
    Ok Tryz.prog 93 [(.pointer (some ⟨p, 0, none⟩)), (.int .i64 a)] ((GraphO p N es) :: R)
      (OutSl 3 1 (reachL N es a).length (ints .i64 (reachL N es a)) (GraphO p N es :: R)) := by
 refine ok_of (N := 26) Tryz.func93 rfl rfl rfl (fun W => ?_)
 refine t_learn (fun _ h => gok_of h) (fun hgok => ?_)
 refine c_seq (fun K1 hK1 => c_region (tp rfl (lv_assign rfl) (t_done (q_then_n (hK1 _ _ (c_seq (fun K2 hK2 => c_seq (fun K3 hK3 => c_region (tp rfl (lv_move rfl) (tp rfl (lv_move rfl) ?_))))))))))
 refine tm rfl (mv_buildSlice (cs := [(.int .i64 a)]) Tryz.underlying34 Tryz.sizeOf3 Tryz.zeroValue3 (by decide) rfl rfl rfl rfl) ?_
 rintro _ _ ⟨bs1, cp2, hok3, hle4, rfl, rfl⟩
 refine t_f1 ?_
 refine tc rfl (en_fn Tryz.call71 rfl) (there_is (N := N) (es := es) [a] hv (rd_sl (.head _)) hok3 (by simp)) ?_
 rintro _ _ ⟨rfl, rfl⟩
 refine tp rfl (lv_not (c := true) rfl rfl) (t_done (q_then_n (hK3 _ _ (c_true rfl (c_seq (fun K4 hK4 => c_region (tp rfl (lv_assign rfl) (t_done (q_then_n (hK4 _ _ (c_ret ?_)))))))))))
 refine q_then_r ?_
 refine t_sat (fun _ h => sat_nilsl 3 1 h) ?_
 refine t_f2 (t_drop ?_)
 refine q_ret rfl rfl ?_
 rw [show reachL N es a = [] from by unfold reachL; rw [hv']; rfl]
 exact ⟨none, 0, slok_none, Nat.le_refl _, rfl, rfl⟩
theorem reach_ok {R : List HP} {p N : Nat} {es : Es} (a : Int) (hT : Tab R) : Ok Tryz.prog 93 [(.pointer (some ⟨p, 0, none⟩)), (.int .i64 a)] (GraphO p N es :: R)
      (OutSl 3 1 (reachL N es a).length (ints .i64 (reachL N es a)) (GraphO p N es :: R)) := by
  rcases there_cases1 N a with ⟨k, hk, rfl⟩ | ⟨h1, h2⟩
  · exact reach_t k hk hT
  · exact reach_f a h1 h2
theorem reaches_t {R : List HP} {p N : Nat} {es : Es} (a b : Nat) (ha : a < N) (hb : b < N) (hT : Tab R) :
    Ok Tryz.prog 103 [(.pointer (some ⟨p, 0, none⟩)), (.int .i64 ((a : Nat) : Int)), (.int .i64 ((b : Nat) : Int))] ((GraphO p N es) :: R)
      (fun v M => v = .bool (reachB N es ((a : Nat) : Int) ((b : Nat) : Int)) ∧ M = GraphO p N es :: R) := by
 refine ok_of (N := 19) Tryz.func103 rfl rfl rfl (fun W => ?_)
 refine t_learn (fun _ h => gok_of h) (fun hgok => ?_)
 have hsmall := hgok.small
 refine c_seq (fun K1 hK1 => c_region (tp rfl (lv_assign rfl) (t_done (q_then_n (hK1 _ _ (c_seq (fun K2 hK2 => c_region (tp rfl (lv_move rfl) (tp rfl (lv_move rfl) (tp rfl (lv_move rfl) ?_))))))))))
 refine tm rfl (mv_buildSlice (cs := [(.int .i64 ((a : Nat) : Int)), (.int .i64 ((b : Nat) : Int))]) Tryz.underlying34 Tryz.sizeOf3 Tryz.zeroValue3 (by decide) rfl rfl rfl rfl) ?_
 rintro _ _ ⟨bs1, cp2, hok3, hle4, rfl, rfl⟩
 refine t_f1 ?_
 refine tc rfl (en_fn Tryz.call71 rfl) (there_is (N := N) (es := es) [((a : Nat) : Int), ((b : Nat) : Int)] (there_t2 ha hb) (rd_sl (.head _)) hok3 (by simp)) ?_
 rintro _ _ ⟨rfl, rfl⟩
 refine tp rfl (lv_move rfl) ?_
 refine t_guard rfl rfl ?_
 refine tp rfl (lv_move rfl) ?_
 refine t_guard rfl rfl ?_
 refine tp rfl (lv_move rfl) ?_
 refine t_guard rfl rfl ?_
 refine tc rfl (en_fn Tryz.call134 rfl) (rset_ok (N := N) (es := es) a (by omega) (Tab.cons hT)) ?_
 rintro _ _ ⟨m, hm1, hm2, rfl, rfl⟩
 refine t_guard rfl rfl ?_
 refine tp rfl (lv_move rfl) ?_
 refine t_guard rfl rfl ?_
 refine tc rfl (en_fn Tryz.call112 rfl) (has_ok m b (by omega) hm1) ?_
 rintro _ _ ⟨rfl, rfl⟩
 refine tp rfl (lv_pick_t rfl rfl) (tp rfl (lv_assign rfl) (t_done (q_then_n (hK2 _ _ (c_ret (t_f1 (t_drop ?_)))))))
 refine q_ret rfl rfl ?_
 exact ⟨by rw [show m.testBit b = reachB N es (a : Int) (b : Int) from by unfold reachB; rw [valid_nat ha, valid_nat hb, Bool.and_self, Bool.true_and, Bool.eq_iff_iff, rch_iff]; exact hm2 b], rfl⟩
theorem reaches_f {R : List HP} {p N : Nat} {es : Es} (a b : Int) (hv : thereB N [a, b] = false) (hv' : (valid N a && valid N b) = false) :
    Ok Tryz.prog 103 [(.pointer (some ⟨p, 0, none⟩)), (.int .i64 a), (.int .i64 b)] ((GraphO p N es) :: R)
      (fun v M => v = .bool (reachB N es a b) ∧ M = GraphO p N es :: R) := by
 refine ok_of (N := 19) Tryz.func103 rfl rfl rfl (fun W => ?_)
 refine c_seq (fun K1 hK1 => c_region (tp rfl (lv_assign rfl) (t_done (q_then_n (hK1 _ _ (c_seq (fun K2 hK2 => c_region (tp rfl (lv_move rfl) (tp rfl (lv_move rfl) (tp rfl (lv_move rfl) ?_))))))))))
 refine tm rfl (mv_buildSlice (cs := [(.int .i64 a), (.int .i64 b)]) Tryz.underlying34 Tryz.sizeOf3 Tryz.zeroValue3 (by decide) rfl rfl rfl rfl) ?_
 rintro _ _ ⟨bs1, cp2, hok3, hle4, rfl, rfl⟩
 refine t_f1 ?_
 refine tc rfl (en_fn Tryz.call71 rfl) (there_is (N := N) (es := es) [a, b] hv (rd_sl (.head _)) hok3 (by simp)) ?_
 rintro _ _ ⟨rfl, rfl⟩
 refine tp rfl (lv_move rfl) ?_
 refine t_skip rfl rfl rfl ?_
 refine t_skip rfl rfl rfl ?_
 refine t_skip rfl rfl rfl ?_
 refine t_skip rfl rfl rfl ?_
 refine t_skip rfl rfl rfl ?_
 refine tp rfl (lv_pick_f rfl rfl) (tp rfl (lv_assign rfl) (t_done (q_then_n (hK2 _ _ (c_ret (t_f1 (t_drop ?_)))))))
 refine q_ret rfl rfl ?_
 exact ⟨by rw [show reachB N es a b = false from by unfold reachB; rw [hv']; rfl], rfl⟩
theorem reaches_ok {R : List HP} {p N : Nat} {es : Es} (a b : Int) (hT : Tab R) : Ok Tryz.prog 103 [(.pointer (some ⟨p, 0, none⟩)), (.int .i64 a), (.int .i64 b)] (GraphO p N es :: R)
      (fun v M => v = .bool (reachB N es a b) ∧ M = GraphO p N es :: R) := by
  rcases there_cases2 N a b with ⟨k, m, hk, hm, rfl, rfl⟩ | ⟨h1, h2⟩
  · exact reaches_t k m hk hm hT
  · exact reaches_f a b h1 h2
set_option maxHeartbeats 4000000 in
theorem new_ok {R : List HP} (n : Int) :
    Ok Tryz.prog 35 [(.int .i64 n)] R
      (fun v M => ∃ p, v = .pointer (some ⟨p, 0, none⟩) ∧ M = GraphO p (clampN n) ([] : Es) :: R) := by
 have hcl : clampN n ≤ 64 := by unfold clampN; omega
 have hce : min (max n 0) 64 = ((clampN n : Nat) : Int) := by unfold clampN; omega
 refine ok_of (N := 14) Tryz.func35 rfl rfl rfl (fun W => ?_)
 refine c_seq (fun K1 hK1 => c_region (tp rfl (lv_assign rfl) (t_done (q_then_n (hK1 _ _ (c_seq (fun K2 hK2 => c_region (tp rfl (lv_move rfl) (tp rfl (lv_max (c := max n 0) rfl rfl rfl) (tp rfl (lv_min (c := ((clampN n : Nat) : Int)) rfl rfl hce) ?_))))))))))
 refine tp rfl (lv_assign rfl) (t_done (q_then_n (hK2 _ _ (c_seq (fun K3 hK3 => ?_)))))
 refine c_draw (γ := Option Addr × Nat × Option Addr × Nat × Option Addr × Nat × Nat) (n := 9) Tryz.mixed rfl rfl (fun (bs1, cp2, bs5, cp6, bs9, cp10, b13) S => (S 1 = true → SlOk bs1 (clampN n)) ∧ (S 1 = true → clampN n ≤ cp2) ∧ (S 3 = true → SlOk bs5 (clampN n)) ∧ (S 3 = true → clampN n ≤ cp6) ∧ (S 5 = true → SlOk bs9 (clampN n)) ∧ (S 5 = true → clampN n ≤ cp10)) (fun (bs1, cp2, bs5, cp6, bs9, cp10, b13) => [(0, 6, (.int .i64 ((clampN n : Nat) : Int))), (1, 7, (.slice bs1 (clampN n) cp2)), (2, 8, (.int .i64 ((clampN n : Nat) : Int))), (3, 9, (.slice bs5 (clampN n) cp6)), (4, 10, (.int .i64 ((clampN n : Nat) : Int))), (5, 11, (.slice bs9 (clampN n) cp10)), (6, 12, (.agg #[(.slice bs1 (clampN n) cp2), (.slice bs5 (clampN n) cp6), (.slice bs9 (clampN n) cp10), (.int .i64 0)])), (7, 13, (vP b13 0)), (8, 2, (vP b13 0))]) (fun (bs1, cp2, bs5, cp6, bs9, cp10, b13) S => (bif S 1 then (SlV 34 1 (.slice bs1 (clampN n) cp2) (clampN n) (List.replicate (clampN n) (.slice none 0 0))) else Emp) :: (bif S 3 then (SlV 34 1 (.slice bs5 (clampN n) cp6) (clampN n) (List.replicate (clampN n) (.slice none 0 0))) else Emp) :: (bif S 5 then (SlV 166 1 (.slice bs9 (clampN n) cp10) (clampN n) (ints .u64 (List.replicate (clampN n) 0))) else Emp) :: (bif S 7 then (Blk b13 [(.slice bs1 (clampN n) cp2), (.slice bs5 (clampN n) cp6), (.slice bs9 (clampN n) cp10), (.int .i64 0)] 126) else Emp) :: R) (none, 0, none, 0, none, 0, 0) (by simp [Nat.ble]) (fun _ h => sat_emps [] 4 h) (fun _ _ h => h) ?_ ?_
 · refine ⟨?_, ?_, ?_, ?_, ?_, ?_, ?_, ?_, ?_, trivial⟩
   · rintro ⟨bs1, cp2, bs5, cp6, bs9, cp10, b13⟩ S hF hS D hp K hK; try dsimp only
     exact d_lv1 (look_b (t := 0) rfl rfl) (lv_move rfl) 0 rfl rfl hS (hK (bs1, cp2, bs5, cp6, bs9, cp10, b13) hF)
   · rintro ⟨bs1, cp2, bs5, cp6, bs9, cp10, b13⟩ S hF hS D hp K hK
     try dsimp only at hF ⊢
     obtain ⟨hf0, hf1, hf2, hf3, hf4, hf5⟩ := hF
     have s0 := hp 0 rfl
     refine d_need (small := [(6, (.int .i64 ((clampN n : Nat) : Int)))]) ⟨look_row rfl 0 rfl s0, trivial⟩ ?_
     refine tm rfl (mv_makeSlice (i := Tryz.t34) Tryz.underlying123 Tryz.type34 rfl rfl rfl rfl rfl (by omega) (by rw [show Tryz.t34.bytes = 24 from rfl]; omega) (by omega)) ?_
     rintro _ _ ⟨bs1, cp2, hok3, hle4, rfl, rfl⟩
     refine t_f4 ?_
     refine t_cF (nf (nf hS D (k := 6) (i := 1) rfl) D (k := 7) (i := 6) rfl) ?_
     refine t_wF (A := (Blk b13 [(.slice bs1 (clampN n) cp2), (.slice bs5 (clampN n) cp6), (.slice bs9 (clampN n) cp10), (.int .i64 0)] 126)) (nf (nf hS D (k := 6) (i := 1) rfl) D (k := 7) (i := 6) rfl) ?_
     refine t_f4 (t_f4 (t_f4 (t_f4 ?_)))
     refine t_sat (fun _ h => sat_put [] h) ?_
     exact d_closes ⟨look_row rfl 0 rfl s0, trivial⟩ 1 rfl rfl rfl hS (by exact ⟨.inl rfl, .inr ⟨rfl, rfl, hS⟩, .inl rfl, .inl rfl, .inl rfl, .inl rfl, .inr ⟨rfl, rfl, (nf hS D (k := 6) (i := 1) rfl)⟩, .inl rfl, .inl rfl, trivial⟩) (t_sat (fun _ h => h) (hK (bs1, cp2, bs5, cp6, bs9, cp10, b13) ⟨(fun _ => hok3), (fun _ => hle4), hf2, hf3, hf4, hf5⟩))
   · rintro ⟨bs1, cp2, bs5, cp6, bs9, cp10, b13⟩ S hF hS D hp K hK; try dsimp only
     exact d_lv1 (look_b (t := 0) rfl rfl) (lv_move rfl) 2 rfl rfl hS (hK (bs1, cp2, bs5, cp6, bs9, cp10, b13) hF)
   · rintro ⟨bs1, cp2, bs5, cp6, bs9, cp10, b13⟩ S hF hS D hp K hK
     try dsimp only at hF ⊢
     obtain ⟨hf0, hf1, hf2, hf3, hf4, hf5⟩ := hF
     have s2 := hp 2 rfl
     refine d_need (small := [(8, (.int .i64 ((clampN n : Nat) : Int)))]) ⟨look_row rfl 2 rfl s2, trivial⟩ ?_
     refine tm rfl (mv_makeSlice (i := Tryz.t34) Tryz.underlying123 Tryz.type34 rfl rfl rfl rfl rfl (by omega) (by rw [show Tryz.t34.bytes = 24 from rfl]; omega) (by omega)) ?_
     rintro _ _ ⟨bs5, cp6, hok7, hle8, rfl, rfl⟩
     refine t_f4 ?_
     refine t_cF (nf (nf hS D (k := 6) (i := 3) rfl) D (k := 7) (i := 6) rfl) ?_
     refine t_wF (A := (Blk b13 [(.slice bs1 (clampN n) cp2), (.slice bs5 (clampN n) cp6), (.slice bs9 (clampN n) cp10), (.int .i64 0)] 126)) (nf (nf hS D (k := 6) (i := 3) rfl) D (k := 7) (i := 6) rfl) ?_
     refine t_f4 (t_f4 (t_f4 (t_f4 ?_)))
     refine t_sat (fun _ h => sat_put [_] h) ?_
     exact d_closes ⟨look_row rfl 2 rfl s2, trivial⟩ 3 rfl rfl rfl hS (by exact ⟨.inl rfl, .inl rfl, .inl rfl, .inr ⟨rfl, rfl, hS⟩, .inl rfl, .inl rfl, .inr ⟨rfl, rfl, (nf hS D (k := 6) (i := 3) rfl)⟩, .inl rfl, .inl rfl, trivial⟩) (t_sat (fun _ h => h) (hK (bs1, cp2, bs5, cp6, bs9, cp10, b13) ⟨hf0, hf1, (fun _ => hok7), (fun _ => hle8), hf4, hf5⟩))
   · rintro ⟨bs1, cp2, bs5, cp6, bs9, cp10, b13⟩ S hF hS D hp K hK; try dsimp only
     exact d_lv1 (look_b (t := 0) rfl rfl) (lv_move rfl) 4 rfl rfl hS (hK (bs1, cp2, bs5, cp6, bs9, cp10, b13) hF)
   · rintro ⟨bs1, cp2, bs5, cp6, bs9, cp10, b13⟩ S hF hS D hp K hK
     try dsimp only at hF ⊢
     obtain ⟨hf0, hf1, hf2, hf3, hf4, hf5⟩ := hF
     have s4 := hp 4 rfl
     refine d_need (small := [(10, (.int .i64 ((clampN n : Nat) : Int)))]) ⟨look_row rfl 4 rfl s4, trivial⟩ ?_
     refine tm rfl (mv_makeSlice (i := Tryz.t166) Tryz.underlying124 Tryz.type166 rfl rfl rfl rfl rfl (by omega) (by rw [show Tryz.t166.bytes = 8 from rfl]; omega) (by omega)) ?_
     rintro _ _ ⟨bs9, cp10, hok11, hle12, rfl, rfl⟩
     rw [ints_rep]
     refine t_f4 ?_
     refine t_cF (nf (nf hS D (k := 6) (i := 5) rfl) D (k := 7) (i := 6) rfl) ?_
     refine t_wF (A := (Blk b13 [(.slice bs1 (clampN n) cp2), (.slice bs5 (clampN n) cp6), (.slice bs9 (clampN n) cp10), (.int .i64 0)] 126)) (nf (nf hS D (k := 6) (i := 5) rfl) D (k := 7) (i := 6) rfl) ?_
     refine t_f4 (t_f4 (t_f4 (t_f4 ?_)))
     refine t_sat (fun _ h => sat_put [_, _] h) ?_
     exact d_closes ⟨look_row rfl 4 rfl s4, trivial⟩ 5 rfl rfl rfl hS (by exact ⟨.inl rfl, .inl rfl, .inl rfl, .inl rfl, .inl rfl, .inr ⟨rfl, rfl, hS⟩, .inr ⟨rfl, rfl, (nf hS D (k := 6) (i := 5) rfl)⟩, .inl rfl, .inl rfl, trivial⟩) (t_sat (fun _ h => h) (hK (bs1, cp2, bs5, cp6, bs9, cp10, b13) ⟨hf0, hf1, hf2, hf3, (fun _ => hok11), (fun _ => hle12)⟩))
   · rintro ⟨bs1, cp2, bs5, cp6, bs9, cp10, b13⟩ S hF hS D hp K hK
     try dsimp only at hF ⊢
     obtain ⟨hf0, hf1, hf2, hf3, hf4, hf5⟩ := hF
     have s1 := hp 1 rfl
     have hok3 := hf0 s1
     have hle4 := hf1 s1
     have s3 := hp 3 rfl
     have hok7 := hf2 s3
     have hle8 := hf3 s3
     have s5 := hp 5 rfl
     have hok11 := hf4 s5
     have hle12 := hf5 s5
     refine d_need (small := [(7, (.slice bs1 (clampN n) cp2)), (9, (.slice bs5 (clampN n) cp6)), (11, (.slice bs9 (clampN n) cp10))]) ⟨look_row rfl 1 rfl s1, look_row rfl 3 rfl s3, look_row rfl 5 rfl s5, trivial⟩ ?_
     refine tp rfl (lv_build (cs := [(.slice bs1 (clampN n) cp2), (.slice bs5 (clampN n) cp6), (.slice bs9 (clampN n) cp10), (.int .i64 0)]) (pl := [(0, 1), (1, 1), (2, 1), (3, 1)]) Tryz.underlying126 Tryz.zeroValue126 (fun _ => by simp) rfl rfl) ?_
     exact d_closes ⟨look_row rfl 1 rfl s1, look_row rfl 3 rfl s3, look_row rfl 5 rfl s5, trivial⟩ 6 rfl rfl rfl hS (AgreeR.refl _) (t_sat (fun _ h => h) (hK (bs1, cp2, bs5, cp6, bs9, cp10, b13) ⟨hf0, hf1, hf2, hf3, hf4, hf5⟩))
   · rintro ⟨bs1, cp2, bs5, cp6, bs9, cp10, b13⟩ S hF hS D hp K hK
     try dsimp only at hF ⊢
     obtain ⟨hf0, hf1, hf2, hf3, hf4, hf5⟩ := hF
     have s6 := hp 6 rfl
     have s1 := D 6 1 rfl s6
     have hok3 := hf0 s1
     have hle4 := hf1 s1
     have s3 := D 6 3 rfl s6
     have hok7 := hf2 s3
     have hle8 := hf3 s3
     have s5 := D 6 5 rfl s6
     have hok11 := hf4 s5
     have hle12 := hf5 s5
     refine d_need (small := [(12, (.agg #[(.slice bs1 (clampN n) cp2), (.slice bs5 (clampN n) cp6), (.slice bs9 (clampN n) cp10), (.int .i64 0)]))]) ⟨look_row rfl 6 rfl s6, trivial⟩ ?_
     refine tm rfl (mv_box rfl rfl) ?_
     rintro _ _ ⟨b13, rfl, rfl⟩
     refine t_sat (fun _ h => sat_put [_, _, _] h) ?_
     exact d_closes ⟨look_row rfl 6 rfl s6, trivial⟩ 7 rfl rfl rfl hS (by exact ⟨.inl rfl, .inl rfl, .inl rfl, .inl rfl, .inl rfl, .inl rfl, .inl rfl, .inr ⟨rfl, rfl, hS⟩, .inr ⟨rfl, rfl, (nf hS D (k := 8) (i := 7) rfl)⟩, trivial⟩) (t_sat (fun _ h => h) (hK (bs1, cp2, bs5, cp6, bs9, cp10, b13) ⟨hf0, hf1, hf2, hf3, hf4, hf5⟩))
   · rintro ⟨bs1, cp2, bs5, cp6, bs9, cp10, b13⟩ S hF hS D hp K hK; try dsimp only
     exact d_lv1 (lkr hp 7 rfl rfl) (lv_assign rfl) 8 rfl rfl hS (hK (bs1, cp2, bs5, cp6, bs9, cp10, b13) hF)
 · rintro ⟨bs1, cp2, bs5, cp6, bs9, cp10, b13⟩ hF
   try dsimp only at hF ⊢
   obtain ⟨hf0, hf1, hf2, hf3, hf4, hf5⟩ := hF
   have hok3 := hf0 rfl
   have hle4 := hf1 rfl
   have hok7 := hf2 rfl
   have hle8 := hf3 rfl
   have hok11 := hf4 rfl
   have hle12 := hf5 rfl
   refine t_weak (E' := [(0, (.int .i64 ((clampN n : Nat) : Int))), (2, (vP b13 0))]) ⟨rfl, rfl, trivial⟩ ?_
   refine q_then_n (hK3 _ _ (c_ret (t_f2 (t_f2 (t_f2 (t_f3 ?_))))))
   refine t_sat (fun _ h => sat_newG (by omega) hok3 hok7 hok11 h) ?_
   refine q_ret rfl rfl ?_
   exact ⟨_, rfl, rfl⟩
end Go.Proofs.YtanfdikglplkaaaGreatDoor
