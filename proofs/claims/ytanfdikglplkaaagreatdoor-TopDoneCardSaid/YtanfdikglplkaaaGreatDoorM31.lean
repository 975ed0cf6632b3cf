/- Parts La: own lemmas and contracts of the code that the claim reaches. -/
import Derived.Test.YtanfdikglplkaaaGreatDoorM03
import Derived.Test.YtanfdikglplkaaaGreatDoorM30
set_option linter.unusedSimpArgs false
set_option linter.unusedVariables false
set_option maxRecDepth 100000
namespace Go.Proofs.YtanfdikglplkaaaGreatDoor
open Go Go.Proofs Sp
set_option maxHeartbeats 4000000 in
theorem done_law {R : List HP} {vr : Nat} {c : Cfg} {bb bq : Option Addr} {n cb nq cq : Nat} (al : List (Int × Int)) (qs : List R3) (hn : al.length = n) (hq : qs.length = nq) (hb : Rd R bb (pairs al)) (okb : SlOk bb n) (hqr : Rd R bq (recs triF qs)) (okq : SlOk bq nq) (lq : nq ≤ 9223372036854775807) (hT : Tab R) (hV : VTab vr R) :
    Ok Tryz.prog 4 [(.agg #[(.int .i64 c.bud), (.int .i64 c.slots), (.int .i64 c.act), (.int .i64 c.que), (.int .i64 c.tries), (.int .i64 c.pre), (.int .i64 c.tmo), (.int .i64 c.bak), (.int .i64 c.most), (.int .i64 c.qu)]), (.slice bb n cb), (.slice bq nq cq)] R
      (fun v M => v = .bool true ∧ M = R) := by
 refine ok_of (N := 153) Tryz.func4 rfl rfl rfl (fun W => ?_)
 refine c_seq (fun K1 hK1 => c_region ?_)
 refine tm rfl (mv_box rfl rfl) ?_
 rintro _ _ ⟨b1, rfl, rfl⟩
 refine tp rfl (lv_assign rfl) (t_done (q_then_n (hK1 _ _ (c_seq (fun K2 hK2 => c_region ?_)))))
 refine tc rfl (en_fn Tryz.call5 rfl) (works_ok (Tab.cons hT) (VTab.cons hV)) ?_
 rintro _ _ ⟨rfl, rfl⟩
 refine tp rfl (lv_assign rfl) (t_done (q_then_n (hK2 _ _ (c_seq (fun K3 hK3 => c_region (tp rfl (lv_move rfl) ?_))))))
 refine tc rfl (en_fn Tryz.call6 rfl) (tasks_ok (n := n) al (by first | rfl | omega) (Rd.cons hb) okb) ?_
 rintro _ _ ⟨bs2, cp3, n4, hnl5, hok6, hle7, rfl, rfl⟩
 refine tp rfl (lv_assign rfl) (t_done (q_then_n (hK3 _ _ (c_seq (fun K4 hK4 => c_region (tp rfl (lv_loadAgg (cs := [(.int .i64 c.bud), (.int .i64 c.slots), (.int .i64 c.act), (.int .i64 c.que), (.int .i64 c.tries), (.int .i64 c.pre), (.int .i64 c.tmo), (.int .i64 c.bak), (.int .i64 c.most), (.int .i64 c.qu)]) Tryz.isAgg23 Tryz.sizeOf23 rfl (gives_all10 (gives_blk (.tail _ (.head _)) rfl) (gives_blk (.tail _ (.head _)) rfl) (gives_blk (.tail _ (.head _)) rfl) (gives_blk (.tail _ (.head _)) rfl) (gives_blk (.tail _ (.head _)) rfl) (gives_blk (.tail _ (.head _)) rfl) (gives_blk (.tail _ (.head _)) rfl) (gives_blk (.tail _ (.head _)) rfl) (gives_blk (.tail _ (.head _)) rfl) (gives_blk (.tail _ (.head _)) rfl))) ?_))))))
 refine tc rfl (en_fn Tryz.call8 rfl) (config_x (c := c) (wide := false)) ?_
 rintro _ _ ⟨rfl, rfl⟩
 refine tp rfl (lv_move rfl) ?_
 refine tc rfl (en_fn Tryz.call7 rfl) (made_ok (c := cfgN c) (sml_N c al) hnl5 (rd_sl (.head _)) hok6) ?_
 rintro _ _ ⟨e8, yt9, hyr10, rfl, rfl⟩
 refine tp rfl (lv_assign rfl) (t_done (q_then_n (hK4 _ _ (c_seq (fun K5 hK5 => c_seq (fun K6 hK6 => c_region ?_))))))
 have hR00 := hyr10.congr (W' := fun t => (List.replicate 8 false).getD t false = true) (fun t => (want_none t).symm)
 refine tp rfl (lv_move rfl) (tp rfl (lv_eqnil Tryz.underlying28 rfl rfl) (t_done (q_then_n (hK6 _ _ (c_false rfl (c_skip (q_then_n (hK5 _ _ (c_seq (fun K7 hK7 => c_region (tp rfl (lv_buildArr0 (cs := (bools (List.replicate 8 false))) Tryz.underlying48 Tryz.zeroValue48 Tryz.sizeOf4 rfl) ?_)))))))))))
 refine tm rfl (mv_alloc (cs := (bools (List.replicate 8 false))) Tryz.zeroValue48 rfl) ?_
 rintro _ _ ⟨b11, rfl, rfl⟩
 refine ts (sv_blkAgg (news := (bools (List.replicate 8 false))) (cs' := (bools (List.replicate 8 false))) Tryz.sizeOf48 rfl rfl rfl (by decide) (by decide) rfl) ?_
 refine t_done (q_then_n (hK7 _ _ (c_seq (fun K8 hK8 => c_seq (fun K9 hK9 => c_region (tp rfl (lv_assign rfl) (t_done (q_then_n (hK9 _ _ (c_block ?_))))))))))
 refine c_loop (γ := (Nat) × (Nat) × (YT) × (List Bool)) (fun (k, m, yt, wl) => k ≤ nq ∧ k ≤ 10 ∧ wl.length = 8 ∧ YRest (cfgN c) (tasksF al) m (fun t => wl.getD t false = true) 0 yt) (fun (k, m, yt, wl) => [(0, (.agg #[(.int .i64 c.bud), (.int .i64 c.slots), (.int .i64 c.act), (.int .i64 c.que), (.int .i64 c.tries), (.int .i64 c.pre), (.int .i64 c.tmo), (.int .i64 c.bak), (.int .i64 c.most), (.int .i64 c.qu)])), (1, (.slice bs2 n4 cp3)), (2, (.slice bq nq cq)), (3, (vP b1 0)), (7, (.bool true)), (8, (vP e8 0)), (9, (vP b11 0)), (10, (vN k)), (33, (.bool false))]) (fun (k, m, yt, wl) => (Blk b11 (bools wl) 48) :: (YardO e8 yt) :: (SlV 57 2 (.slice bs2 n4 cp3) n4 (pairs (tasksF al))) :: (Blk b1 [(.int .i64 c.bud), (.int .i64 c.slots), (.int .i64 c.act), (.int .i64 c.que), (.int .i64 c.tries), (.int .i64 c.pre), (.int .i64 c.tmo), (.int .i64 c.bak), (.int .i64 c.most), (.int .i64 c.qu)] 23) :: R) (fun (k, m, yt, wl) => nq - k) (0, 0, yt9, List.replicate 8 false) ⟨Nat.zero_le _, Nat.zero_le _, List.length_replicate, hR00⟩ ⟨rfl, rfl, rfl, rfl, rfl, rfl, rfl, rfl, rfl, trivial⟩ (fun _ h => h) ?_
 rintro ⟨k, m, yt, wl⟩ K10 hF hK10
 try dsimp only at hF hK10 ⊢
 obtain ⟨hk, hk10, hwl, hR⟩ := hF
 refine c_seq (fun K11 hK11 => c_seq (fun K12 hK12 => c_region ?_))
 by_cases hc12 : ((k : Nat) : Int) < ((nq : Nat) : Int) ∧ ((k : Nat) : Int) < 10
 · have hc12a := hc12.1
   have hc12b := hc12.2
   refine tp rfl (lv_move rfl) (tp rfl (lv_move rfl) (tp rfl (lv_len Tryz.underlying47 rfl rfl) (tp rfl (lv_lss rfl rfl (decide_eq_true hc12.1)) (tp rfl (lv_move rfl) ?_))))
   refine t_guard rfl rfl ?_
   refine tp rfl (lv_move rfl) ?_
   refine t_guard rfl rfl ?_
   refine tp rfl (lv_lss rfl rfl (decide_eq_true hc12.2)) (tp rfl (lv_pick_t rfl rfl) (t_done (q_then_n (hK12 _ _ (c_true rfl (c_skip (q_then_n (hK11 _ _ (c_seq (fun K13 hK13 => c_block (c_seq (fun K14 hK14 => ?_))))))))))))
   refine c_region ?_
   have htl := tasksF_len al
   refine tp rfl (lv_move rfl) (tp rfl (lv_move rfl) (tp rfl (lv_indexAddr (k' := k * 3) Tryz.underlying47 Tryz.sizeOf51 rfl rfl okq (by omega) (by omega) (by omega)) ?_))
   refine tp rfl (lv_fieldAddr_ad (o' := k * 3) Tryz.underlying51 rfl Tryz.sizeOf3 rfl rfl) (tp rfl (lv_load Tryz.isAgg3 rfl (Rd.gives (Rd.cons (Rd.cons (Rd.cons (Rd.cons hqr)))) ((recs_get (k := k) (j := 0) triF_len (d := R3.d) (by first | omega | (simp; omega)) (Nat.le_of_ble_eq_true rfl)).trans rfl))) ?_)
   refine tp rfl (lv_move rfl) (tp rfl (lv_len Tryz.underlying24 rfl rfl) (tp rfl (lv_sub (c := ((n4 : Nat) : Int) - 1) rfl rfl (wr_i64 (by omega) (by omega))) ?_))
   refine tc rfl (en_fn Tryz.call14 rfl) (cut_ok ((qs.getD k R3.d).x) 0 (((n4 : Nat) : Int) - 1) (by omega)) ?_
   rintro _ _ ⟨rfl, rfl⟩
   refine tp rfl (lv_assign rfl) (t_done (q_then_n (hK14 _ _ (c_seq (fun K15 hK15 => ?_)))))
   have hcb := cutF_bd (qs.getD k R3.d).x (l := 0) (m := ((n4 : Nat) : Int) - 1) (by omega)
   obtain ⟨root, hro⟩ : ∃ r : Nat, cutF ((qs.getD k R3.d).x) 0 (((n4 : Nat) : Int) - 1) = (r : Int) := ⟨(cutF ((qs.getD k R3.d).x) 0 (((n4 : Nat) : Int) - 1)).toNat, by omega⟩
   rw [hro] at hcb ⊢
   have hcw := cutF_bd (qs.getD k R3.d).y (l := 1) (m := 100) (by decide)
   have hcp := cutF_bd (qs.getD k R3.d).z (l := 0) (m := 7) (by decide)
   have hr8 : root < (tasksF al).length := by omega
   refine c_draw (γ := YI × Nat) (n := 22) Tryz.mixed rfl rfl (fun (yj13, b15) S => (S 15 = true → SubQ (cfgN c) (tasksF al) m (fun t => wl.getD t false = true) 0 yt root yj13)) (fun (yj13, b15) => [(0, 55, (vP e8 0)), (1, 56, (vN root)), (2, 57, (.slice bq nq cq)), (3, 58, (vN k)), (4, 59, (.pointer (some (ad bq (k * 3))))), (5, 60, (.pointer (some (ad bq (k * 3 + 1))))), (6, 61, (.int .i64 ((qs.getD k R3.d).y))), (7, 62, (.int .i64 (cutF ((qs.getD k R3.d).y) 1 100))), (8, 63, (.slice bq nq cq)), (9, 64, (vN k)), (10, 65, (.pointer (some (ad bq (k * 3))))), (11, 66, (.pointer (some (ad bq (k * 3 + 2))))), (12, 67, (.int .i64 ((qs.getD k R3.d).z))), (13, 68, (.int .i64 (cutF ((qs.getD k R3.d).z) 0 7))), (14, 69, (.agg #[(.int .i64 1), (vN root), (.int .i64 (cutF ((qs.getD k R3.d).y) 1 100)), (.int .i64 (cutF ((qs.getD k R3.d).z) 0 7)), (.int .i64 0)])), (15, 70, (.tuple #[(.agg #[(.int .i64 yj13.a), (.int .i64 yj13.b), (.int .i64 yj13.c), (.int .i64 yj13.d), (.int .i64 yj13.e)]), (.int .i64 yj13.f)])), (16, 54, (.tuple #[(.agg #[(.int .i64 yj13.a), (.int .i64 yj13.b), (.int .i64 yj13.c), (.int .i64 yj13.d), (.int .i64 yj13.e)]), (.int .i64 yj13.f)])), (17, 71, (.agg #[(.int .i64 yj13.a), (.int .i64 yj13.b), (.int .i64 yj13.c), (.int .i64 yj13.d), (.int .i64 yj13.e)])), (18, 72, (.int .i64 yj13.f)), (19, 12, (vP b15 0)), (21, 13, (.int .i64 yj13.f))]) (fun (yj13, b15) S => (Blk b11 (bools wl) 48) :: (bif S 15 then (YardO e8 yj13.T) else (YardO e8 yt)) :: (SlV 57 2 (.slice bs2 n4 cp3) n4 (pairs (tasksF al))) :: (Blk b1 [(.int .i64 c.bud), (.int .i64 c.slots), (.int .i64 c.act), (.int .i64 c.que), (.int .i64 c.tries), (.int .i64 c.pre), (.int .i64 c.tmo), (.int .i64 c.bak), (.int .i64 c.most), (.int .i64 c.qu)] 23) :: (bif S 20 then (Blk b15 [(.int .i64 yj13.a), (.int .i64 yj13.b), (.int .i64 yj13.c), (.int .i64 yj13.d), (.int .i64 yj13.e)] 40) else (bif S 19 then (Blk b15 [(.int .i64 0), (.int .i64 0), (.int .i64 0), (.int .i64 0), (.int .i64 0)] 40) else Emp)) :: R) (yi0, 0) (by simp [Nat.ble]) (fun _ h => sat_emps [_, _, _, _] 1 h) (fun _ _ h => h) ?_ ?_
   · refine ⟨?_, ?_, ?_, ?_, ?_, ?_, ?_, ?_, ?_, ?_, ?_, ?_, ?_, ?_, ?_, ?_, ?_, ?_, ?_, ?_, ?_, ?_, trivial⟩
     · rintro ⟨yj13, b15⟩ S hF hS D hp K hK; try dsimp only
       exact d_lv1 (look_b (t := 8) rfl rfl) (lv_move rfl) 0 rfl rfl hS (hK (yj13, b15) hF)
     · rintro ⟨yj13, b15⟩ S hF hS D hp K hK; try dsimp only
       exact d_lv1 (look_b (t := 11) rfl rfl) (lv_move rfl) 1 rfl rfl hS (hK (yj13, b15) hF)
     · rintro ⟨yj13, b15⟩ S hF hS D hp K hK; try dsimp only
       exact d_lv1 (look_b (t := 2) rfl rfl) (lv_move rfl) 2 rfl rfl hS (hK (yj13, b15) hF)
     · rintro ⟨yj13, b15⟩ S hF hS D hp K hK; try dsimp only
       exact d_lv1 (look_b (t := 10) rfl rfl) (lv_move rfl) 3 rfl rfl hS (hK (yj13, b15) hF)
     · rintro ⟨yj13, b15⟩ S hF hS D hp K hK; try dsimp only
       exact d_lv2 (lkr hp 2 rfl rfl) (lkr hp 3 rfl rfl) (lv_indexAddr (k' := k * 3) Tryz.underlying47 Tryz.sizeOf51 rfl rfl okq (by omega) (by omega) (by omega)) 4 rfl rfl hS (hK (yj13, b15) hF)
     · rintro ⟨yj13, b15⟩ S hF hS D hp K hK; try dsimp only
       exact d_lv1 (lkr hp 4 rfl rfl) (lv_fieldAddr_ad (o' := k * 3 + 1) Tryz.underlying51 rfl Tryz.sizeOf3 rfl rfl) 5 rfl rfl hS (hK (yj13, b15) hF)
     · rintro ⟨yj13, b15⟩ S hF hS D hp K hK; try dsimp only
       exact d_lv1 (lkr hp 5 rfl rfl) (lv_load Tryz.isAgg3 rfl (Rd.gives (Rd.cons (Rd.cons (Rd.cons (Rd.cons (Rd.cons hqr))))) ((recs_get (k := k) (j := 1) triF_len (d := R3.d) (by first | omega | (simp; omega)) (Nat.le_of_ble_eq_true rfl)).trans rfl))) 6 rfl rfl hS (hK (yj13, b15) hF)
     · rintro ⟨yj13, b15⟩ S hF hS D hp K hK
       try dsimp only at hF ⊢
       have hf0 := hF
       have s6 := hp 6 rfl
       refine d_need (small := [(61, (.int .i64 ((qs.getD k R3.d).y)))]) ⟨look_row rfl 6 rfl s6, trivial⟩ ?_
       refine tc rfl (en_fn Tryz.call14 rfl) (cut_ok ((qs.getD k R3.d).y) 1 100 (by omega)) ?_
       rintro _ _ ⟨rfl, rfl⟩
       exact d_closes ⟨look_row rfl 6 rfl s6, trivial⟩ 7 rfl rfl rfl hS (AgreeR.refl _) (t_sat (fun _ h => h) (hK (yj13, b15) hf0))
     · rintro ⟨yj13, b15⟩ S hF hS D hp K hK; try dsimp only
       exact d_lv1 (look_b (t := 2) rfl rfl) (lv_move rfl) 8 rfl rfl hS (hK (yj13, b15) hF)
     · rintro ⟨yj13, b15⟩ S hF hS D hp K hK; try dsimp only
       exact d_lv1 (look_b (t := 10) rfl rfl) (lv_move rfl) 9 rfl rfl hS (hK (yj13, b15) hF)
     · rintro ⟨yj13, b15⟩ S hF hS D hp K hK; try dsimp only
       exact d_lv2 (lkr hp 8 rfl rfl) (lkr hp 9 rfl rfl) (lv_indexAddr (k' := k * 3) Tryz.underlying47 Tryz.sizeOf51 rfl rfl okq (by omega) (by omega) (by omega)) 10 rfl rfl hS (hK (yj13, b15) hF)
     · rintro ⟨yj13, b15⟩ S hF hS D hp K hK; try dsimp only
       exact d_lv1 (lkr hp 10 rfl rfl) (lv_fieldAddr_ad (o' := k * 3 + 2) Tryz.underlying51 rfl Tryz.sizeOf3 rfl rfl) 11 rfl rfl hS (hK (yj13, b15) hF)
     · rintro ⟨yj13, b15⟩ S hF hS D hp K hK; try dsimp only
       exact d_lv1 (lkr hp 11 rfl rfl) (lv_load Tryz.isAgg3 rfl (Rd.gives (Rd.cons (Rd.cons (Rd.cons (Rd.cons (Rd.cons hqr))))) ((recs_get (k := k) (j := 2) triF_len (d := R3.d) (by first | omega | (simp; omega)) (Nat.le_of_ble_eq_true rfl)).trans rfl))) 12 rfl rfl hS (hK (yj13, b15) hF)
     · rintro ⟨yj13, b15⟩ S hF hS D hp K hK
       try dsimp only at hF ⊢
       have hf0 := hF
       have s12 := hp 12 rfl
       refine d_need (small := [(67, (.int .i64 ((qs.getD k R3.d).z)))]) ⟨look_row rfl 12 rfl s12, trivial⟩ ?_
       refine tc rfl (en_fn Tryz.call14 rfl) (cut_ok ((qs.getD k R3.d).z) 0 7 (by omega)) ?_
       rintro _ _ ⟨rfl, rfl⟩
       exact d_closes ⟨look_row rfl 12 rfl s12, trivial⟩ 13 rfl rfl rfl hS (AgreeR.refl _) (t_sat (fun _ h => h) (hK (yj13, b15) hf0))
     · rintro ⟨yj13, b15⟩ S hF hS D hp K hK; try dsimp only
       exact d_lv3 (lkr hp 1 rfl rfl) (lkr hp 7 rfl rfl) (lkr hp 13 rfl rfl) (lv_build (cs := [(.int .i64 1), (.int .i64 ((root : Nat) : Int)), (.int .i64 (cutF ((qs.getD k R3.d).y) 1 100)), (.int .i64 (cutF ((qs.getD k R3.d).z) 0 7)), (.int .i64 0)]) (pl := [(0, 1), (1, 1), (2, 1), (3, 1), (4, 1)]) Tryz.underlying32 Tryz.zeroValue32 (fun _ => by simp) rfl rfl) 14 rfl rfl hS (hK (yj13, b15) hF)
     · rintro ⟨yj13, b15⟩ S hF hS D hp K hK
       try dsimp only at hF ⊢
       have hf0 := hF
       have s0 := hp 0 rfl
       have s14 := hp 14 rfl
       refine d_need (small := [(55, (vP e8 0)), (69, (.agg #[(.int .i64 1), (vN root), (.int .i64 (cutF ((qs.getD k R3.d).y) 1 100)), (.int .i64 (cutF ((qs.getD k R3.d).z) 0 7)), (.int .i64 0)]))]) ⟨look_row rfl 0 rfl s0, look_row rfl 14 rfl s14, trivial⟩ ?_
       refine t_f1 ?_
       refine t_cF hS ?_
       refine t_f4 ?_
       refine t_cF (nf hS D (k := 20) (i := 15) rfl) ?_
       refine t_f1 ?_
       refine tc rfl (en_fn Tryz.call13 rfl) (yd_sub (T := yt) (sml_N c al) hR root hr8 hcw hcp (VTab.cons (VTab.cons (VTab.cons (VTab.cons hV))))) ?_
       rintro _ _ ⟨yj13, hyq14, rfl, rfl⟩
       refine t_f1 ?_
       refine t_wF (A := (Blk b15 [(.int .i64 yj13.a), (.int .i64 yj13.b), (.int .i64 yj13.c), (.int .i64 yj13.d), (.int .i64 yj13.e)] 40)) (nf hS D (k := 20) (i := 15) rfl) ?_
       refine t_f4 (t_f4 (t_f3 (t_f4 ?_)))
       exact d_closes ⟨look_row rfl 0 rfl s0, look_row rfl 14 rfl s14, trivial⟩ 15 rfl rfl rfl hS (by exact ⟨.inl rfl, .inl rfl, .inl rfl, .inl rfl, .inl rfl, .inl rfl, .inl rfl, .inl rfl, .inl rfl, .inl rfl, .inl rfl, .inl rfl, .inl rfl, .inl rfl, .inl rfl, .inr ⟨rfl, rfl, hS⟩, .inr ⟨rfl, rfl, (nf hS D (k := 16) (i := 15) rfl)⟩, .inr ⟨rfl, rfl, (nf (nf hS D (k := 16) (i := 15) rfl) D (k := 17) (i := 16) rfl)⟩, .inr ⟨rfl, rfl, (nf (nf hS D (k := 16) (i := 15) rfl) D (k := 18) (i := 16) rfl)⟩, .inl rfl, .inr ⟨rfl, rfl, (nf hS D (k := 21) (i := 15) rfl)⟩, trivial⟩) (t_sat (fun _ h => h) (hK (yj13, b15) (fun _ => hyq14)))
     · rintro ⟨yj13, b15⟩ S hF hS D hp K hK; try dsimp only
       exact d_lv1 (lkr hp 15 rfl rfl) (lv_move rfl) 16 rfl rfl hS (hK (yj13, b15) hF)
     · rintro ⟨yj13, b15⟩ S hF hS D hp K hK; try dsimp only
       exact d_lv1 (lkr hp 16 rfl rfl) (lv_extract rfl rfl) 17 rfl rfl hS (hK (yj13, b15) hF)
     · rintro ⟨yj13, b15⟩ S hF hS D hp K hK; try dsimp only
       exact d_lv1 (lkr hp 16 rfl rfl) (lv_extract rfl rfl) 18 rfl rfl hS (hK (yj13, b15) hF)
     · rintro ⟨yj13, b15⟩ S hF hS D hp K hK
       try dsimp only at hF ⊢
       have hf0 := hF
       refine d_need (small := []) trivial ?_
       refine t_f4 ?_
       refine t_cF (nf hS D (k := 20) (i := 19) rfl) ?_
       refine t_cF hS ?_
       refine tm rfl (mv_alloc Tryz.zeroValue40 rfl) ?_
       rintro _ _ ⟨b15, rfl, rfl⟩
       refine t_f1 ?_
       refine t_wF (A := (Blk b15 [(.int .i64 0), (.int .i64 0), (.int .i64 0), (.int .i64 0), (.int .i64 0)] 40)) hS ?_
       refine t_wF (A := (Blk b15 [(.int .i64 yj13.a), (.int .i64 yj13.b), (.int .i64 yj13.c), (.int .i64 yj13.d), (.int .i64 yj13.e)] 40)) (nf hS D (k := 20) (i := 19) rfl) ?_
       refine t_f1 ?_
       refine t_wF (A := (Blk b15 [(.int .i64 yj13.a), (.int .i64 yj13.b), (.int .i64 yj13.c), (.int .i64 yj13.d), (.int .i64 yj13.e)] 40)) (nf hS D (k := 20) (i := 19) rfl) ?_
       refine t_f1 (t_f5 (t_f5 (t_f5 (t_f5 (t_f5 ?_)))))
       refine t_sat (fun _ h => sat_put [_, _, _, _] h) ?_
       exact d_closes trivial 19 rfl rfl rfl hS (by exact ⟨.inl rfl, .inl rfl, .inl rfl, .inl rfl, .inl rfl, .inl rfl, .inl rfl, .inl rfl, .inl rfl, .inl rfl, .inl rfl, .inl rfl, .inl rfl, .inl rfl, .inl rfl, .inl rfl, .inl rfl, .inl rfl, .inl rfl, .inr ⟨rfl, rfl, hS⟩, .inl rfl, trivial⟩) (t_sat (fun _ h => h) (hK (yj13, b15) hf0))
     · rintro ⟨yj13, b15⟩ S hF hS D hp K hK
       try dsimp only at hF ⊢
       have hf0 := hF
       have s15 := hp 15 rfl
       have hyq14 := hf0 s15
       have s19 := hp 19 rfl
       have s17 := hp 17 rfl
       refine d_need (small := [(12, (vP b15 0)), (71, (.agg #[(.int .i64 yj13.a), (.int .i64 yj13.b), (.int .i64 yj13.c), (.int .i64 yj13.d), (.int .i64 yj13.e)]))]) ⟨look_row rfl 19 rfl s19, look_row rfl 17 rfl s17, trivial⟩ ?_
       refine t_f4 ?_
       refine t_cF hS ?_
       refine t_cT s19 ?_
       refine ts (sv_blkAgg (news := [(.int .i64 yj13.a), (.int .i64 yj13.b), (.int .i64 yj13.c), (.int .i64 yj13.d), (.int .i64 yj13.e)]) Tryz.sizeOf40 rfl rfl rfl rfl (Nat.le_of_ble_eq_true rfl) rfl) ?_
       refine t_f4 (t_f4 (t_f4 (t_f4 ?_)))
       exact d_closes0 ⟨look_row rfl 19 rfl s19, look_row rfl 17 rfl s17, trivial⟩ rfl (t_sat (fun _ h => h) (hK (yj13, b15) hf0))
     · rintro ⟨yj13, b15⟩ S hF hS D hp K hK; try dsimp only
       exact d_lv1 (lkr hp 18 rfl rfl) (lv_assign rfl) 20 rfl rfl hS (hK (yj13, b15) hF)
   · rintro ⟨yj13, b15⟩ hF
     try dsimp only at hF ⊢
     have hf0 := hF
     have hyq14 := hf0 rfl
     refine t_weak (E' := [(0, (.agg #[(.int .i64 c.bud), (.int .i64 c.slots), (.int .i64 c.act), (.int .i64 c.que), (.int .i64 c.tries), (.int .i64 c.pre), (.int .i64 c.tmo), (.int .i64 c.bak), (.int .i64 c.most), (.int .i64 c.qu)])), (1, (.slice bs2 n4 cp3)), (2, (.slice bq nq cq)), (3, (vP b1 0)), (7, (.bool true)), (8, (vP e8 0)), (9, (vP b11 0)), (10, (vN k)), (11, (vN root)), (13, (.int .i64 yj13.f)), (33, (.bool false)), (42, (.bool true))]) ⟨rfl, rfl, rfl, rfl, rfl, rfl, rfl, rfl, rfl, rfl, rfl, rfl, trivial⟩ ?_
     refine q_then_n (hK15 _ _ (c_seq (fun K16 hK16 => c_region (tp rfl (lv_move rfl) ?_))))
     by_cases h16 : yj13.f = 0
     · refine tp rfl (lv_eql rfl rfl (beq_iff_eq.2 h16)) (t_done (q_then_n (hK16 _ _ (c_true rfl (c_region ?_)))))
       obtain ⟨_, hRx⟩ := hyq14.resolve_left (fun hh => by have := hh.1; omega)
       have hRn := hRx.congr (fun t => want_set (wl := wl) (root := root) (by omega) t)
       refine tp rfl (lv_move rfl) (tp rfl (lv_indexArr (k' := root) Tryz.underlying48 Tryz.sizeOf4 rfl rfl (by omega) (by omega) (by omega)) ?_)
       refine ts (sv_blk Tryz.sizeOf4 rfl rfl rfl (by first | (simp; omega) | omega) bools_set) ?_
       refine t_done (q_in_n (q_then_n (hK13 _ _ (c_region (tp rfl (lv_move rfl) (tp rfl (lv_add (c := ((k + 1 : Nat) : Int)) rfl rfl (wr_i64_succ (by omega))) ?_))))))
       refine tp rfl (lv_assign rfl) (t_done (q_then_n (t_f4 (t_drop ?_))))
       exact t_weak (by exact ⟨rfl, rfl, rfl, rfl, rfl, rfl, rfl, rfl, rfl, trivial⟩) ((hK10 (k + 1, m + 1, yj13.T, (wl).set root true) ⟨by omega, by omega, by rw [List.length_set]; exact hwl, hRn⟩ (by dsimp only; omega)))
     · refine tp rfl (lv_eql rfl rfl (beq_eq_false_iff_ne.2 h16)) (t_done (q_then_n (hK16 _ _ (c_false rfl (c_seq (fun K17 hK17 => c_region ?_))))))
       obtain ⟨hf4, hTe, _⟩ := hyq14.resolve_right (fun hh => by have := hh.1; omega)
       refine tp rfl (lv_move rfl) (tp rfl (lv_neq rfl rfl (bne_eq_false_iff_eq.2 hf4)) (t_done (q_then_n (hK17 _ _ (c_false rfl (c_skip (q_in_n (q_then_n (hK13 _ _ (c_region (tp rfl (lv_move rfl) ?_)))))))))))
       refine tp rfl (lv_add (c := ((k + 1 : Nat) : Int)) rfl rfl (wr_i64_succ (by omega))) ?_
       refine tp rfl (lv_assign rfl) (t_done (q_then_n (t_f4 (t_drop ?_))))
       exact t_weak (by exact ⟨rfl, rfl, rfl, rfl, rfl, rfl, rfl, rfl, rfl, trivial⟩) ((hK10 (k + 1, m, yj13.T, wl) ⟨by omega, by omega, hwl, by rw [hTe]; exact hR⟩ (by dsimp only; omega)))
 · refine t_cut0 (E' := [(0, (.agg #[(.int .i64 c.bud), (.int .i64 c.slots), (.int .i64 c.act), (.int .i64 c.que), (.int .i64 c.tries), (.int .i64 c.pre), (.int .i64 c.tmo), (.int .i64 c.bak), (.int .i64 c.most), (.int .i64 c.qu)])), (1, (.slice bs2 n4 cp3)), (2, (.slice bq nq cq)), (3, (.pointer (some ⟨b1, 0, none⟩))), (7, (.bool true)), (8, (.pointer (some ⟨e8, 0, none⟩))), (9, (.pointer (some ⟨b11, 0, none⟩))), (10, (.int .i64 ((k : Nat) : Int))), (33, (.bool false)), (42, (.bool false))]) ?_ (fun KK hKK => ?_)
   ·
    refine q_then_n (hK12 _ _ (c_false rfl (c_exit (q_then_x (q_then_x (q_in_x (q_then_n (hK8 _ _ (c_seq (fun K13 hK13 => c_region (tp rfl (lv_assign rfl) ?_)))))))))))
    refine t_done (q_then_n (hK13 _ _ (c_seq (fun K14 hK14 => c_seq (fun K15 hK15 => c_region (tp rfl (lv_assign rfl) (t_done (q_then_n (hK15 _ _ (c_block ?_))))))))))
    refine c_loop (γ := (Nat) × (YT)) (fun (i, yt2) => i ≤ 20 ∧ YRest (cfgN c) (tasksF al) m (fun t => wl.getD t false = true) i yt2) (fun (i, yt2) => [(0, (.agg #[(.int .i64 c.bud), (.int .i64 c.slots), (.int .i64 c.act), (.int .i64 c.que), (.int .i64 c.tries), (.int .i64 c.pre), (.int .i64 c.tmo), (.int .i64 c.bak), (.int .i64 c.most), (.int .i64 c.qu)])), (1, (.slice bs2 n4 cp3)), (2, (.slice bq nq cq)), (3, (vP b1 0)), (7, (.bool true)), (8, (vP e8 0)), (9, (vP b11 0)), (10, (vN k)), (14, (vN i)), (15, (vN i)), (33, (.bool false)), (42, (.bool false))]) (fun (i, yt2) => (Blk b11 (bools wl) 48) :: (YardO e8 yt2) :: (SlV 57 2 (.slice bs2 n4 cp3) n4 (pairs (tasksF al))) :: (Blk b1 [(.int .i64 c.bud), (.int .i64 c.slots), (.int .i64 c.act), (.int .i64 c.que), (.int .i64 c.tries), (.int .i64 c.pre), (.int .i64 c.tmo), (.int .i64 c.bak), (.int .i64 c.most), (.int .i64 c.qu)] 23) :: R) (fun (i, yt2) => 20 - i) (0, yt) ⟨by decide, hR⟩ ⟨rfl, rfl, rfl, rfl, rfl, rfl, rfl, rfl, rfl, rfl, rfl, rfl, trivial⟩ (fun _ h => h) ?_
    rintro ⟨i, yt2⟩ K16 hF hK16
    try dsimp only at hF hK16 ⊢
    obtain ⟨hi, hR2⟩ := hF
    have htl := tasksF_len al
    have hi8 := hR2.i8
    refine c_seq (fun K17 hK17 => c_seq (fun K18 hK18 => c_region (tp rfl (lv_move rfl) (tp rfl (lv_lss rfl rfl (decide_eq_true (by omega))) ?_))))
    refine t_done (q_then_n (hK18 _ _ (c_true rfl (c_skip (q_then_n (hK17 _ _ (c_seq (fun K19 hK19 => c_block (c_seq (fun K20 hK20 => c_region (tp rfl (lv_move rfl) ?_)))))))))))
    refine tp rfl (lv_build (cs := [(.int .i64 4), (.int .i64 0), (.int .i64 0), (.int .i64 0), (.int .i64 0)]) (pl := [(0, 1), (1, 1), (2, 1), (3, 1), (4, 1)]) Tryz.underlying32 Tryz.zeroValue32 (fun _ => by simp) rfl rfl) ?_
    refine t_f1 ?_
    refine tc rfl (en_fn Tryz.call13 rfl) (yd_disp (T := yt2) (sml_N c al) hR2 (Tab.cons (Tab.cons (Tab.cons hT)))) ?_
    rintro _ _ ⟨yj17, hyq18, rfl, rfl⟩
    refine tp rfl (lv_move rfl) (tp rfl (lv_extract rfl rfl) (tp rfl (lv_extract rfl rfl) ?_))
    refine tm rfl (mv_alloc Tryz.zeroValue40 rfl) ?_
    rintro _ _ ⟨b19, rfl, rfl⟩
    refine ts (sv_blkAgg (news := [(.int .i64 yj17.a), (.int .i64 yj17.b), (.int .i64 yj17.c), (.int .i64 yj17.d), (.int .i64 yj17.e)]) Tryz.sizeOf40 rfl rfl rfl rfl (Nat.le_of_ble_eq_true rfl) rfl) ?_
    refine tp rfl (lv_assign rfl) (t_done (q_then_n (hK20 _ _ (c_seq (fun K21 hK21 => c_seq (fun K22 hK22 => c_region (tp rfl (lv_move rfl) ?_)))))))
    by_cases h20 : yj17.f = 0
    · refine tp rfl (lv_neq rfl rfl (bne_eq_false_iff_eq.2 h20)) (t_done (q_then_n (hK22 _ _ (c_false rfl (c_skip (q_then_n (hK21 _ _ (c_seq (fun K23 hK23 => c_region ?_)))))))))
      obtain ⟨hf2, _, hM⟩ := hyq18.resolve_left (fun hh => by have := hh.1; omega)
      refine tp rfl (lv_move rfl) (tp rfl (lv_fieldAddr (o' := 3) Tryz.underlying40 rfl Tryz.sizeOf3 rfl rfl) (tp rfl (lv_load Tryz.isAgg3 rfl (gives_blk (.head _) rfl)) (tp rfl (lv_fieldAddr (o' := 4) Tryz.underlying40 rfl Tryz.sizeOf3 rfl rfl) (tp rfl (lv_load Tryz.isAgg3 rfl (gives_blk (.head _) rfl)) (tp rfl (lv_build (cs := [(.int .i64 5), (.int .i64 yj17.d), (.int .i64 yj17.e), (.int .i64 1), (.int .i64 0)]) (pl := [(0, 1), (1, 1), (2, 1), (3, 1), (4, 1)]) Tryz.underlying32 Tryz.zeroValue32 (fun _ => by simp) rfl rfl) ?_)))))
      refine t_f1 ?_
      refine tc rfl (en_fn Tryz.call13 rfl) (yd_did (T := yj17.T) (sml_N c al) hM (VTab.cons (VTab.cons (VTab.cons (VTab.cons hV))))) ?_
      rintro _ _ ⟨yj21, hyq22, rfl, rfl⟩
      refine tp rfl (lv_move rfl) (tp rfl (lv_extract rfl rfl) (tp rfl (lv_extract rfl rfl) ?_))
      refine tm rfl (mv_alloc Tryz.zeroValue40 rfl) ?_
      rintro _ _ ⟨b23, rfl, rfl⟩
      refine ts (sv_blkAgg (news := [(.int .i64 yj21.a), (.int .i64 yj21.b), (.int .i64 yj21.c), (.int .i64 yj21.d), (.int .i64 yj21.e)]) Tryz.sizeOf40 rfl rfl rfl rfl (Nat.le_of_ble_eq_true rfl) rfl) ?_
      refine tp rfl (lv_assign rfl) (t_done (q_then_n (hK23 _ _ (c_seq (fun K24 hK24 => c_seq (fun K25 hK25 => c_region ?_))))))
      obtain ⟨hf3, hRd⟩ := hyq22
      refine tp rfl (lv_move rfl) (tp rfl (lv_neq rfl rfl (bne_eq_false_iff_eq.2 hf3)) (t_done (q_then_n (hK25 _ _ (c_false rfl (c_skip (q_then_n (hK24 _ _ (c_region (tp rfl (lv_move rfl) (tp rfl (lv_add (c := ((i + 1 : Nat) : Int)) rfl rfl (wr_i64_succ (by omega))) ?_)))))))))))
      refine tp rfl (lv_assign rfl) (t_done (q_in_n (q_then_n (hK19 _ _ (c_region (tp rfl (lv_move rfl) (tp rfl (lv_add (c := ((i + 1 : Nat) : Int)) rfl rfl (wr_i64_succ (by omega))) ?_)))))))
      refine tp rfl (lv_assign rfl) (t_done (q_then_n (t_drop (t_f1 (t_drop (t_f1 ?_))))))
      exact t_weak (by exact ⟨rfl, rfl, rfl, rfl, rfl, rfl, rfl, rfl, rfl, rfl, rfl, rfl, trivial⟩) ((hK16 (i + 1, yj21.T) ⟨by omega, hRd⟩ (by dsimp only; omega)))
    · refine tp rfl (lv_neq rfl rfl (bne_iff_ne.2 h20)) (t_done (q_then_n (hK22 _ _ (c_true rfl (c_exit (q_then_x ?_))))))
      refine q_in_y rfl ?_
      refine q_then_x (q_then_x (q_in_x (q_then_n (hK14 _ _ (c_seq (fun K23 hK23 => c_seq (fun K24 hK24 => c_region ?_)))))))
      obtain ⟨hf6, hTe, hae⟩ := hyq18.resolve_right (fun hh => by have := hh.1; omega)
      rw [hTe]
      obtain ⟨hdn, hrq⟩ := hR2.dr.none hae
      have hwc := want_cnt hR2 hae
      have hxn := hR2.xn
      have hxm := hR2.xm
      have hld := hR2.ld
      refine tp rfl (lv_assign rfl) (t_done (q_then_n (hK24 _ _ (c_block ?_))))
      refine c_loop (γ := (Nat) × (Nat)) (fun (t, d) => t ≤ (tasksF al).length ∧ cntB (fun u => wl.getD u false) t = d) (fun (t, d) => [(0, (.agg #[(.int .i64 c.bud), (.int .i64 c.slots), (.int .i64 c.act), (.int .i64 c.que), (.int .i64 c.tries), (.int .i64 c.pre), (.int .i64 c.tmo), (.int .i64 c.bak), (.int .i64 c.most), (.int .i64 c.qu)])), (1, (.slice bs2 n4 cp3)), (2, (.slice bq nq cq)), (3, (vP b1 0)), (7, (.bool true)), (8, (vP e8 0)), (9, (vP b11 0)), (10, (vN k)), (14, (.int .i64 (((i : Nat) : Int) - ((d : Nat) : Int)))), (15, (vN i)), (16, (vP b19 0)), (17, (.int .i64 yj17.f)), (20, (vN t)), (33, (.bool false)), (42, (.bool false)), (80, (.bool true)), (90, (.bool true))]) (fun (t, d) => (Blk b19 [(.int .i64 yj17.a), (.int .i64 yj17.b), (.int .i64 yj17.c), (.int .i64 yj17.d), (.int .i64 yj17.e)] 40) :: (YardO e8 yt2) :: (Blk b11 (bools wl) 48) :: (SlV 57 2 (.slice bs2 n4 cp3) n4 (pairs (tasksF al))) :: (Blk b1 [(.int .i64 c.bud), (.int .i64 c.slots), (.int .i64 c.act), (.int .i64 c.que), (.int .i64 c.tries), (.int .i64 c.pre), (.int .i64 c.tmo), (.int .i64 c.bak), (.int .i64 c.most), (.int .i64 c.qu)] 23) :: R) (fun (t, d) => (tasksF al).length - t) (0, 0) ⟨Nat.zero_le _, rfl⟩ ⟨rfl, rfl, rfl, rfl, rfl, rfl, rfl, rfl, (congrArg (fun z => some (Value.int .i64 z)) (show ((i : Nat) : Int) = ((i : Nat) : Int) - ((0 : Nat) : Int) by omega)), rfl, rfl, rfl, rfl, rfl, rfl, rfl, rfl, trivial⟩ (fun _ h => h) ?_
      rintro ⟨t, d⟩ K25 hF hK25
      try dsimp only at hF hK25 ⊢
      obtain ⟨ht, hd⟩ := hF
      have hdl := cntB_le (fun u => wl.getD u false) t
      refine c_seq (fun K26 hK26 => c_seq (fun K27 hK27 => c_region (tp rfl (lv_move rfl) (tp rfl (lv_move rfl) (tp rfl (lv_len Tryz.underlying24 rfl rfl) ?_)))))
      by_cases h24 : ((t : Nat) : Int) < ((n4 : Nat) : Int)
      · refine tp rfl (lv_lss rfl rfl (decide_eq_true h24)) (t_done (q_then_n (hK27 _ _ (c_true rfl (c_skip (q_then_n (hK26 _ _ (c_seq (fun K28 hK28 => c_block (c_seq (fun K29 hK29 => c_seq (fun K30 hK30 => ?_))))))))))))
        refine c_region (tp rfl (lv_move rfl) (tp rfl (lv_indexArr (k' := t) Tryz.underlying48 Tryz.sizeOf4 rfl rfl (by omega) (by omega) (by omega)) ?_))
        refine tp rfl (lv_load Tryz.isAgg4 rfl (gives_blk (.tail _ (.tail _ (.head _))) (bools_get (by first | omega | (simp; omega))))) ?_
        refine t_done (q_then_n (hK30 _ _ ?_))
        refine c_split rfl (fun c25 => ?_) (fun c25 => ?_)
        · refine c_region (tp rfl (lv_move rfl) (tp rfl (lv_sub (c := (((i : Nat) : Int) - ((d : Nat) : Int)) - 1) rfl rfl (wr_i64 (by omega) (by omega))) ?_))
          refine tp rfl (lv_assign rfl) (t_done (q_then_n (hK29 _ _ (c_seq (fun K31 hK31 => ?_)))))
          refine c_draw (γ := Unit) (n := 8) Tryz.mixed rfl rfl (fun _ S => True) (fun _ => [(0, 116, (vP e8 0)), (1, 117, (vN t)), (2, 118, (.int .i64 (yt2.y.s.stt t))), (3, 119, (.bool ((yt2.y.s.stt t) == 5))), (4, 120, (vN t)), (5, 121, (.pointer (some ⟨b11, t, none⟩))), (6, 122, (.bool ((wl).getD t false))), (7, 123, (.bool false))]) (fun _ S => (Blk b19 [(.int .i64 yj17.a), (.int .i64 yj17.b), (.int .i64 yj17.c), (.int .i64 yj17.d), (.int .i64 yj17.e)] 40) :: (YardO e8 yt2) :: (Blk b11 (bools wl) 48) :: (SlV 57 2 (.slice bs2 n4 cp3) n4 (pairs (tasksF al))) :: (Blk b1 [(.int .i64 c.bud), (.int .i64 c.slots), (.int .i64 c.act), (.int .i64 c.que), (.int .i64 c.tries), (.int .i64 c.pre), (.int .i64 c.tmo), (.int .i64 c.bak), (.int .i64 c.most), (.int .i64 c.qu)] 23) :: R) (()) trivial (fun _ h => h) (fun _ _ h => h) ?_ ?_
          · refine ⟨?_, ?_, ?_, ?_, ?_, ?_, ?_, ?_, trivial⟩
            · intro _ S h s D p K k; exact d_lv1 (look_b (t := 8) rfl rfl) (lv_move rfl) 0 rfl rfl s (k () h)
            · intro _ S h s D p K k; exact d_lv1 (look_b (t := 20) rfl rfl) (lv_move rfl) 1 rfl rfl s (k () h)
            · rintro _ S hF hS D hp K hK
              try dsimp only at hF ⊢
              have s0 := hp 0 rfl
              have s1 := hp 1 rfl
              refine d_need (small := [(116, (vP e8 0)), (117, (vN t))]) ⟨look_row rfl 0 rfl s0, look_row rfl 1 rfl s1, trivial⟩ ?_
              refine t_f1 ?_
              refine tc rfl (en_fn Tryz.call11 rfl) (yd_state (T := yt2) t (by omega)) ?_
              rintro _ _ ⟨rfl, rfl⟩
              refine t_f1 ?_
              exact d_closes ⟨look_row rfl 0 rfl s0, look_row rfl 1 rfl s1, trivial⟩ 2 rfl rfl rfl hS (AgreeR.refl _) (t_sat (fun _ h => h) (hK () trivial))
            · intro _ S h s D p K k; exact d_lv1 (lkr p 2 rfl rfl) (lv_eql rfl rfl rfl) 3 rfl rfl s (k () h)
            · intro _ S h s D p K k; exact d_lv1 (look_b (t := 20) rfl rfl) (lv_move rfl) 4 rfl rfl s (k () h)
            · rintro _ S hF hS D hp K hK; try dsimp only
              exact d_lv2 (look_b (t := 9) rfl rfl) (lkr hp 4 rfl rfl) (lv_indexArr (k' := t) Tryz.underlying48 Tryz.sizeOf4 rfl rfl (by omega) (by omega) (by omega)) 5 rfl rfl hS (hK () hF)
            · intro _ S h s D p K k; exact d_lv1 (lkr p 5 rfl rfl) (lv_load Tryz.isAgg4 rfl (gives_blk (.tail _ (.tail _ (.head _))) (bools_get (by first | omega | (simp; omega))))) 6 rfl rfl s (k () h)
            · rintro _ S hF hS D hp K hK; try dsimp only
              exact d_lv2 (lkr hp 3 rfl rfl) (lkr hp 6 rfl rfl) (lv_neb Tryz.underlying4 rfl rfl (show ((yt2.y.s.stt t == 5) != wl.getD t false) = false from by rw [show (yt2.y.s.stt t == 5) = decide (yt2.y.s.stt t = 5) from rfl, want_st hR2 hae (by omega)]; exact bne_self_eq_false _)) 7 rfl rfl hS (hK () hF)
          · rintro _ hF
            try dsimp only at hF ⊢
            refine t_weak (E' := [(0, (.agg #[(.int .i64 c.bud), (.int .i64 c.slots), (.int .i64 c.act), (.int .i64 c.que), (.int .i64 c.tries), (.int .i64 c.pre), (.int .i64 c.tmo), (.int .i64 c.bak), (.int .i64 c.most), (.int .i64 c.qu)])), (1, (.slice bs2 n4 cp3)), (2, (.slice bq nq cq)), (3, (vP b1 0)), (7, (.bool true)), (8, (vP e8 0)), (9, (vP b11 0)), (10, (vN k)), (14, (.int .i64 ((((i : Nat) : Int) - ((d : Nat) : Int)) - 1))), (15, (vN i)), (16, (vP b19 0)), (17, (.int .i64 yj17.f)), (20, (vN t)), (33, (.bool false)), (42, (.bool false)), (80, (.bool true)), (90, (.bool true)), (108, (.bool true)), (113, (.bool ((wl).getD t false))), (123, (.bool false))]) ⟨rfl, rfl, rfl, rfl, rfl, rfl, rfl, rfl, rfl, rfl, rfl, rfl, rfl, rfl, rfl, rfl, rfl, rfl, rfl, rfl, trivial⟩ ?_
            refine q_then_n (hK31 _ _ (c_false rfl (c_skip (q_in_n (q_then_n (hK28 _ _ (c_region (tp rfl (lv_move rfl) (tp rfl (lv_add (c := ((t + 1 : Nat) : Int)) rfl rfl (wr_i64_succ (by omega))) ?_)))))))))
            refine tp rfl (lv_assign rfl) (t_done (q_then_n ?_))
            exact t_weak (by exact ⟨rfl, rfl, rfl, rfl, rfl, rfl, rfl, rfl, (congrArg (fun z => some (Value.int .i64 z)) (show ((i : Nat) : Int) - ((d : Nat) : Int) - 1 = ((i : Nat) : Int) - ((d + 1 : Nat) : Int) by omega)), rfl, rfl, rfl, rfl, rfl, rfl, rfl, rfl, trivial⟩) ((hK25 (t + 1, d + 1) ⟨by omega, by show cntB (fun u => wl.getD u false) t + (if wl.getD t false = true then 1 else 0) = _; rw [if_pos (by assumption), hd]⟩ (by dsimp only; omega)))
        · refine c_skip (q_then_n (hK29 _ _ (c_seq (fun K31 hK31 => ?_))))
          refine c_draw (γ := Unit) (n := 8) Tryz.mixed rfl rfl (fun _ S => True) (fun _ => [(0, 116, (vP e8 0)), (1, 117, (vN t)), (2, 118, (.int .i64 (yt2.y.s.stt t))), (3, 119, (.bool ((yt2.y.s.stt t) == 5))), (4, 120, (vN t)), (5, 121, (.pointer (some ⟨b11, t, none⟩))), (6, 122, (.bool ((wl).getD t false))), (7, 123, (.bool false))]) (fun _ S => (Blk b19 [(.int .i64 yj17.a), (.int .i64 yj17.b), (.int .i64 yj17.c), (.int .i64 yj17.d), (.int .i64 yj17.e)] 40) :: (YardO e8 yt2) :: (Blk b11 (bools wl) 48) :: (SlV 57 2 (.slice bs2 n4 cp3) n4 (pairs (tasksF al))) :: (Blk b1 [(.int .i64 c.bud), (.int .i64 c.slots), (.int .i64 c.act), (.int .i64 c.que), (.int .i64 c.tries), (.int .i64 c.pre), (.int .i64 c.tmo), (.int .i64 c.bak), (.int .i64 c.most), (.int .i64 c.qu)] 23) :: R) (()) trivial (fun _ h => h) (fun _ _ h => h) ?_ ?_
          · refine ⟨?_, ?_, ?_, ?_, ?_, ?_, ?_, ?_, trivial⟩
            · intro _ S h s D p K k; exact d_lv1 (look_b (t := 8) rfl rfl) (lv_move rfl) 0 rfl rfl s (k () h)
            · intro _ S h s D p K k; exact d_lv1 (look_b (t := 20) rfl rfl) (lv_move rfl) 1 rfl rfl s (k () h)
            · rintro _ S hF hS D hp K hK
              try dsimp only at hF ⊢
              have s0 := hp 0 rfl
              have s1 := hp 1 rfl
              refine d_need (small := [(116, (vP e8 0)), (117, (vN t))]) ⟨look_row rfl 0 rfl s0, look_row rfl 1 rfl s1, trivial⟩ ?_
              refine t_f1 ?_
              refine tc rfl (en_fn Tryz.call11 rfl) (yd_state (T := yt2) t (by omega)) ?_
              rintro _ _ ⟨rfl, rfl⟩
              refine t_f1 ?_
              exact d_closes ⟨look_row rfl 0 rfl s0, look_row rfl 1 rfl s1, trivial⟩ 2 rfl rfl rfl hS (AgreeR.refl _) (t_sat (fun _ h => h) (hK () trivial))
            · intro _ S h s D p K k; exact d_lv1 (lkr p 2 rfl rfl) (lv_eql rfl rfl rfl) 3 rfl rfl s (k () h)
            · intro _ S h s D p K k; exact d_lv1 (look_b (t := 20) rfl rfl) (lv_move rfl) 4 rfl rfl s (k () h)
            · rintro _ S hF hS D hp K hK; try dsimp only
              exact d_lv2 (look_b (t := 9) rfl rfl) (lkr hp 4 rfl rfl) (lv_indexArr (k' := t) Tryz.underlying48 Tryz.sizeOf4 rfl rfl (by omega) (by omega) (by omega)) 5 rfl rfl hS (hK () hF)
            · intro _ S h s D p K k; exact d_lv1 (lkr p 5 rfl rfl) (lv_load Tryz.isAgg4 rfl (gives_blk (.tail _ (.tail _ (.head _))) (bools_get (by first | omega | (simp; omega))))) 6 rfl rfl s (k () h)
            · rintro _ S hF hS D hp K hK; try dsimp only
              exact d_lv2 (lkr hp 3 rfl rfl) (lkr hp 6 rfl rfl) (lv_neb Tryz.underlying4 rfl rfl (show ((yt2.y.s.stt t == 5) != wl.getD t false) = false from by rw [show (yt2.y.s.stt t == 5) = decide (yt2.y.s.stt t = 5) from rfl, want_st hR2 hae (by omega)]; exact bne_self_eq_false _)) 7 rfl rfl hS (hK () hF)
          · rintro _ hF
            try dsimp only at hF ⊢
            refine t_weak (E' := [(0, (.agg #[(.int .i64 c.bud), (.int .i64 c.slots), (.int .i64 c.act), (.int .i64 c.que), (.int .i64 c.tries), (.int .i64 c.pre), (.int .i64 c.tmo), (.int .i64 c.bak), (.int .i64 c.most), (.int .i64 c.qu)])), (1, (.slice bs2 n4 cp3)), (2, (.slice bq nq cq)), (3, (vP b1 0)), (7, (.bool true)), (8, (vP e8 0)), (9, (vP b11 0)), (10, (vN k)), (14, (.int .i64 (((i : Nat) : Int) - ((d : Nat) : Int)))), (15, (vN i)), (16, (vP b19 0)), (17, (.int .i64 yj17.f)), (20, (vN t)), (33, (.bool false)), (42, (.bool false)), (80, (.bool true)), (90, (.bool true)), (108, (.bool true)), (113, (.bool ((wl).getD t false))), (123, (.bool false))]) ⟨rfl, rfl, rfl, rfl, rfl, rfl, rfl, rfl, rfl, rfl, rfl, rfl, rfl, rfl, rfl, rfl, rfl, rfl, rfl, rfl, trivial⟩ ?_
            refine q_then_n (hK31 _ _ (c_false rfl (c_skip (q_in_n (q_then_n (hK28 _ _ (c_region (tp rfl (lv_move rfl) (tp rfl (lv_add (c := ((t + 1 : Nat) : Int)) rfl rfl (wr_i64_succ (by omega))) ?_)))))))))
            refine tp rfl (lv_assign rfl) (t_done (q_then_n ?_))
            exact t_weak (by exact ⟨rfl, rfl, rfl, rfl, rfl, rfl, rfl, rfl, rfl, rfl, rfl, rfl, rfl, rfl, rfl, rfl, rfl, trivial⟩) ((hK25 (t + 1, d) ⟨by omega, by show cntB (fun u => wl.getD u false) t + (if wl.getD t false = true then 1 else 0) = _; rw [if_neg (by rw [Bool.not_eq_true]; assumption), Nat.add_zero, hd]⟩ (by dsimp only; omega)))
      · refine tp rfl (lv_lss rfl rfl (decide_eq_false h24)) (t_done (q_then_n (hK27 _ _ (c_false rfl (c_exit (q_then_x (q_then_x (q_in_x (q_then_n (hK23 _ _ (c_seq (fun K28 hK28 => ?_))))))))))))
        refine c_seq (fun K29 hK29 => c_region (tp rfl (lv_assign rfl) (t_done (q_then_n (hK29 _ _ (c_block ?_))))))
        refine c_loop (γ := (Nat)) (fun (r : Nat) => r ≤ m) (fun (r : Nat) => [(0, (.agg #[(.int .i64 c.bud), (.int .i64 c.slots), (.int .i64 c.act), (.int .i64 c.que), (.int .i64 c.tries), (.int .i64 c.pre), (.int .i64 c.tmo), (.int .i64 c.bak), (.int .i64 c.most), (.int .i64 c.qu)])), (1, (.slice bs2 n4 cp3)), (2, (.slice bq nq cq)), (3, (vP b1 0)), (7, (.bool true)), (8, (vP e8 0)), (9, (vP b11 0)), (10, (vN k)), (14, (.int .i64 (((i : Nat) : Int) - ((d : Nat) : Int)))), (15, (vN i)), (16, (vP b19 0)), (17, (.int .i64 yj17.f)), (20, (vN t)), (21, (vN r)), (33, (.bool false)), (42, (.bool false)), (80, (.bool true)), (90, (.bool true)), (108, (.bool false))]) (fun (r : Nat) => (Blk b19 [(.int .i64 yj17.a), (.int .i64 yj17.b), (.int .i64 yj17.c), (.int .i64 yj17.d), (.int .i64 yj17.e)] 40) :: (YardO e8 yt2) :: (Blk b11 (bools wl) 48) :: (SlV 57 2 (.slice bs2 n4 cp3) n4 (pairs (tasksF al))) :: (Blk b1 [(.int .i64 c.bud), (.int .i64 c.slots), (.int .i64 c.act), (.int .i64 c.que), (.int .i64 c.tries), (.int .i64 c.pre), (.int .i64 c.tmo), (.int .i64 c.bak), (.int .i64 c.most), (.int .i64 c.qu)] 23) :: R) (fun (r : Nat) => m - r) (0) (Nat.zero_le _) ⟨rfl, rfl, rfl, rfl, rfl, rfl, rfl, rfl, rfl, rfl, rfl, rfl, rfl, rfl, rfl, rfl, rfl, rfl, rfl, trivial⟩ (fun _ h => h) ?_
        rintro r K30 hF hK30
        try dsimp only at hF hK30 ⊢
        refine c_seq (fun K31 hK31 => c_seq (fun K32 hK32 => c_region ?_))
        by_cases hc26 : ((r : Nat) : Int) < ((yt2.x.m : Nat) : Int) ∧ ((r : Nat) : Int) < 64
        · have hc26a := hc26.1
          have hc26b := hc26.2
          refine tp rfl (lv_move rfl) (tp rfl (lv_move rfl) (t_f1 ?_))
          refine tc rfl (en_fn Tryz.call15 rfl) (yd_requests (T := yt2)) ?_
          rintro _ _ ⟨rfl, rfl⟩
          refine tp rfl (lv_lss rfl rfl (decide_eq_true hc26.1)) (tp rfl (lv_move rfl) ?_)
          refine t_guard rfl rfl ?_
          refine tp rfl (lv_move rfl) ?_
          refine t_guard rfl rfl ?_
          refine tp rfl (lv_lss rfl rfl (decide_eq_true hc26.2)) (tp rfl (lv_pick_t rfl rfl) (t_done (q_then_n (hK32 _ _ (c_true rfl (c_skip (q_then_n (hK31 _ _ (c_seq (fun K33 hK33 => c_block (c_seq (fun K34 hK34 => ?_))))))))))))
          refine c_region (tp rfl (lv_move rfl) (tp rfl (lv_move rfl) ?_))
          refine tc rfl (en_fn Tryz.call16 rfl) (yd_request (T := yt2) r (by omega)) ?_
          rintro _ _ ⟨rfl, rfl⟩
          refine tp rfl (lv_move rfl) (tp rfl (lv_extract rfl rfl) (tp rfl (lv_extract rfl rfl) (tp rfl (lv_extract rfl rfl) ?_)))
          refine tm rfl (mv_alloc Tryz.zeroValue51 rfl) ?_
          rintro _ _ ⟨b27, rfl, rfl⟩
          refine ts (sv_blkAgg (news := [(.int .i64 ((yt2.y.s.rq.getD r Rq.z).root)), (.int .i64 ((yt2.y.s.rq.getD r Rq.z).wt)), (.int .i64 ((yt2.y.s.rq.getD r Rq.z).pr))]) Tryz.sizeOf51 rfl rfl rfl rfl (Nat.le_of_ble_eq_true rfl) rfl) ?_
          refine tp rfl (lv_assign rfl) (tp rfl (lv_assign rfl) (t_done (q_then_n (hK34 _ _ (c_seq (fun K35 hK35 => c_region (tp rfl (lv_move rfl) (tp rfl (lv_neq rfl rfl (bne_eq_false_iff_eq.2 (hrq r (by omega)))) ?_))))))))
          refine t_done (q_then_n (hK35 _ _ (c_false rfl (c_skip (q_in_n (q_then_n (hK33 _ _ (c_region (tp rfl (lv_move rfl) (tp rfl (lv_add (c := ((r + 1 : Nat) : Int)) rfl rfl (wr_i64_succ (by omega))) ?_))))))))))
          refine tp rfl (lv_assign rfl) (t_done (q_then_n (t_drop (t_f1 ?_))))
          exact t_weak (by exact ⟨rfl, rfl, rfl, rfl, rfl, rfl, rfl, rfl, rfl, rfl, rfl, rfl, rfl, rfl, rfl, rfl, rfl, rfl, rfl, trivial⟩) ((hK30 (r + 1) (by omega) (by omega)))
        · refine t_cut0 (E' := [(0, (.agg #[(.int .i64 c.bud), (.int .i64 c.slots), (.int .i64 c.act), (.int .i64 c.que), (.int .i64 c.tries), (.int .i64 c.pre), (.int .i64 c.tmo), (.int .i64 c.bak), (.int .i64 c.most), (.int .i64 c.qu)])), (1, (.slice bs2 n4 cp3)), (2, (.slice bq nq cq)), (3, (.pointer (some ⟨b1, 0, none⟩))), (7, (.bool true)), (8, (.pointer (some ⟨e8, 0, none⟩))), (9, (.pointer (some ⟨b11, 0, none⟩))), (10, (.int .i64 ((k : Nat) : Int))), (14, (.int .i64 (((i : Nat) : Int) - ((d : Nat) : Int)))), (15, (.int .i64 ((i : Nat) : Int))), (16, (.pointer (some ⟨b19, 0, none⟩))), (17, (.int .i64 yj17.f)), (20, (.int .i64 ((t : Nat) : Int))), (21, (.int .i64 ((r : Nat) : Int))), (33, (.bool false)), (42, (.bool false)), (80, (.bool true)), (90, (.bool true)), (108, (.bool false)), (131, (.bool false))]) ?_ (fun KK hKK => ?_)
          ·
           refine q_then_n (hK32 _ _ (c_false rfl (c_exit (q_then_x (q_then_x (q_in_x (q_then_n (hK28 _ _ (c_seq (fun K33 hK33 => c_region (tp rfl (lv_move rfl) ?_)))))))))))
           refine tp rfl (lv_move rfl) ?_
           refine t_guard rfl rfl ?_
           refine tp rfl (lv_move rfl) ?_
           refine t_guard rfl rfl ?_
           refine tp rfl (lv_eql rfl rfl (beq_iff_eq.2 (by have e9 : t = (tasksF al).length := (by omega); rw [e9] at hd; omega))) ?_
           refine tp rfl (lv_pick_t rfl rfl) (tp rfl (lv_move rfl) ?_)
           refine t_guard rfl rfl ?_
           refine tp rfl (lv_move rfl) ?_
           refine t_guard rfl rfl ?_
           refine t_f1 ?_
           refine tc rfl (en_fn Tryz.call17 rfl) (yd_used (T := yt2)) ?_
           rintro _ _ ⟨rfl, rfl⟩
           refine t_guard rfl rfl ?_
           refine tp rfl (lv_eql rfl rfl (beq_iff_eq.2 (by rw [hld]; rfl))) ?_
           refine tp rfl (lv_pick_t rfl rfl) (tp rfl (lv_assign rfl) (t_done (q_then_n (hK33 _ _ (c_ret (t_drop (t_drop (t_drop (t_drop (t_drop ?_))))))))))
           refine q_ret rfl rfl ?_
           exact ⟨rfl, rfl⟩
          · by_cases hc26A : ((r : Nat) : Int) < ((yt2.x.m : Nat) : Int)
            ·
             have hc26B : ¬ (((r : Nat) : Int) < 64) := fun hh => hc26 ⟨hc26A, hh⟩
             refine tp rfl (lv_move rfl) (tp rfl (lv_move rfl) (t_f1 ?_))
             refine tc rfl (en_fn Tryz.call15 rfl) (yd_requests (T := yt2)) ?_
             rintro _ _ ⟨rfl, rfl⟩
             refine tp rfl (lv_lss rfl rfl (decide_eq_true hc26A)) (tp rfl (lv_move rfl) ?_)
             refine t_guard rfl rfl ?_
             refine tp rfl (lv_move rfl) ?_
             refine t_guard rfl rfl ?_
             refine tp rfl (lv_lss rfl rfl (decide_eq_false hc26B)) (tp rfl (lv_pick_t rfl rfl) (t_f1 ?_))
             exact t_done (t_weak (by exact ⟨rfl, rfl, rfl, rfl, rfl, rfl, rfl, rfl, rfl, rfl, rfl, rfl, rfl, rfl, rfl, rfl, rfl, rfl, rfl, rfl, trivial⟩) hKK)
            ·
             refine tp rfl (lv_move rfl) (tp rfl (lv_move rfl) (t_f1 ?_))
             refine tc rfl (en_fn Tryz.call15 rfl) (yd_requests (T := yt2)) ?_
             rintro _ _ ⟨rfl, rfl⟩
             refine tp rfl (lv_lss rfl rfl (decide_eq_false hc26A)) (tp rfl (lv_move rfl) ?_)
             refine t_skip rfl rfl rfl ?_
             refine t_skip rfl rfl rfl ?_
             refine tp rfl (lv_pick_f rfl rfl) (t_f1 ?_)
             exact t_done (t_weak (by exact ⟨rfl, rfl, rfl, rfl, rfl, rfl, rfl, rfl, rfl, rfl, rfl, rfl, rfl, rfl, rfl, rfl, rfl, rfl, rfl, rfl, trivial⟩) hKK)
   · by_cases hc12A : ((k : Nat) : Int) < ((nq : Nat) : Int)
     ·
      have hc12B : ¬ (((k : Nat) : Int) < 10) := fun hh => hc12 ⟨hc12A, hh⟩
      refine tp rfl (lv_move rfl) (tp rfl (lv_move rfl) (tp rfl (lv_len Tryz.underlying47 rfl rfl) (tp rfl (lv_lss rfl rfl (decide_eq_true hc12A)) (tp rfl (lv_move rfl) ?_))))
      refine t_guard rfl rfl ?_
      refine tp rfl (lv_move rfl) ?_
      refine t_guard rfl rfl ?_
      refine tp rfl (lv_lss rfl rfl (decide_eq_false hc12B)) (tp rfl (lv_pick_t rfl rfl) ?_)
      exact t_done (t_weak (by exact ⟨rfl, rfl, rfl, rfl, rfl, rfl, rfl, rfl, rfl, rfl, trivial⟩) hKK)
     ·
      refine tp rfl (lv_move rfl) (tp rfl (lv_move rfl) (tp rfl (lv_len Tryz.underlying47 rfl rfl) (tp rfl (lv_lss rfl rfl (decide_eq_false hc12A)) (tp rfl (lv_move rfl) ?_))))
      refine t_skip rfl rfl rfl ?_
      refine t_skip rfl rfl rfl ?_
      refine tp rfl (lv_pick_f rfl rfl) ?_
      exact t_done (t_weak (by exact ⟨rfl, rfl, rfl, rfl, rfl, rfl, rfl, rfl, rfl, rfl, trivial⟩) hKK)
end Go.Proofs.YtanfdikglplkaaaGreatDoor
