/- Parts Ek, Ei, Pa, Pb: own lemmas and contracts of the code that the claim reaches. -/
import Derived.Test.YtanfdikglplkaaaGreatDoorM03
import Derived.Test.YtanfdikglplkaaaGreatDoorM22
import Derived.Test.YtanfdikglplkaaaGreatDoorM20
import Derived.Test.YtanfdikglplkaaaGreatDoorM09
import Derived.Test.YtanfdikglplkaaaGreatDoorM17
import Derived.Test.YtanfdikglplkaaaGreatDoorM10
import Derived.Test.YtanfdikglplkaaaGreatDoorM04
set_option linter.unusedSimpArgs false
set_option linter.unusedVariables false
set_option maxRecDepth 100000
namespace Go.Proofs.YtanfdikglplkaaaGreatDoor
open Go Go.Proofs Sp
set_option maxHeartbeats 4000000 in
theorem did_ok {R : List HP} {e : Nat} {x : EP} {q A Q : Int} {y : OS} {vr n hp : Nat} {es : Es} {ks : Ks} {ld : Led} {okd od : Int} (sl ep : Int) (hab : ld.atB sl = true) (hai : 0 ≤ ld.atI sl ∧ ld.atI sl < x.n) (hst : (y.s.lf.getD (ld.atI sl).toNat Lf.z).st = 2) (hep : ep = (y.s.lf.getD (ld.atI sl).toNat Lf.z).ep) (hl : y.s.lg.length ≤ 1000000000) (hy : OvOk x.n x.m A Q y) (hA : A ≤ 400 ∧ Q ≤ 400) (hV : VTab vr R) :
    Ok Tryz.prog 29 [(.pointer (some ⟨e, 0, none⟩)), (.agg #[(.int .i64 okd), (.int .i64 sl), (.int .i64 ep), (.int .i64 1), (.int .i64 od)])] ((EngC e x y.s) :: (LedO x.ld ld) :: (Blk x.tp [(.pointer (some ⟨hp, 0, none⟩))] 132) :: (HeapO hp n ks) :: (GraphO x.g x.n es) :: (TurnsO x.tn q y.ms y.ta) :: (AdmO x.ad A Q y.as) :: R)
      (fun u M => ∃ (t : Nat) (sf : ES) (z : OS), ld.atI sl = t ∧ Foll es (didS y.s ld t) sf ∧ Ov { y with s := sf } z ∧ z.calm ∧ u = .tuple #[.agg #[.int .i64 0, .int .i64 (z.s.lf.getD t Lf.z).st, .int .i64 ((t : Nat) : Int), .int .i64 0, .int .i64 0], .int .i64 0] ∧ M = EngC e x z.s :: LedO x.ld (ld.drop ((t : Nat) : Int)) :: Blk x.tp [.pointer (some ⟨hp, 0, none⟩)] 132 :: HeapO hp n (remK ks ((t : Nat) : Int)) :: GraphO x.g x.n es :: TurnsO x.tn q z.ms z.ta :: AdmO x.ad A Q z.as :: R) := by
 refine ok_of (N := 120) Tryz.func29 rfl rfl rfl (fun W => ?_)
 refine t_learn (fun _ h => ef_of h) (fun hE => ?_)
 have hE_nb := hE.nb
 have hE_mb := hE.mb
 have hE_tn := hE.tn
 have hE_ln := hE.ln
 have hE_mn := hE.mn
 refine c_seq (fun K1 hK1 => c_region ?_)
 refine tm rfl (mv_box rfl rfl) ?_
 rintro _ _ ⟨b1, rfl, rfl⟩
 refine tm rfl (mv_alloc Tryz.zeroValue40 rfl) ?_
 rintro _ _ ⟨b2, rfl, rfl⟩
 refine tp rfl (lv_assign rfl) (t_done (q_then_n (hK1 _ _ (c_seq (fun K2 hK2 => ?_)))))
 refine c_draw (γ := Unit) (n := 12) Tryz.mixed rfl rfl (fun _ S => True) (fun _ => [(0, 9, (vP e 0)), (1, 10, (vP e 0)), (2, 11, (vP e 15)), (3, 12, (vP x.ld 0)), (4, 13, (vP b1 1)), (5, 14, (.int .i64 sl)), (6, 15, (.tuple #[(.int .i64 (ld.atI sl)), (.bool true)])), (7, 8, (.tuple #[(.int .i64 (ld.atI sl)), (.bool true)])), (8, 16, (.int .i64 (ld.atI sl))), (9, 17, (.bool true)), (10, 6, (.int .i64 (ld.atI sl))), (11, 7, (.bool true))]) (fun _ S => (Blk b2 [(.int .i64 0), (.int .i64 0), (.int .i64 0), (.int .i64 0), (.int .i64 0)] 40) :: (Blk b1 [(.int .i64 okd), (.int .i64 sl), (.int .i64 ep), (.int .i64 1), (.int .i64 od)] 32) :: (EngC e x y.s) :: (LedO x.ld ld) :: (Blk x.tp [(vP hp 0)] 132) :: (HeapO hp n ks) :: (GraphO x.g x.n es) :: (TurnsO x.tn q y.ms y.ta) :: (AdmO x.ad A Q y.as) :: R) (()) trivial (fun _ h => h) (fun _ _ h => h) ?_ ?_
 · refine ⟨?_, ?_, ?_, ?_, ?_, ?_, ?_, ?_, ?_, ?_, ?_, ?_, trivial⟩
   · intro _ S h s D p K k; exact d_lv1 (look_b (t := 0) rfl rfl) (lv_move rfl) 0 rfl rfl s (k () h)
   · intro _ S h s D p K k; exact d_lv1 (lkr p 0 rfl rfl) (lv_nilCheck rfl) 1 rfl rfl s (k () h)
   · intro _ S h s D p K k; exact d_lv1 (lkr p 1 rfl rfl) (lv_fieldAddr (o' := 15) Tryz.underlying73 rfl Tryz.sizeOf69 rfl rfl) 2 rfl rfl s (k () h)
   · intro _ S h s D p K k; exact d_lv1 (lkr p 2 rfl rfl) (lv_load Tryz.isAgg69 rfl (gives_e (v := (.pointer (some ⟨x.ld, 0, none⟩))) (.tail _ (.tail _ (.head _))) (fun _ _ => rfl))) 3 rfl rfl s (k () h)
   · intro _ S h s D p K k; exact d_lv1 (look_b (t := 3) rfl rfl) (lv_fieldAddr (o' := 1) Tryz.underlying32 rfl Tryz.sizeOf3 rfl rfl) 4 rfl rfl s (k () h)
   · intro _ S h s D p K k; exact d_lv1 (lkr p 4 rfl rfl) (lv_load Tryz.isAgg3 rfl (gives_blk (.tail _ (.head _)) rfl)) 5 rfl rfl s (k () h)
   · rintro _ S hF hS D hp K hK
     try dsimp only at hF ⊢
     have s3 := hp 3 rfl
     have s5 := hp 5 rfl
     refine d_need (small := [(12, (vP x.ld 0)), (14, (.int .i64 sl))]) ⟨look_row rfl 3 rfl s3, look_row rfl 5 rfl s5, trivial⟩ ?_
     refine t_f3 ?_
     refine tc rfl (en_fn Tryz.call61 rfl) (lat_ok (d := ld) sl) ?_
     rintro _ _ ⟨rfl, rfl⟩
     rw [show ld.atB sl = true from hab]
     refine t_f3 (t_f3 (t_f3 ?_))
     exact d_closes ⟨look_row rfl 3 rfl s3, look_row rfl 5 rfl s5, trivial⟩ 6 rfl rfl rfl hS (AgreeR.refl _) (t_sat (fun _ h => h) (hK () trivial))
   · intro _ S h s D p K k; exact d_lv1 (lkr p 6 rfl rfl) (lv_move rfl) 7 rfl rfl s (k () h)
   · intro _ S h s D p K k; exact d_lv1 (lkr p 7 rfl rfl) (lv_extract rfl rfl) 8 rfl rfl s (k () h)
   · intro _ S h s D p K k; exact d_lv1 (lkr p 7 rfl rfl) (lv_extract rfl rfl) 9 rfl rfl s (k () h)
   · intro _ S h s D p K k; exact d_lv1 (lkr p 8 rfl rfl) (lv_assign rfl) 10 rfl rfl s (k () h)
   · intro _ S h s D p K k; exact d_lv1 (lkr p 9 rfl rfl) (lv_assign rfl) 11 rfl rfl s (k () h)
 · rintro _ hF
   try dsimp only at hF ⊢
   refine t_weak (E' := [(0, (vP e 0)), (1, (.agg #[(.int .i64 okd), (.int .i64 sl), (.int .i64 ep), (.int .i64 1), (.int .i64 od)])), (3, (vP b1 0)), (4, (vP b2 0)), (5, (.int .i64 0)), (6, (.int .i64 (ld.atI sl))), (7, (.bool true))]) ⟨rfl, rfl, rfl, rfl, rfl, rfl, rfl, trivial⟩ ?_
   refine q_then_n (hK2 _ _ (c_seq (fun K3 hK3 => c_block (c_seq (fun K4 hK4 => c_region (tp rfl (lv_move rfl) (tp rfl (lv_not (c := false) rfl rfl) (tp rfl (lv_assign rfl) (t_done (q_then_n (hK4 _ _ ?_)))))))))))
   refine c_false rfl (c_seq (fun K5 hK5 => ?_))
   obtain ⟨t, hat⟩ : ∃ t : Nat, ld.atI sl = (t : Int) := ⟨(ld.atI sl).toNat, by omega⟩
   rw [hat] at hai hst hep ⊢
   have htn : t < x.n := by omega
   rw [Int.toNat_natCast] at hst hep
   refine c_draw (γ := Unit) (n := 15) Tryz.mixed rfl rfl (fun _ S => True) (fun _ => [(0, 23, (vP e 0)), (1, 24, (vP e 0)), (2, 25, (vP e 11)), (3, 26, (.slice x.bt x.n x.ct)), (4, 27, (vN t)), (5, 28, (.pointer (some (ad x.bt t)))), (6, 29, (.pointer (some ⟨(x.ks.getD t (0, 0)).1, 0, none⟩))), (7, 30, (.pointer (some ⟨(x.ks.getD t (0, 0)).1, 0, none⟩))), (8, 31, (.pointer (some ⟨(x.ks.getD t (0, 0)).1, 2, none⟩))), (9, 32, (.pointer (some ⟨(x.ks.getD t (0, 0)).2, 0, none⟩))), (10, 33, (vP b1 2)), (11, 34, (.int .i64 ep)), (12, 35, (.int .i64 0)), (13, 36, (.bool false)), (14, 22, (.bool false))]) (fun _ S => (Blk b2 [(.int .i64 0), (.int .i64 0), (.int .i64 0), (.int .i64 0), (.int .i64 0)] 40) :: (Blk b1 [(.int .i64 okd), (.int .i64 sl), (.int .i64 ep), (.int .i64 1), (.int .i64 od)] 32) :: (EngC e x y.s) :: (LedO x.ld ld) :: (Blk x.tp [(vP hp 0)] 132) :: (HeapO hp n ks) :: (GraphO x.g x.n es) :: (TurnsO x.tn q y.ms y.ta) :: (AdmO x.ad A Q y.as) :: R) (()) trivial (fun _ h => h) (fun _ _ h => h) ?_ ?_
   · refine ⟨?_, ?_, ?_, ?_, ?_, ?_, ?_, ?_, ?_, ?_, ?_, ?_, ?_, ?_, ?_, trivial⟩
     · intro _ S h s D p K k; exact d_lv1 (look_b (t := 0) rfl rfl) (lv_move rfl) 0 rfl rfl s (k () h)
     · intro _ S h s D p K k; exact d_lv1 (lkr p 0 rfl rfl) (lv_nilCheck rfl) 1 rfl rfl s (k () h)
     · intro _ S h s D p K k; exact d_lv1 (lkr p 1 rfl rfl) (lv_fieldAddr (o' := 11) Tryz.underlying73 rfl Tryz.sizeOf65 rfl rfl) 2 rfl rfl s (k () h)
     · intro _ S h s D p K k; exact d_lv1 (lkr p 2 rfl rfl) (lv_load Tryz.isAgg65 rfl (gives_e (v := (.slice x.bt x.n x.ct)) (.tail _ (.tail _ (.head _))) (fun _ _ => rfl))) 3 rfl rfl s (k () h)
     · intro _ S h s D p K k; exact d_lv1 (look_b (t := 6) rfl rfl) (lv_move rfl) 4 rfl rfl s (k () h)
     · rintro _ S hF hS D hp K hK; try dsimp only
       exact d_lv2 (lkr hp 3 rfl rfl) (lkr hp 4 rfl rfl) (lv_indexAddr (k' := t) Tryz.underlying65 Tryz.sizeOf64 rfl rfl hE.okt (by omega) (by omega) (by omega)) 5 rfl rfl hS (hK () hF)
     · intro _ S h s D p K k; exact d_lv1 (lkr p 5 rfl rfl) (lv_load Tryz.isAgg64 rfl (gives_bt (i := t) (.tail _ (.tail _ (.head _))) (by omega))) 6 rfl rfl s (k () h)
     · intro _ S h s D p K k; exact d_lv1 (lkr p 6 rfl rfl) (lv_nilCheck rfl) 7 rfl rfl s (k () h)
     · intro _ S h s D p K k; exact d_lv1 (lkr p 7 rfl rfl) (lv_fieldAddr (o' := 2) Tryz.underlying76 rfl Tryz.sizeOf74 rfl rfl) 8 rfl rfl s (k () h)
     · intro _ S h s D p K k; exact d_lv1 (lkr p 8 rfl rfl) (lv_load Tryz.isAgg74 rfl (gives_tk (i := t) (v := (.pointer (some ⟨(x.ks.getD t (0, 0)).2, 0, none⟩))) (.tail _ (.tail _ (.head _))) (by omega) rfl)) 9 rfl rfl s (k () h)
     · intro _ S h s D p K k; exact d_lv1 (look_b (t := 3) rfl rfl) (lv_fieldAddr (o' := 2) Tryz.underlying32 rfl Tryz.sizeOf3 rfl rfl) 10 rfl rfl s (k () h)
     · intro _ S h s D p K k; exact d_lv1 (lkr p 10 rfl rfl) (lv_load Tryz.isAgg3 rfl (gives_blk (.tail _ (.head _)) rfl)) 11 rfl rfl s (k () h)
     · rintro _ S hF hS D hp K hK
       try dsimp only at hF ⊢
       have s9 := hp 9 rfl
       have s11 := hp 11 rfl
       refine d_need (small := [(32, (.pointer (some ⟨(x.ks.getD t (0, 0)).2, 0, none⟩))), (34, (.int .i64 ep))]) ⟨look_row rfl 9 rfl s9, look_row rfl 11 rfl s11, trivial⟩ ?_
       refine t_f2 ?_
       refine tc rfl (en_fn Tryz.call62 rfl) (ok_life0 (i := t) (by omega) (fun _ => lRight_ok _ ep)) ?_
       rintro _ _ ⟨rfl, rfl⟩
       rw [show rightE (y.s.lf.getD t Lf.z) ep = 0 from if_pos ⟨hst, hep⟩]
       refine t_f2 (t_f2 ?_)
       exact d_closes ⟨look_row rfl 9 rfl s9, look_row rfl 11 rfl s11, trivial⟩ 12 rfl rfl rfl hS (AgreeR.refl _) (t_sat (fun _ h => h) (hK () trivial))
     · intro _ S h s D p K k; exact d_lv1 (lkr p 12 rfl rfl) (lv_neq (r := false) rfl rfl (by decide)) 13 rfl rfl s (k () h)
     · intro _ S h s D p K k; exact d_lv1 (lkr p 13 rfl rfl) (lv_assign rfl) 14 rfl rfl s (k () h)
   · rintro _ hF
     try dsimp only at hF ⊢
     refine t_weak (E' := [(0, (vP e 0)), (1, (.agg #[(.int .i64 okd), (.int .i64 sl), (.int .i64 ep), (.int .i64 1), (.int .i64 od)])), (3, (vP b1 0)), (4, (vP b2 0)), (5, (.int .i64 0)), (6, (vN t)), (7, (.bool true)), (18, (.bool false)), (22, (.bool false))]) ⟨rfl, rfl, rfl, rfl, rfl, rfl, rfl, rfl, rfl, trivial⟩ ?_
     refine q_then_n (hK5 _ _ (c_false rfl (c_seq (fun K6 hK6 => c_region (tp rfl (lv_fieldAddr (o' := 3) Tryz.underlying32 rfl Tryz.sizeOf3 rfl rfl) (tp rfl (lv_load Tryz.isAgg3 rfl (gives_blk (.tail _ (.head _)) rfl)) (tp rfl (lv_lss (r := false) rfl rfl (by decide)) ?_)))))))
     refine tp rfl (lv_move rfl) ?_
     refine t_guard rfl rfl ?_
     refine tp rfl (lv_fieldAddr (o' := 3) Tryz.underlying32 rfl Tryz.sizeOf3 rfl rfl) ?_
     refine t_guard rfl rfl ?_
     refine tp rfl (lv_load Tryz.isAgg3 rfl (gives_blk (.tail _ (.head _)) rfl)) ?_
     refine t_guard rfl rfl ?_
     refine tp rfl (lv_gtr (r := false) rfl rfl (by decide)) ?_
     refine tp rfl (lv_pick_f rfl rfl) (tp rfl (lv_move rfl) ?_)
     refine t_guard rfl rfl ?_
     refine tp rfl (lv_fieldAddr (o' := 3) Tryz.underlying32 rfl Tryz.sizeOf3 rfl rfl) ?_
     refine t_guard rfl rfl ?_
     refine tp rfl (lv_load Tryz.isAgg3 rfl (gives_blk (.tail _ (.head _)) rfl)) ?_
     refine t_guard rfl rfl ?_
     refine tp rfl (lv_eql (r := false) rfl rfl (by decide)) ?_
     refine t_guard rfl rfl ?_
     refine tp rfl (lv_move rfl) ?_
     refine t_skip rfl rfl rfl ?_
     refine t_skip rfl rfl rfl ?_
     refine t_skip rfl rfl rfl ?_
     refine t_skip rfl rfl rfl ?_
     refine t_skip rfl rfl rfl ?_
     refine t_guard rfl rfl ?_
     refine tp rfl (lv_pick_f rfl rfl) (tp rfl (lv_pick_f rfl rfl) (tp rfl (lv_assign rfl) (t_done (q_then_n (hK6 _ _ (c_false rfl (c_skip (q_in_n (q_then_n (hK3 _ _ (c_seq (fun K7 hK7 => ?_))))))))))))
     refine c_region (tp rfl (lv_move rfl) (tp rfl (lv_fieldAddr (o' := 3) Tryz.underlying32 rfl Tryz.sizeOf3 rfl rfl) (tp rfl (lv_load Tryz.isAgg3 rfl (gives_blk (.tail _ (.head _)) rfl)) (tp rfl (lv_add (c := 3) rfl rfl (by decide)) ?_))))
     refine tp rfl (lv_sub (c := 2) rfl rfl (by decide)) ?_
     refine tp rfl (lv_move rfl) (t_f5 (t_f5 (t_f5 (t_f5 ?_))))
     refine tc rfl (en_fn Tryz.call49 rfl) (ends_ok (x := x) (s := y.s) (ld := ld) (ks := ks) 2 t (by omega) hl) ?_
     rintro _ _ ⟨rfl, rfl⟩
     refine t_done (q_then_n (hK7 _ _ (c_seq (fun K8 hK8 => c_block (c_seq (fun K9 hK9 => c_region (tp rfl (lv_fieldAddr (o' := 3) Tryz.underlying32 rfl Tryz.sizeOf3 rfl rfl) (tp rfl (lv_load Tryz.isAgg3 rfl (gives_blk (.tail _ (.tail _ (.tail _ (.tail _ (.tail _ (.head _)))))) rfl)) (tp rfl (lv_eql (r := true) rfl rfl (by decide)) ?_)))))))))
     refine tp rfl (lv_assign rfl) (t_done (q_then_n (hK9 _ _ (c_true rfl (c_seq (fun K10 hK10 => c_region (tp rfl (lv_move rfl) (tp rfl (lv_nilCheck rfl) (tp rfl (lv_fieldAddr (o' := 11) Tryz.underlying73 rfl Tryz.sizeOf65 rfl rfl) (tp rfl (lv_load Tryz.isAgg65 rfl (gives_e (v := (.slice x.bt x.n x.ct)) (.head _) (fun _ _ => rfl))) ?_))))))))))
     refine tp rfl (lv_move rfl) (tp rfl (lv_indexAddr (k' := t) Tryz.underlying65 Tryz.sizeOf64 rfl rfl hE.okt (by omega) (by omega) (by omega)) ?_)
     refine tp rfl (lv_load Tryz.isAgg64 rfl (gives_bt (i := t) (.head _) (by omega))) ?_
     refine tp rfl (lv_nilCheck rfl) (tp rfl (lv_fieldAddr (o' := 2) Tryz.underlying76 rfl Tryz.sizeOf74 rfl rfl) (tp rfl (lv_load Tryz.isAgg74 rfl (gives_tk (i := t) (v := (.pointer (some ⟨(x.ks.getD t (0, 0)).2, 0, none⟩))) (.head _) (by omega) rfl)) ?_))
     refine tc rfl (en_fn Tryz.call63 rfl) (ok_life (i := t) (y := endL (y.s.lf.getD t Lf.z)) (by omega) (fun h => h.end_) (fun h _ => lEnd_ok _ h)) ?_
     rintro _ _ ⟨rfl, rfl⟩
     refine t_done (q_then_n (hK10 _ _ (c_region (tp rfl (lv_move rfl) (tp rfl (lv_move rfl) (t_f8 (t_f8 (t_f8 (t_f3 ?_)))))))))
     refine tc rfl (en_fn Tryz.call64 rfl) (settle_ok (x := x) (y := ⟨(y.s.addLg (noteV y.s ld 2 ((t : Nat) : Int))).lfu t endL, y.ms, y.ta, y.as⟩) (A := A) (Q := Q) t (by omega) (hy.fol rfl) hA (VTab.cons (VTab.cons (VTab.cons (VTab.cons (VTab.cons hV)))))) ?_
     rintro _ _ ⟨sf4, yo3, hsf4f, hyo3v, hyo3c, rfl, rfl⟩
     refine t_done (q_in_n (q_then_n (hK8 _ _ (c_seq (fun K11 hK11 => c_region ?_)))))
     refine t_learn (fun _ h => ef_of h) (fun hE => ?_)
     have hE_nb := hE.nb
     have hE_mb := hE.mb
     have hE_tn := hE.tn
     have hE_ln := hE.ln
     have hE_mn := hE.mn
     refine tp rfl (lv_move rfl) (tp rfl (lv_move rfl) (tp rfl (lv_nilCheck rfl) (tp rfl (lv_fieldAddr (o' := 11) Tryz.underlying73 rfl Tryz.sizeOf65 rfl rfl) (tp rfl (lv_load Tryz.isAgg65 rfl (gives_e (v := (.slice x.bt x.n x.ct)) (.head _) (fun _ _ => rfl))) (tp rfl (lv_move rfl) (tp rfl (lv_indexAddr (k' := t) Tryz.underlying65 Tryz.sizeOf64 rfl rfl hE.okt (by omega) (by omega) (by omega)) ?_))))))
     refine tp rfl (lv_load Tryz.isAgg64 rfl (gives_bt (i := t) (.head _) (by omega))) ?_
     refine tp rfl (lv_nilCheck rfl) (tp rfl (lv_fieldAddr (o' := 2) Tryz.underlying76 rfl Tryz.sizeOf74 rfl rfl) (tp rfl (lv_load Tryz.isAgg74 rfl (gives_tk (i := t) (v := (.pointer (some ⟨(x.ks.getD t (0, 0)).2, 0, none⟩))) (.head _) (by omega) rfl)) ?_))
     refine tc rfl (en_fn Tryz.call23 rfl) (ok_life0 (i := t) (by omega) (fun _ => lState_ok _)) ?_
     rintro _ _ ⟨rfl, rfl⟩
     refine tp rfl (lv_build (cs := [(.int .i64 0), (.int .i64 ((yo3.s.lf.getD t Lf.z).st)), (.int .i64 ((t : Nat) : Int)), (.int .i64 0), (.int .i64 0)]) (pl := [(0, 1), (1, 1), (2, 1), (3, 1), (4, 1)]) Tryz.underlying40 Tryz.zeroValue40 (fun _ => by simp) rfl rfl) ?_
     refine t_f7 ?_
     refine ts (sv_blkAgg (news := [(.int .i64 0), (.int .i64 ((yo3.s.lf.getD t Lf.z).st)), (.int .i64 ((t : Nat) : Int)), (.int .i64 0), (.int .i64 0)]) Tryz.sizeOf40 rfl rfl rfl rfl (Nat.le_of_ble_eq_true rfl) rfl) ?_
     refine tp rfl (lv_assign rfl) (t_done (q_then_n (hK11 _ _ (c_ret (t_f8 (t_drop (t_f4 (t_f4 (t_f4 (t_f7 ?_))))))))))
     refine t_f7 (t_f7 (t_f7 (t_f7 ?_)))
     refine q_retc2 (cs := [(.int .i64 0), (.int .i64 ((yo3.s.lf.getD t Lf.z).st)), (.int .i64 ((t : Nat) : Int)), (.int .i64 0), (.int .i64 0)]) rfl rfl rfl Tryz.isAgg40 Tryz.sizeOf40 (gives_all5 (gives_blk (.head _) rfl) (gives_blk (.head _) rfl) (gives_blk (.head _) rfl) (gives_blk (.head _) rfl) (gives_blk (.head _) rfl)) (fun _ h => h.drop) ?_
     exact ⟨t, sf4, yo3, hat, hsf4f, hyo3v, hyo3c, rfl, rfl⟩
end Go.Proofs.YtanfdikglplkaaaGreatDoor
set_option maxRecDepth 100000
namespace Go.Proofs.YtanfdikglplkaaaGreatDoor
open Go Go.Proofs Sp
set_option maxHeartbeats 4000000 in
theorem starts_ok {R : List HP} {e : Nat} {x : EP} {s : ES} {ld : Led} {ks : Ks} {hp n : Nat} (r : Int) (t : Nat) (ht : t < x.n) (h0 : ld.takeE ((t : Nat) : Int) (s.tk.getD t Tk.z).mem = 0) (hz : ∀ i, (ld.ps.getD i Pl.z).h = false → (ld.ps.getD i Pl.z).mem = 0) (hl : s.lg.length ≤ 1000000000) (hb : 0 ≤ s.bg ∧ s.bg ≤ 1000000000000) (he : (s.lf.getD t Lf.z).ep ≤ 1000000000000) (hc : 0 ≤ s.c.tmo ∧ s.c.tmo ≤ 1048576) :
    Ok Tryz.prog 60 [(.pointer (some ⟨e, 0, none⟩)), (.int .i64 r), (.int .i64 ((t : Nat) : Int))] ((EngC e x s) :: (LedO x.ld ld) :: (Blk x.tp [(.pointer (some ⟨hp, 0, none⟩))] 132) :: (HeapO hp n ks) :: R)
      (fun v M => v = .tuple #[.agg #[.int .i64 r, .int .i64 0, .int .i64 ((t : Nat) : Int), .int .i64 (ld.takeV ((t : Nat) : Int) (s.tk.getD t Tk.z).mem), .int .i64 ((startS s ld t).lf.getD t Lf.z).ep], .int .i64 0] ∧ M = EngC e x (startS s ld t) :: LedO x.ld (ld.take ((t : Nat) : Int) (s.tk.getD t Tk.z).mem) :: Blk x.tp [.pointer (some ⟨hp, 0, none⟩)] 132 :: HeapO hp n (startK s ks t) :: R) := by
 refine ok_of (N := 83) Tryz.func60 rfl rfl rfl (fun W => ?_)
 refine t_learn (fun _ h => ef_of h) (fun hE => ?_)
 have hE_nb := hE.nb
 have hE_mb := hE.mb
 have hE_tn := hE.tn
 have hE_ln := hE.ln
 have hE_mn := hE.mn
 have hn0 := hE.n0
 refine c_seq (fun K1 hK1 => c_region ?_)
 refine tm rfl (mv_alloc Tryz.zeroValue40 rfl) ?_
 rintro _ _ ⟨b1, rfl, rfl⟩
 refine tp rfl (lv_assign rfl) (t_done (q_then_n (hK1 _ _ (c_seq (fun K2 hK2 => c_region (tp rfl (lv_move rfl) (tp rfl (lv_nilCheck rfl) (tp rfl (lv_fieldAddr (o' := 11) Tryz.underlying73 rfl Tryz.sizeOf65 rfl rfl) (tp rfl (lv_load Tryz.isAgg65 rfl (gives_e (v := (.slice x.bt x.n x.ct)) (.tail _ (.head _)) (fun _ _ => rfl))) (tp rfl (lv_move rfl) ?_))))))))))
 refine tp rfl (lv_indexAddr (k' := t) Tryz.underlying65 Tryz.sizeOf64 rfl rfl hE.okt (by omega) (by omega) (by omega)) ?_
 refine tp rfl (lv_load Tryz.isAgg64 rfl (gives_bt (i := t) (.tail _ (.head _)) (by omega))) ?_
 refine tp rfl (lv_assign rfl) (t_done (q_then_n (hK2 _ _ (c_seq (fun K3 hK3 => ?_)))))
 refine c_draw (γ := Unit) (n := 16) Tryz.mixed rfl rfl (fun _ S => True) (fun _ => [(0, 19, (vP e 0)), (1, 20, (vP e 0)), (2, 21, (vP e 15)), (3, 22, (vP x.ld 0)), (4, 23, (vN t)), (5, 24, (.pointer (some ⟨(x.ks.getD t (0, 0)).1, 0, none⟩))), (6, 25, (.pointer (some ⟨(x.ks.getD t (0, 0)).1, 0, none⟩))), (7, 26, (.pointer (some ⟨(x.ks.getD t (0, 0)).1, 0, none⟩))), (8, 27, (.pointer (some ⟨(x.ks.getD t (0, 0)).1, 0, none⟩))), (9, 28, (.int .i64 ((s.tk.getD t Tk.z).mem))), (10, 29, (.tuple #[(.int .i64 (ld.takeV ((t : Nat) : Int) ((s.tk.getD t Tk.z).mem))), (.int .i64 (ld.takeE ((t : Nat) : Int) ((s.tk.getD t Tk.z).mem)))])), (11, 18, (.tuple #[(.int .i64 (ld.takeV ((t : Nat) : Int) ((s.tk.getD t Tk.z).mem))), (.int .i64 (ld.takeE ((t : Nat) : Int) ((s.tk.getD t Tk.z).mem)))])), (12, 30, (.int .i64 (ld.takeV ((t : Nat) : Int) ((s.tk.getD t Tk.z).mem)))), (13, 31, (.int .i64 (ld.takeE ((t : Nat) : Int) ((s.tk.getD t Tk.z).mem)))), (14, 9, (.int .i64 (ld.takeV ((t : Nat) : Int) ((s.tk.getD t Tk.z).mem)))), (15, 10, (.int .i64 (ld.takeE ((t : Nat) : Int) ((s.tk.getD t Tk.z).mem))))]) (fun _ S => (Blk b1 [(.int .i64 0), (.int .i64 0), (.int .i64 0), (.int .i64 0), (.int .i64 0)] 40) :: (EngC e x s) :: (bif S 10 then (LedO x.ld (ld.take ((t : Nat) : Int) ((s.tk.getD t Tk.z).mem))) else (LedO x.ld ld)) :: (Blk x.tp [(vP hp 0)] 132) :: (HeapO hp n ks) :: R) (()) trivial (fun _ h => h) (fun _ _ h => h) ?_ ?_
 · refine ⟨?_, ?_, ?_, ?_, ?_, ?_, ?_, ?_, ?_, ?_, ?_, ?_, ?_, ?_, ?_, ?_, trivial⟩
   · intro _ S h s D p K k; exact d_lv1 (look_b (t := 0) rfl rfl) (lv_move rfl) 0 rfl rfl s (k () h)
   · intro _ S h s D p K k; exact d_lv1 (lkr p 0 rfl rfl) (lv_nilCheck rfl) 1 rfl rfl s (k () h)
   · intro _ S h s D p K k; exact d_lv1 (lkr p 1 rfl rfl) (lv_fieldAddr (o' := 15) Tryz.underlying73 rfl Tryz.sizeOf69 rfl rfl) 2 rfl rfl s (k () h)
   · intro _ S h s D p K k; exact d_lv1 (lkr p 2 rfl rfl) (lv_load Tryz.isAgg69 rfl (gives_e (v := (.pointer (some ⟨x.ld, 0, none⟩))) (.tail _ (.head _)) (fun _ _ => rfl))) 3 rfl rfl s (k () h)
   · intro _ S h s D p K k; exact d_lv1 (look_b (t := 2) rfl rfl) (lv_move rfl) 4 rfl rfl s (k () h)
   · intro _ S h s D p K k; exact d_lv1 (look_b (t := 8) rfl rfl) (lv_move rfl) 5 rfl rfl s (k () h)
   · intro _ S h s D p K k; exact d_lv1 (lkr p 5 rfl rfl) (lv_nilCheck rfl) 6 rfl rfl s (k () h)
   · intro _ S h s D p K k; exact d_lv1 (lkr p 6 rfl rfl) (lv_fieldAddr (o' := 0) Tryz.underlying76 rfl Tryz.sizeOf57 rfl rfl) 7 rfl rfl s (k () h)
   · intro _ S h s D p K k; exact d_lv1 (lkr p 7 rfl rfl) (lv_fieldAddr (o' := 0) Tryz.underlying57 rfl Tryz.sizeOf3 rfl rfl) 8 rfl rfl s (k () h)
   · rintro _ S hF hS D hp K hK; try dsimp only
     exact d_lv1 (lkr hp 8 rfl rfl) (lv_load Tryz.isAgg3 rfl (gives_tk (i := t) (v := (.int .i64 ((s.tk.getD t Tk.z).mem))) (.tail _ (.head _)) (by omega) rfl)) 9 rfl rfl hS (hK () hF)
   · rintro _ S hF hS D hp K hK
     try dsimp only at hF ⊢
     have s3 := hp 3 rfl
     have s4 := hp 4 rfl
     have s9 := hp 9 rfl
     refine d_need (small := [(22, (vP x.ld 0)), (23, (vN t)), (28, (.int .i64 ((s.tk.getD t Tk.z).mem)))]) ⟨look_row rfl 3 rfl s3, look_row rfl 4 rfl s4, look_row rfl 9 rfl s9, trivial⟩ ?_
     refine t_f2 ?_
     refine t_cF hS ?_
     refine tc rfl (en_fn Tryz.call107 rfl) (ltake_ok (d := ld) hz ((t : Nat) : Int) ((s.tk.getD t Tk.z).mem)) ?_
     rintro _ _ ⟨rfl, rfl⟩
     refine t_f2 (t_f2 ?_)
     exact d_closes ⟨look_row rfl 3 rfl s3, look_row rfl 4 rfl s4, look_row rfl 9 rfl s9, trivial⟩ 10 rfl rfl rfl hS (AgreeR.refl _) (t_sat (fun _ h => h) (hK () trivial))
   · intro _ S h s D p K k; exact d_lv1 (lkr p 10 rfl rfl) (lv_move rfl) 11 rfl rfl s (k () h)
   · intro _ S h s D p K k; exact d_lv1 (lkr p 11 rfl rfl) (lv_extract rfl rfl) 12 rfl rfl s (k () h)
   · intro _ S h s D p K k; exact d_lv1 (lkr p 11 rfl rfl) (lv_extract rfl rfl) 13 rfl rfl s (k () h)
   · intro _ S h s D p K k; exact d_lv1 (lkr p 12 rfl rfl) (lv_assign rfl) 14 rfl rfl s (k () h)
   · intro _ S h s D p K k; exact d_lv1 (lkr p 13 rfl rfl) (lv_assign rfl) 15 rfl rfl s (k () h)
 · rintro _ hF
   try dsimp only at hF ⊢
   refine t_weak (E' := [(0, (vP e 0)), (1, (.int .i64 r)), (2, (vN t)), (6, (vP b1 0)), (7, (.int .i64 0)), (8, (.pointer (some ⟨(x.ks.getD t (0, 0)).1, 0, none⟩))), (9, (.int .i64 (ld.takeV ((t : Nat) : Int) ((s.tk.getD t Tk.z).mem)))), (10, (.int .i64 (ld.takeE ((t : Nat) : Int) ((s.tk.getD t Tk.z).mem))))]) ⟨rfl, rfl, rfl, rfl, rfl, rfl, rfl, rfl, trivial⟩ ?_
   refine q_then_n (hK3 _ _ (c_seq (fun K4 hK4 => c_seq (fun K5 hK5 => c_region (tp rfl (lv_move rfl) (tp rfl (lv_neq rfl rfl (bne_eq_false_iff_eq.2 h0)) (t_done (q_then_n (hK5 _ _ (c_false rfl (c_skip ?_)))))))))))
   refine q_then_n (hK4 _ _ (c_seq (fun K6 hK6 => c_region (tp rfl (lv_move rfl) (tp rfl (lv_nilCheck rfl) (tp rfl (lv_fieldAddr (o' := 2) Tryz.underlying76 rfl Tryz.sizeOf74 rfl rfl) (tp rfl (lv_load Tryz.isAgg74 rfl (gives_tk (i := t) (v := (.pointer (some ⟨(x.ks.getD t (0, 0)).2, 0, none⟩))) (.tail _ (.head _)) (by omega) rfl)) ?_)))))))
   refine t_f1 ?_
   refine tc rfl (en_fn Tryz.call108 rfl) (ok_life (i := t) (y := startL (s.lf.getD t Lf.z)) (by omega) (fun h => h.start) (fun h _ => lStart_ok _ h (by omega))) ?_
   rintro _ _ ⟨rfl, rfl⟩
   refine t_done (q_then_n (hK6 _ _ (c_seq (fun K7 hK7 => c_region (tp rfl (lv_move rfl) (tp rfl (lv_move rfl) (tp rfl (lv_nilCheck rfl) (tp rfl (lv_fieldAddr (o' := 19) Tryz.underlying73 rfl Tryz.sizeOf3 rfl rfl) (tp rfl (lv_load Tryz.isAgg3 rfl (gives_e (v := (.int .i64 s.bg)) (.head _) (fun _ _ => rfl))) (tp rfl (lv_nilCheck rfl) ?_))))))))))
   refine tp rfl (lv_fieldAddr (o' := 4) Tryz.underlying76 rfl Tryz.sizeOf3 rfl rfl) ?_
   refine ts (sv_tk (i := t) (o := 4) (z := { (s.tk.getD t Tk.z) with sn := s.bg }) (by omega) rfl (by decide) rfl Tryz.sizeOf3 rfl rfl) ?_
   refine t_done (q_then_n (hK7 _ _ (c_seq (fun K8 hK8 => c_region (tp rfl (lv_move rfl) (tp rfl (lv_nilCheck rfl) (tp rfl (lv_fieldAddr (o' := 19) Tryz.underlying73 rfl Tryz.sizeOf3 rfl rfl) (tp rfl (lv_load Tryz.isAgg3 rfl (gives_e (v := (.int .i64 s.bg)) (.head _) (fun _ _ => rfl))) (tp rfl (lv_add (c := s.bg + 1) rfl rfl (wr_i64 (by omega) (by omega))) ?_)))))))))
   refine tp rfl (lv_nilCheck rfl) (tp rfl (lv_fieldAddr (o' := 19) Tryz.underlying73 rfl Tryz.sizeOf3 rfl rfl) ?_)
   refine ts (sv_bg Tryz.sizeOf3 rfl rfl) ?_
   refine t_done (q_then_n (hK8 _ _ (c_seq (fun K9 hK9 => ?_))))
   refine c_draw (γ := Unit) (n := 16) Tryz.mixed rfl rfl (fun _ S => True) (fun _ => [(0, 55, (vP e 0)), (1, 56, (vP e 0)), (2, 57, (vP e 14)), (3, 58, (vP x.tp 0)), (4, 59, (vN t)), (5, 60, (vP e 0)), (6, 61, (vP e 0)), (7, 62, (vP e 18)), (8, 63, (.int .i64 s.now)), (9, 64, (vP e 0)), (10, 65, (vP e 0)), (11, 66, (vP e 0)), (12, 67, (vP e 6)), (13, 68, (.int .i64 s.c.tmo)), (14, 69, (.int .i64 (s.now + s.c.tmo))), (15, 70, (.int .i64 (pushE (remK ks ((t : Nat) : Int)) ((t : Nat) : Int))))]) (fun _ S => (EngC e x (((s.lfu t startL).setTk t ({ (s.tk.getD t Tk.z) with sn := s.bg })).setBg (s.bg + 1))) :: (Blk b1 [(.int .i64 0), (.int .i64 0), (.int .i64 0), (.int .i64 0), (.int .i64 0)] 40) :: (LedO x.ld (ld.take ((t : Nat) : Int) ((s.tk.getD t Tk.z).mem))) :: (Blk x.tp [(vP hp 0)] 132) :: (bif S 15 then (HeapO hp n (pushK (remK ks ((t : Nat) : Int)) ((t : Nat) : Int) (s.now + s.c.tmo))) else (HeapO hp n ks)) :: R) (()) trivial (fun _ h => h) (fun _ _ h => h) ?_ ?_
   · refine ⟨?_, ?_, ?_, ?_, ?_, ?_, ?_, ?_, ?_, ?_, ?_, ?_, ?_, ?_, ?_, ?_, trivial⟩
     · intro _ S h s D p K k; exact d_lv1 (look_b (t := 0) rfl rfl) (lv_move rfl) 0 rfl rfl s (k () h)
     · intro _ S h s D p K k; exact d_lv1 (lkr p 0 rfl rfl) (lv_nilCheck rfl) 1 rfl rfl s (k () h)
     · intro _ S h s D p K k; exact d_lv1 (lkr p 1 rfl rfl) (lv_fieldAddr (o' := 14) Tryz.underlying73 rfl Tryz.sizeOf68 rfl rfl) 2 rfl rfl s (k () h)
     · intro _ S h s D p K k; exact d_lv1 (lkr p 2 rfl rfl) (lv_load Tryz.isAgg68 rfl (gives_e (v := (.pointer (some ⟨x.tp, 0, none⟩))) (.head _) (fun _ _ => rfl))) 3 rfl rfl s (k () h)
     · intro _ S h s D p K k; exact d_lv1 (look_b (t := 2) rfl rfl) (lv_move rfl) 4 rfl rfl s (k () h)
     · intro _ S h s D p K k; exact d_lv1 (look_b (t := 0) rfl rfl) (lv_move rfl) 5 rfl rfl s (k () h)
     · intro _ S h s D p K k; exact d_lv1 (lkr p 5 rfl rfl) (lv_nilCheck rfl) 6 rfl rfl s (k () h)
     · intro _ S h s D p K k; exact d_lv1 (lkr p 6 rfl rfl) (lv_fieldAddr (o' := 18) Tryz.underlying73 rfl Tryz.sizeOf3 rfl rfl) 7 rfl rfl s (k () h)
     · rintro _ S hF hS D hp K hK; try dsimp only
       exact d_lv1 (lkr hp 7 rfl rfl) (lv_load Tryz.isAgg3 rfl (gives_e (v := (.int .i64 s.now)) (.head _) (fun _ _ => rfl))) 8 rfl rfl hS (hK () hF)
     · intro _ S h s D p K k; exact d_lv1 (look_b (t := 0) rfl rfl) (lv_move rfl) 9 rfl rfl s (k () h)
     · intro _ S h s D p K k; exact d_lv1 (lkr p 9 rfl rfl) (lv_nilCheck rfl) 10 rfl rfl s (k () h)
     · intro _ S h s D p K k; exact d_lv1 (lkr p 10 rfl rfl) (lv_fieldAddr (o' := 0) Tryz.underlying73 rfl Tryz.sizeOf23 rfl rfl) 11 rfl rfl s (k () h)
     · intro _ S h s D p K k; exact d_lv1 (lkr p 11 rfl rfl) (lv_fieldAddr (o' := 6) Tryz.underlying23 rfl Tryz.sizeOf3 rfl rfl) 12 rfl rfl s (k () h)
     · rintro _ S hF hS D hp K hK; try dsimp only
       exact d_lv1 (lkr hp 12 rfl rfl) (lv_load Tryz.isAgg3 rfl (gives_e (v := (.int .i64 s.c.tmo)) (.head _) (fun _ _ => rfl))) 13 rfl rfl hS (hK () hF)
     · rintro _ S hF hS D hp K hK; try dsimp only
       exact d_lv2 (lkr hp 8 rfl rfl) (lkr hp 13 rfl rfl) (lv_add (c := s.now + s.c.tmo) rfl rfl (wr_i64 (by omega) (by omega))) 14 rfl rfl hS (hK () hF)
     · rintro _ S hF hS D hp K hK
       try dsimp only at hF ⊢
       have s3 := hp 3 rfl
       have s4 := hp 4 rfl
       have s14 := hp 14 rfl
       refine d_need (small := [(58, (vP x.tp 0)), (59, (vN t)), (69, (.int .i64 (s.now + s.c.tmo)))]) ⟨look_row rfl 3 rfl s3, look_row rfl 4 rfl s4, look_row rfl 14 rfl s14, trivial⟩ ?_
       refine t_f4 ?_
       refine t_cF hS ?_
       refine t_f4 ?_
       refine tc rfl (en_fn Tryz.call86 rfl) (tset_ok (n := n) (ks := ks) ((t : Nat) : Int) (s.now + s.c.tmo)) ?_
       rintro _ _ ⟨rfl, rfl⟩
       refine t_f1 (t_f1 (t_f4 (t_f4 (t_f4 ?_))))
       exact d_closes ⟨look_row rfl 3 rfl s3, look_row rfl 4 rfl s4, look_row rfl 14 rfl s14, trivial⟩ 15 rfl rfl rfl hS (AgreeR.refl _) (t_sat (fun _ h => h) (hK () trivial))
   · rintro _ hF
     try dsimp only at hF ⊢
     refine t_weak (E' := [(0, (vP e 0)), (1, (.int .i64 r)), (2, (vN t)), (6, (vP b1 0)), (7, (.int .i64 0)), (8, (.pointer (some ⟨(x.ks.getD t (0, 0)).1, 0, none⟩))), (9, (.int .i64 (ld.takeV ((t : Nat) : Int) ((s.tk.getD t Tk.z).mem)))), (10, (.int .i64 (ld.takeE ((t : Nat) : Int) ((s.tk.getD t Tk.z).mem)))), (33, (.bool false))]) ⟨rfl, rfl, rfl, rfl, rfl, rfl, rfl, rfl, rfl, trivial⟩ ?_
     refine q_then_n (hK9 _ _ (c_seq (fun K10 hK10 => c_region (tp rfl (lv_move rfl) (tp rfl (lv_move rfl) (t_f2 (t_f1 ?_)))))))
     refine tc rfl (en_fn Tryz.call82 rfl) (notes_ok (x := x) (s := ((s.lfu t startL).setTk t ({ (s.tk.getD t Tk.z) with sn := s.bg })).setBg (s.bg + 1)) (ld := ld.take ((t : Nat) : Int) ((s.tk.getD t Tk.z).mem)) 1 t (by omega) hl) ?_
     rintro _ _ ⟨rfl, rfl⟩
     refine t_done (q_then_n (hK10 _ _ (c_seq (fun K11 hK11 => c_region (tp rfl (lv_move rfl) (tp rfl (lv_move rfl) (tp rfl (lv_move rfl) (tp rfl (lv_move rfl) (tp rfl (lv_nilCheck rfl) (tp rfl (lv_fieldAddr (o' := 2) Tryz.underlying76 rfl Tryz.sizeOf74 rfl rfl) ?_))))))))))
     refine tp rfl (lv_load Tryz.isAgg74 rfl (gives_tk (i := t) (v := (.pointer (some ⟨(x.ks.getD t (0, 0)).2, 0, none⟩))) (.head _) (by omega) rfl)) ?_
     refine tc rfl (en_fn Tryz.call109 rfl) (ok_life0 (i := t) (by omega) (fun _ => lEpoch_ok _)) ?_
     rintro _ _ ⟨rfl, rfl⟩
     refine tp rfl (lv_build (cs := [(.int .i64 r), (.int .i64 0), (.int .i64 ((t : Nat) : Int)), (.int .i64 (ld.takeV ((t : Nat) : Int) ((s.tk.getD t Tk.z).mem))), (.int .i64 (((s.lfu t startL).lf.getD t Lf.z).ep))]) (pl := [(0, 1), (1, 1), (2, 1), (3, 1), (4, 1)]) Tryz.underlying40 Tryz.zeroValue40 (fun _ => by simp) rfl rfl) ?_
     refine t_f2 ?_
     refine ts (sv_blkAgg (news := [(.int .i64 r), (.int .i64 0), (.int .i64 ((t : Nat) : Int)), (.int .i64 (ld.takeV ((t : Nat) : Int) ((s.tk.getD t Tk.z).mem))), (.int .i64 (((s.lfu t startL).lf.getD t Lf.z).ep))]) Tryz.sizeOf40 rfl rfl rfl rfl (Nat.le_of_ble_eq_true rfl) rfl) ?_
     refine tp rfl (lv_assign rfl) (t_done (q_then_n (hK11 _ _ (c_ret ?_))))
     refine q_retc2 (cs := [(.int .i64 r), (.int .i64 0), (.int .i64 ((t : Nat) : Int)), (.int .i64 (ld.takeV ((t : Nat) : Int) ((s.tk.getD t Tk.z).mem))), (.int .i64 (((s.lfu t startL).lf.getD t Lf.z).ep))]) rfl rfl rfl Tryz.isAgg40 Tryz.sizeOf40 (gives_all5 (gives_blk (.head _) rfl) (gives_blk (.head _) rfl) (gives_blk (.head _) rfl) (gives_blk (.head _) rfl) (gives_blk (.head _) rfl)) (fun _ h => h.drop) ?_
     exact ⟨rfl, rfl⟩
end Go.Proofs.YtanfdikglplkaaaGreatDoor
set_option maxRecDepth 100000
namespace Go.Proofs.YtanfdikglplkaaaGreatDoor
open Go Go.Proofs Sp
set_option maxHeartbeats 4000000 in
theorem best_ok {R : List HP} {bx bb : Option Addr} {cx cy n1 n2 m : Nat} (xs ys : List Int) (h1 : n1 ≤ xs.length) (h2 : n2 ≤ ys.length) (hm : m = min n1 n2) (hx : Rd R bx (ints .i64 xs)) (hy : Rd R bb (ints .i64 ys)) (okx : SlOk bx n1) (oky : SlOk bb n2) (lx : n1 ≤ 1000000) (ly : n2 ≤ 1000000) (hcy : n2 ≤ cy) :
    Ok Tryz.prog 53 [(.slice bx n1 cx), (.slice bb n2 cy)] R
      (fun v M => ∃ bs cp, SlOk bs (bestN xs ys m).2.length ∧ (bestN xs ys m).2.length ≤ cp ∧ v = .tuple #[.int .i64 (bestN xs ys m).1, .slice bs (bestN xs ys m).2.length cp] ∧ M = SlV 3 1 (.slice bs (bestN xs ys m).2.length cp) (bestN xs ys m).2.length (ints .i64 (bestN xs ys m).2) :: R) := by
 refine ok_of (N := 45) Tryz.func53 rfl rfl rfl (fun W => ?_)
 refine c_seq (fun K1 hK1 => c_region (tp rfl (lv_assign rfl) (tp rfl (lv_assign rfl) (t_done (q_then_n (hK1 _ _ (c_seq (fun K2 hK2 => c_region (tp rfl (lv_assign rfl) (t_done ?_))))))))))
 refine q_then_n (hK2 _ _ (c_seq (fun K3 hK3 => c_seq (fun K4 hK4 => c_region (tp rfl (lv_move rfl) (tp rfl (lv_move rfl) (tp rfl (lv_len Tryz.underlying34 rfl rfl) (tp rfl (lv_move rfl) (tp rfl (lv_len Tryz.underlying34 rfl rfl) (tp rfl (lv_min (c := ((m : Nat) : Int)) rfl rfl (by omega)) ?_))))))))))
 refine tp rfl (lv_slice (l := 0) (h := m) (m := cy) (v := (.slice bb m cy)) Tryz.underlying34 Tryz.sizeOf3 rfl rfl rfl rfl (.inr ⟨rfl, rfl⟩) (.inl ⟨_, _, rfl, (by omega), (by omega), (by omega)⟩) (.inr ⟨rfl, rfl⟩) (by simp) (by rw [sbase_zero]; rfl)) ?_
 refine tp rfl (lv_len Tryz.underlying34 rfl rfl) (tp rfl (lv_move rfl) (t_done (q_then_n (hK4 _ _ (c_block ?_)))))
 refine t_sat (fun _ h => sat_nilsl 3 1 h) ?_
 refine c_loop (γ := (Nat) × (Int) × (List Int) × (Option Addr) × (Nat)) (fun (k, p, ts, bt, ct) => k ≤ m ∧ bestN xs ys k = (p, ts) ∧ SlOk bt ts.length ∧ ts.length ≤ ct) (fun (k, p, ts, bt, ct) => [(0, (.slice bx n1 cx)), (1, (.slice bb n2 cy)), (4, (.int .i64 p)), (5, (.slice bt ts.length ct)), (14, (.slice bb m cy)), (15, (vN m)), (16, (vN k))]) (fun (k, p, ts, bt, ct) => (SlV 3 1 (.slice bt ts.length ct) ts.length (ints .i64 ts)) :: R) (fun (k, p, ts, bt, ct) => m - k) (0, (-1), [], none, 0) ⟨by omega, rfl, slok_none, Nat.le_refl _⟩ ⟨rfl, rfl, rfl, rfl, rfl, rfl, rfl, trivial⟩ (fun _ h => h) ?_
 rintro ⟨k, p, ts, bt, ct⟩ K5 hF hK5
 try dsimp only at hF hK5 ⊢
 obtain ⟨hk, hb, hok, hle⟩ := hF
 have htl : ts.length ≤ k := by have := bestN_len xs ys k; rw [hb] at this; exact this
 refine c_seq (fun K6 hK6 => c_region ?_)
 by_cases h1 : ((k : Nat) : Int) < ((m : Nat) : Int)
 · refine tp rfl (lv_lss rfl rfl (decide_eq_true h1)) (t_done (q_then_n (hK6 _ _ (c_seq (fun K7 hK7 => c_true rfl (c_skip (q_then_n (hK7 _ _ (c_seq (fun K8 hK8 => c_block (c_seq (fun K9 hK9 => ?_))))))))))))
   refine c_region (tp rfl (lv_move rfl) (tp rfl (lv_indexAddr (k' := k) Tryz.underlying34 Tryz.sizeOf3 rfl rfl (fun hz => oky (by omega)) (by omega) (by omega) (by omega)) ?_))
   refine tp rfl (lv_load Tryz.isAgg3 rfl (Rd.gives (Rd.cons hy) (ints_get (by first | omega | (simp; omega))))) ?_
   refine tp rfl (lv_assign rfl) (tp rfl (lv_assign rfl) (t_done (q_then_n (hK9 _ _ (c_block (c_seq (fun K10 hK10 => c_block (c_seq (fun K11 hK11 => c_block (c_seq (fun K12 hK12 => ?_)))))))))))
   refine c_block (c_seq (fun K13 hK13 => c_seq (fun K14 hK14 => c_seq (fun K15 hK15 => c_region (tp rfl (lv_move rfl) (tp rfl (lv_move rfl) (tp rfl (lv_indexAddr (k' := k) Tryz.underlying34 Tryz.sizeOf3 rfl rfl okx (by omega) (by omega) (by omega)) ?_)))))))
   refine tp rfl (lv_load Tryz.isAgg3 rfl (Rd.gives (Rd.cons hx) (ints_get (by first | omega | (simp; omega))))) ?_
   by_cases hst : ((xs).getD k 0) = 1
   · refine tp rfl (lv_neq rfl rfl (bne_eq_false_iff_eq.2 hst)) (tp rfl (lv_move rfl) ?_)
     refine t_guard rfl rfl ?_
     refine tp rfl (lv_move rfl) ?_
     refine t_guard rfl rfl ?_
     refine tp rfl (lv_move rfl) ?_
     refine t_guard rfl rfl ?_
     refine tp rfl (lv_max (c := max p 0) rfl rfl rfl) ?_
     refine t_guard rfl rfl ?_
     by_cases hlt : ((ys).getD k 0) < (max p 0)
     · refine tp rfl (lv_lss rfl rfl (decide_eq_true hlt)) (tp rfl (lv_pick_f rfl rfl) (tp rfl (lv_assign rfl) (t_done (q_then_n (hK15 _ _ (c_true rfl (c_exit (q_then_x (q_then_x (q_in_x ?_))))))))))
       refine q_then_n (hK12 _ _ (c_seq (fun K16 hK16 => c_exit (q_then_x ?_))))
       refine q_in_y rfl ?_
       refine q_then_x ?_
       refine q_in_y rfl ?_
       refine q_then_x ?_
       refine q_in_y rfl ?_
       refine q_in_x (q_then_n (hK8 _ _ (c_region (tp rfl (lv_add (c := ((k + 1 : Nat) : Int)) rfl rfl (wr_i64_succ (by omega))) ?_))))
       refine tp rfl (lv_move rfl) (t_done (q_then_n ?_))
       exact t_weak (by exact ⟨rfl, rfl, rfl, rfl, rfl, rfl, rfl, trivial⟩) ((hK5 (k + 1, p, ts, bt, ct) ⟨by omega, best_no hb (fun hh => by first | exact hst hh.1 | exact hh.2 hlt), hok, hle⟩ (by omega)))
     · refine tp rfl (lv_lss rfl rfl (decide_eq_false hlt)) (tp rfl (lv_pick_f rfl rfl) (tp rfl (lv_assign rfl) (t_done (q_then_n (hK15 _ _ (c_false rfl (c_skip (q_then_n (hK14 _ _ (c_seq (fun K16 hK16 => c_region ?_)))))))))))
       refine tp rfl (lv_move rfl) (tp rfl (lv_move rfl) ?_)
       by_cases hgt : ((ys).getD k 0) > p
       · refine tp rfl (lv_gtr rfl rfl (decide_eq_true hgt)) (tp rfl (lv_assign rfl) (t_done (q_then_n (hK16 _ _ (c_true rfl (c_exit (q_then_x ?_)))))))
         refine q_in_y rfl ?_
         refine q_then_x (q_in_x (q_then_n (hK11 _ _ (c_region (tp rfl (lv_move rfl) (tp rfl (lv_assign rfl) (tp rfl (lv_assign rfl) (t_done (q_in_n (q_then_n (hK10 _ _ ?_)))))))))))
         refine c_seq (fun K17 hK17 => c_region (tp rfl (lv_move rfl) (tp rfl (lv_move rfl) ?_)))
         refine tm rfl (mv_buildSlice (cs := [(.int .i64 ((k : Nat) : Int))]) Tryz.underlying34 Tryz.sizeOf3 Tryz.zeroValue3 (by decide) rfl rfl rfl rfl) ?_
         rintro _ _ ⟨bs2, cp3, hok4, hle5, rfl, rfl⟩
         refine t_sat (fun _ h => sat_nilsl 3 1 h) ?_
         refine tm rfl (mv_append (i := Tryz.t3) Tryz.underlying34 Tryz.type3 rfl rfl rfl (by decide) rfl rfl hok4 (by first | (simp; done) | (simp; omega)) (rd_sl (.tail _ (.head _))) (by simp [Value.oneCell']) (by rw [show Tryz.t3.bytes = 8 from rfl]; omega)) ?_
         rintro _ _ ⟨bs6, cp7, hok8, hle9, rfl, rfl⟩
         simp only [Nat.zero_add] at hok8 hle9 ⊢
         refine tp rfl (lv_assign rfl) (t_done (q_then_n (hK17 _ _ (c_exit (q_in_x (q_in_n (q_then_n (hK8 _ _ (c_region (tp rfl (lv_add (c := ((k + 1 : Nat) : Int)) rfl rfl (wr_i64_succ (by omega))) ?_))))))))))
         refine tp rfl (lv_move rfl) (t_done (q_then_n (t_f1 (t_drop (t_f1 (t_drop ?_))))))
         exact t_weak (by exact ⟨rfl, rfl, rfl, rfl, rfl, rfl, rfl, trivial⟩) ((hK5 (k + 1, (ys).getD k 0, [((k : Nat) : Int)], bs6, cp7) ⟨by omega, best_new hb hst hlt hgt, hok8, hle9⟩ (by omega)))
       · refine tp rfl (lv_gtr rfl rfl (decide_eq_false hgt)) (tp rfl (lv_assign rfl) (t_done (q_then_n (hK16 _ _ (c_false rfl (c_skip (q_then_n (hK13 _ _ (c_exit ?_)))))))))
         refine q_in_y rfl ?_
         refine q_then_x ?_
         refine q_in_y rfl ?_
         refine q_then_x (q_in_x (q_then_n (hK10 _ _ (c_seq (fun K17 hK17 => c_region (tp rfl (lv_move rfl) (tp rfl (lv_move rfl) ?_)))))))
         refine tm rfl (mv_buildSlice (cs := [(.int .i64 ((k : Nat) : Int))]) Tryz.underlying34 Tryz.sizeOf3 Tryz.zeroValue3 (by decide) rfl rfl rfl rfl) ?_
         rintro _ _ ⟨bs10, cp11, hok12, hle13, rfl, rfl⟩
         refine t_f1 ?_
         refine tm rfl (mv_append (i := Tryz.t3) Tryz.underlying34 Tryz.type3 rfl rfl rfl (by decide) rfl rfl hok12 (by first | (simp; done) | (simp; omega)) (rd_sl (.tail _ (.head _))) (by simp [Value.oneCell']) (by rw [show Tryz.t3.bytes = 8 from rfl]; omega)) ?_
         rintro _ _ ⟨bs14, cp15, hok16, hle17, rfl, rfl⟩
         rw [show ints .i64 ts ++ [(.int .i64 ((k : Nat) : Int))] = ints .i64 (ts ++ [((k : Nat) : Int)]) from ints_snoc _ _ _]
         rw [show ts.length + 1 = (ts ++ [((k : Nat) : Int)]).length from by simp] at hok16 hle17 ⊢
         refine tp rfl (lv_assign rfl) (t_done (q_then_n (hK17 _ _ (c_exit (q_in_x (q_in_n (q_then_n (hK8 _ _ (c_region (tp rfl (lv_add (c := ((k + 1 : Nat) : Int)) rfl rfl (wr_i64_succ (by omega))) ?_))))))))))
         refine tp rfl (lv_move rfl) (t_done (q_then_n (t_f1 (t_drop ?_))))
         exact t_weak (by exact ⟨rfl, rfl, rfl, rfl, rfl, rfl, rfl, trivial⟩) ((hK5 (k + 1, p, ts ++ [((k : Nat) : Int)], bs14, cp15) ⟨by omega, best_add hb hst hlt hgt, hok16, hle17⟩ (by omega)))
   · refine tp rfl (lv_neq rfl rfl (bne_iff_ne.2 hst)) (tp rfl (lv_move rfl) ?_)
     refine t_skip rfl rfl rfl ?_
     refine t_skip rfl rfl rfl ?_
     refine t_skip rfl rfl rfl ?_
     refine t_skip rfl rfl rfl ?_
     refine tp rfl (lv_pick_t rfl rfl) (tp rfl (lv_assign rfl) (t_done (q_then_n (hK15 _ _ (c_true rfl (c_exit (q_then_x (q_then_x (q_in_x (q_then_n (hK12 _ _ ?_)))))))))))
     refine c_seq (fun K16 hK16 => c_exit (q_then_x ?_))
     refine q_in_y rfl ?_
     refine q_then_x ?_
     refine q_in_y rfl ?_
     refine q_then_x ?_
     refine q_in_y rfl ?_
     refine q_in_x (q_then_n (hK8 _ _ (c_region (tp rfl (lv_add (c := ((k + 1 : Nat) : Int)) rfl rfl (wr_i64_succ (by omega))) ?_))))
     refine tp rfl (lv_move rfl) (t_done (q_then_n ?_))
     exact t_weak (by exact ⟨rfl, rfl, rfl, rfl, rfl, rfl, rfl, trivial⟩) ((hK5 (k + 1, p, ts, bt, ct) ⟨by omega, best_no hb (fun hh => by first | exact hst hh.1 | exact hh.2 hlt), hok, hle⟩ (by omega)))
 · refine tp rfl (lv_lss rfl rfl (decide_eq_false h1)) (t_done (q_then_n (hK6 _ _ (c_seq (fun K7 hK7 => c_false rfl (c_exit (q_then_x (q_then_x (q_in_x (q_then_n (hK3 _ _ ?_)))))))))))
   refine c_seq (fun K8 hK8 => c_region (tp rfl (lv_move rfl) (tp rfl (lv_move rfl) (tp rfl (lv_assign rfl) (tp rfl (lv_assign rfl) (t_done (q_then_n (hK8 _ _ (c_ret ?_)))))))))
   refine q_ret2 rfl rfl rfl ?_
   have e : k = m := by omega
   subst e
   rw [hb]
   exact ⟨bt, ct, hok, hle, rfl, rfl⟩
end Go.Proofs.YtanfdikglplkaaaGreatDoor
set_option maxRecDepth 100000
namespace Go.Proofs.YtanfdikglplkaaaGreatDoor
open Go Go.Proofs Sp
set_option maxHeartbeats 4000000 in
theorem deleteFunc_ok {R : List HP} {p : Int → Bool} {f : Nat} {caps : List Value} {bx : Option Addr} {cx : Nat} (xs : List Int) (hf : (∀ args w, (callFunc f args).run Tryz.prog w = .ok (.enter f args) w) ∧ ∀ x ∈ xs, ∀ ys : List Int, ys.length = xs.length → Ok Tryz.prog f ([.int .i64 x] ++ caps) (SlV 3 1 (.slice bx xs.length cx) xs.length (ints .i64 ys) :: R) (fun v M => v = .bool (p x) ∧ M = SlV 3 1 (.slice bx xs.length cx) xs.length (ints .i64 ys) :: R)) (lx : xs.length ≤ 1000000) :
    Ok Tryz.prog 137 [(.slice bx xs.length cx), (.func (.func f) #[] caps.toArray)] ((SlV 3 1 (.slice bx xs.length cx) xs.length (ints .i64 xs)) :: R)
      (fun v M => v = .slice bx (xs.filter (fun x => !p x)).length cx ∧ M = SlV 3 1 (.slice bx (xs.filter (fun x => !p x)).length cx) (xs.filter (fun x => !p x)).length (ints .i64 (xs.filter (fun x => !p x))) :: R) := by
 refine ok_of (N := 42) Tryz.func137 rfl rfl rfl (fun W => ?_)
 refine t_learn (fun _ h => slv_facts h) (fun hbx => ?_)
 obtain ⟨okx, hcx, hmx⟩ := hbx
 unfold maxLen at hmx
 obtain ⟨hcall, hf⟩ := hf
 refine c_seq (fun K1 hK1 => c_region (tp rfl (lv_assign rfl) (t_done (q_then_n (hK1 _ _ (c_seq (fun K2 hK2 => c_region (tp rfl (lv_move rfl) (tp rfl (lv_move rfl) ?_)))))))))
 refine tc rfl (en_fn Tryz.call100 rfl) (indexFunc_ok (p := p) xs ⟨hcall, fun x hx => hf x hx xs rfl⟩ (rd_sl (.head _)) okx (by first | omega | (simp; omega) | (simp; done))) ?_
 rintro _ _ ⟨rfl, rfl⟩
 refine tp rfl (lv_assign rfl) (t_done (q_then_n (hK2 _ _ (c_seq (fun K3 hK3 => c_seq (fun K4 hK4 => c_region (tp rfl (lv_move rfl) ?_)))))))
 by_cases hnone : (idxF p xs) = (-1)
 · refine tp rfl (lv_eql rfl rfl (beq_iff_eq.2 hnone)) (t_done (q_then_n (hK4 _ _ (c_true rfl (c_seq (fun K5 hK5 => c_region (tp rfl (lv_move rfl) (tp rfl (lv_assign rfl) (t_done (q_then_n (hK5 _ _ ?_)))))))))))
   refine c_ret ?_
   refine q_then_r ?_
   rw [show ints .i64 xs = ints .i64 (xs.filter (fun x => !p x)) from by rw [filter_none hnone]]
   refine q_ret rfl rfl ?_
   have e : xs.length = (xs.filter (fun x => !p x)).length := by rw [filter_none hnone]
   rw [← e]
   exact ⟨rfl, rfl⟩
 · refine tp rfl (lv_eql rfl rfl (beq_eq_false_iff_ne.2 hnone)) (t_done (q_then_n (hK4 _ _ (c_false rfl (c_skip (q_then_n (hK3 _ _ (c_seq (fun K5 hK5 => c_seq (fun K6 hK6 => c_region ?_))))))))))
   obtain ⟨k0, hk0, hk1, hk2, hk3⟩ := idxF_some hnone
   rw [hk0]
   refine tp rfl (lv_move rfl) (tp rfl (lv_add (c := ((k0 + 1 : Nat) : Int)) rfl rfl (wr_i64_succ (by omega))) ?_)
   refine tp rfl (lv_assign rfl) (t_done (q_then_n (hK6 _ _ (c_block ?_))))
   refine c_loop (γ := (Nat) × (Nat) × (List Int)) (fun (i, j, ys) => DelI p xs i j ys) (fun (i, j, ys) => [(0, (.slice bx xs.length cx)), (1, (.func (.func f) #[] caps.toArray)), (4, (.slice none 0 0)), (5, (vN i)), (6, (vN j)), (12, (.bool false))]) (fun (i, j, ys) => (SlV 3 1 (.slice bx xs.length cx) xs.length (ints .i64 ys)) :: R) (fun (i, j, ys) => xs.length - j) (k0, k0 + 1, xs) (DelI.start hk1 hk2 hk3) ⟨rfl, rfl, rfl, rfl, rfl, rfl, trivial⟩ (fun _ h => h) ?_
   rintro ⟨i, j, ys⟩ K7 hF hK7
   try dsimp only at hF hK7 ⊢
   have hyl := hF.len
   have hij := hF.lt
   have hjl := hF.le
   refine c_seq (fun K8 hK8 => c_seq (fun K9 hK9 => c_region (tp rfl (lv_move rfl) (tp rfl (lv_move rfl) (tp rfl (lv_len Tryz.underlying34 rfl rfl) ?_)))))
   by_cases h1 : ((j : Nat) : Int) < ((xs.length : Nat) : Int)
   · refine tp rfl (lv_lss rfl rfl (decide_eq_true h1)) (t_done (q_then_n (hK9 _ _ (c_true rfl (c_skip (q_then_n (hK8 _ _ (c_seq (fun K10 hK10 => c_block (c_seq (fun K11 hK11 => c_region ?_)))))))))))
     refine tp rfl (lv_move rfl) (tp rfl (lv_move rfl) (tp rfl (lv_indexAddr (k' := j) Tryz.underlying34 Tryz.sizeOf3 rfl rfl okx (by omega) (by omega) (by omega)) ?_))
     refine tp rfl (lv_load Tryz.isAgg3 rfl (gives_sl (.head _) (ints_get (by first | omega | (simp; omega))))) ?_
     refine tp rfl (lv_assign rfl) (t_done (q_then_n (hK11 _ _ (c_seq (fun K12 hK12 => c_region (tp rfl (lv_move rfl) (tp rfl (lv_move rfl) ?_)))))))
     refine tc rfl (en_clo hcall rfl rfl) (hf (ys.getD j 0) (by rw [hF.get (by omega)]; exact mem_getD (by omega)) ys hF.len) ?_
     rintro _ _ ⟨rfl, rfl⟩
     refine tp rfl (lv_not (c := !(p (ys.getD j 0))) rfl rfl) (t_done (q_then_n (hK12 _ _ ?_)))
     refine c_split rfl (fun c2 => ?_) (fun c2 => ?_)
     · have hpj := c2
       refine c_seq (fun K13 hK13 => c_region (tp rfl (lv_move rfl) (tp rfl (lv_move rfl) (tp rfl (lv_move rfl) (tp rfl (lv_indexAddr (k' := i) Tryz.underlying34 Tryz.sizeOf3 rfl rfl okx (by omega) (by omega) (by omega)) ?_)))))
       refine ts (sv_sl Tryz.sizeOf3 rfl rfl rfl (by first | (rw [ints_length]; omega) | (simp; omega) | omega) ints_set) ?_
       refine t_done (q_then_n (hK13 _ _ (c_region (tp rfl (lv_move rfl) (tp rfl (lv_add (c := ((i + 1 : Nat) : Int)) rfl rfl (wr_i64_succ (by omega))) ?_)))))
       refine tp rfl (lv_assign rfl) (t_done (q_in_n (q_then_n (hK10 _ _ (c_region (tp rfl (lv_move rfl) (tp rfl (lv_add (c := ((j + 1 : Nat) : Int)) rfl rfl (wr_i64_succ (by omega))) ?_)))))))
       refine tp rfl (lv_assign rfl) (t_done (q_then_n ?_))
       exact t_weak (by exact ⟨rfl, rfl, rfl, rfl, rfl, rfl, trivial⟩) ((hK7 (i + 1, j + 1, (ys).set i ((ys).getD j 0)) (hF.keep (by omega) (by simpa using hpj)) (by dsimp only; omega)))
     · have hpj := c2
       refine c_skip (q_in_n (q_then_n (hK10 _ _ (c_region (tp rfl (lv_move rfl) (tp rfl (lv_add (c := ((j + 1 : Nat) : Int)) rfl rfl (wr_i64_succ (by omega))) ?_))))))
       refine tp rfl (lv_assign rfl) (t_done (q_then_n ?_))
       exact t_weak (by exact ⟨rfl, rfl, rfl, rfl, rfl, rfl, trivial⟩) ((hK7 (i, j + 1, ys) (hF.skip (by omega) (by simpa using hpj)) (by dsimp only; omega)))
   · refine tp rfl (lv_lss rfl rfl (decide_eq_false h1)) (t_done (q_then_n (hK9 _ _ (c_false rfl (c_exit (q_then_x (q_then_x (q_in_x (q_then_n (hK5 _ _ (c_seq (fun K10 hK10 => ?_))))))))))))
     refine c_region (tp rfl (lv_move rfl) (tp rfl (lv_move rfl) (tp rfl (lv_slice (l := i) (h := xs.length) (m := cx) (v := (.slice (sbase bx i cx 1) (xs.length - i) (cx - i))) Tryz.underlying34 Tryz.sizeOf3 rfl rfl rfl rfl (.inr ⟨rfl, rfl⟩) (.inr ⟨rfl, rfl⟩) (.inl ⟨_, _, rfl, (by omega), (by omega), (by omega)⟩) (by simp) rfl) ?_)))
     refine tm0 (mv_clear (l := i) (c := cx) Tryz.underlying34 Tryz.zeroValue3 rfl rfl (by decide) rfl okx (by omega) (by omega) (by omega)) ?_
     rintro _ _ ⟨zs3, rfl⟩
     refine t_done (q_then_n (hK10 _ _ (c_seq (fun K11 hK11 => c_region (tp rfl (lv_move rfl) (tp rfl (lv_move rfl) (tp rfl (lv_slice (l := 0) (h := i) (m := cx) (v := (.slice bx i cx)) Tryz.underlying34 Tryz.sizeOf3 rfl rfl rfl rfl (.inr ⟨rfl, rfl⟩) (.inl ⟨_, _, rfl, (by omega), (by omega), (by omega)⟩) (.inr ⟨rfl, rfl⟩) (by simp) (by rw [sbase_zero]; rfl)) ?_)))))))
     refine tp rfl (lv_assign rfl) (t_done (q_then_n (hK11 _ _ (c_ret ?_))))
     refine t_sat (fun _ h => sat_cut_ints (by omega) (by omega) hyl h) ?_
     have hdn := hF.done (by omega)
     rw [hdn]
     have hi : i = (xs.filter (fun x => !p x)).length := by rw [← hdn]; simp; omega
     subst hi
     refine q_ret rfl rfl ?_
     exact ⟨rfl, rfl⟩
theorem deleteFunc_n {R : List HP} {p : Int → Bool} {f n : Nat} {caps : List Value} {bx : Option Addr} {cx : Nat} (xs : List Int) (hn : xs.length = n) (hf : (∀ args w, (callFunc f args).run Tryz.prog w = .ok (.enter f args) w) ∧ ∀ x ∈ xs, ∀ ys : List Int, ys.length = xs.length → Ok Tryz.prog f ([.int .i64 x] ++ caps) (SlV 3 1 (.slice bx n cx) n (ints .i64 ys) :: R) (fun v M => v = .bool (p x) ∧ M = SlV 3 1 (.slice bx n cx) n (ints .i64 ys) :: R)) (lx : n ≤ 1000000) : Ok Tryz.prog 137 [.slice bx n cx, .func (.func f) #[] caps.toArray] (SlV 3 1 (.slice bx n cx) n (ints .i64 xs) :: R) (fun v M => v = .slice bx (xs.filter (fun x => !p x)).length cx ∧ M = SlV 3 1 (.slice bx (xs.filter (fun x => !p x)).length cx) (xs.filter (fun x => !p x)).length (ints .i64 (xs.filter (fun x => !p x))) :: R) := by subst hn; exact deleteFunc_ok xs hf lx
theorem tthere_ok {R : List HP} (x : Int) {n cl : Nat} {bl : Option Addr} :
    Ok Tryz.prog 102 [(.int .i64 x), (.slice bl n cl)] R
      (fun v M => v = .bool (thB x n) ∧ M = R) := by
 refine ok_of (N := 13) Tryz.func102 rfl rfl rfl (fun W => ?_)
 refine c_seq (fun K1 hK1 => c_region (tp rfl (lv_assign rfl) (t_done (q_then_n (hK1 _ _ (c_seq (fun K2 hK2 => c_region (tp rfl (lv_move rfl) ?_))))))))
 by_cases hge : x ≥ 0
 · refine tp rfl (lv_geq rfl rfl (decide_eq_true hge)) (tp rfl (lv_move rfl) ?_)
   refine t_guard rfl rfl ?_
   refine tp rfl (lv_move rfl) ?_
   refine t_guard rfl rfl ?_
   refine tp rfl (lv_move rfl) ?_
   refine t_guard rfl rfl ?_
   refine tp rfl (lv_len Tryz.underlying24 rfl rfl) ?_
   refine t_guard rfl rfl ?_
   refine tp rfl (lv_lss rfl rfl rfl) (tp rfl (lv_pick_t rfl rfl) (tp rfl (lv_assign rfl) (t_done (q_then_n (hK2 _ _ (c_ret ?_))))))
   refine q_ret rfl rfl ?_
   exact ⟨by simp [thB, hge], rfl⟩
 · refine tp rfl (lv_geq rfl rfl (decide_eq_false hge)) (tp rfl (lv_move rfl) ?_)
   refine t_skip rfl rfl rfl ?_
   refine t_skip rfl rfl rfl ?_
   refine t_skip rfl rfl rfl ?_
   refine t_skip rfl rfl rfl ?_
   refine tp rfl (lv_pick_f rfl rfl) (tp rfl (lv_assign rfl) (t_done (q_then_n (hK2 _ _ (c_ret ?_)))))
   refine q_ret rfl rfl ?_
   exact ⟨by simp [thB, hge], rfl⟩
set_option maxHeartbeats 4000000 in
theorem fits1_ok {R : List HP} (x room : Int) {c1 c2 n cl : Nat} {bl : Option Addr} (es : List (Int × Int)) (hn : n ≤ es.length) (hl : Rd R bl (pairs es)) (okl : SlOk bl n) (h1 : Gives R ⟨c1, 0, none⟩ (.slice bl n cl)) (h2 : Gives R ⟨c2, 0, none⟩ (.int .i64 room)) :
    Ok Tryz.prog 136 [(.int .i64 x), (.pointer (some ⟨c1, 0, none⟩)), (.pointer (some ⟨c2, 0, none⟩))] R
      (fun v M => v = .bool (!fitB n es room x) ∧ M = R) := by
 refine ok_of (N := 18) Tryz.func136 rfl rfl rfl (fun W => ?_)
 refine c_seq (fun K1 hK1 => c_region (tp rfl (lv_assign rfl) (t_done (q_then_n (hK1 _ _ (c_seq (fun K2 hK2 => ?_)))))))
 rcases hh1 : thB x n with _ | _
 · refine c_draw (γ := Unit) (n := 14) Tryz.mixed rfl rfl (fun _ S => True) (fun _ => [(0, 5, (.int .i64 x)), (1, 6, (.slice bl n cl)), (2, 7, (.bool false)), (3, 8, (.bool true)), (4, 9, (.bool true)), (5, 10, undef), (6, 11, undef), (7, 12, undef), (8, 13, undef), (9, 14, undef), (10, 15, undef), (11, 16, undef), (12, 17, (.bool true)), (13, 4, (.bool true))]) (fun _ S => R) (()) trivial (fun _ h => h) (fun _ _ h => h) ?_ ?_
   · refine ⟨?_, ?_, ?_, ?_, ?_, ?_, ?_, ?_, ?_, ?_, ?_, ?_, ?_, ?_, trivial⟩
     · intro _ S h s D p K k; exact d_lv1 (look_b (t := 0) rfl rfl) (lv_move rfl) 0 rfl rfl s (k () h)
     · intro _ S h s D p K k; exact d_lv1 (look_b (t := 1) rfl rfl) (lv_load Tryz.isAgg24 rfl h1) 1 rfl rfl s (k () h)
     · rintro _ S hF hS D hp K hK
       try dsimp only at hF ⊢
       have s0 := hp 0 rfl
       have s1 := hp 1 rfl
       refine d_need (small := [(5, (.int .i64 x)), (6, (.slice bl n cl))]) ⟨look_row rfl 0 rfl s0, look_row rfl 1 rfl s1, trivial⟩ ?_
       refine tc rfl (en_fn Tryz.call102 rfl) (tthere_ok x) ?_
       rintro _ _ ⟨rfl, hMR⟩
       rw [hMR]; clear hMR
       rw [show thB x n = false from hh1]
       exact d_closes ⟨look_row rfl 0 rfl s0, look_row rfl 1 rfl s1, trivial⟩ 2 rfl rfl rfl hS (AgreeR.refl _) (t_sat (fun _ h => h) (hK () trivial))
     · intro _ S h s D p K k; exact d_lv1 (lkr p 2 rfl rfl) (lv_not (c := true) rfl rfl) 3 rfl rfl s (k () h)
     · intro _ S h s D p K k; exact d_lv1 (lkr p 3 rfl rfl) (lv_move rfl) 4 rfl rfl s (k () h)
     · intro _ S h s D p K k; exact d_sk2 (look_b (t := 1) rfl rfl) (lkr p 4 rfl rfl) rfl rfl 5 rfl rfl s (k () h)
     · intro _ S h s D p K k; exact d_sk2 (look_b (t := 0) rfl rfl) (lkr p 4 rfl rfl) rfl rfl 6 rfl rfl s (k () h)
     · intro _ S h s D p K k; exact d_sk3 (lkr p 4 rfl rfl) (lkr p 5 rfl rfl) (lkr p 6 rfl rfl) rfl rfl 7 rfl rfl s (k () h)
     · intro _ S h s D p K k; exact d_sk2 (lkr p 4 rfl rfl) (lkr p 7 rfl rfl) rfl rfl 8 rfl rfl s (k () h)
     · intro _ S h s D p K k; exact d_sk2 (lkr p 4 rfl rfl) (lkr p 8 rfl rfl) rfl rfl 9 rfl rfl s (k () h)
     · intro _ S h s D p K k; exact d_sk2 (look_b (t := 2) rfl rfl) (lkr p 4 rfl rfl) rfl rfl 10 rfl rfl s (k () h)
     · intro _ S h s D p K k; exact d_sk3 (lkr p 4 rfl rfl) (lkr p 9 rfl rfl) (lkr p 10 rfl rfl) rfl rfl 11 rfl rfl s (k () h)
     · intro _ S h s D p K k; exact d_lv2 (lkr p 4 rfl rfl) (lkr p 11 rfl rfl) (lv_pick_t rfl rfl) 12 rfl rfl s (k () h)
     · intro _ S h s D p K k; exact d_lv1 (lkr p 12 rfl rfl) (lv_assign rfl) 13 rfl rfl s (k () h)
   · rintro _ hF
     try dsimp only at hF ⊢
     refine t_weak (E' := [(0, (.int .i64 x)), (1, (vP c1 0)), (2, (vP c2 0)), (4, (.bool true))]) ⟨rfl, rfl, rfl, rfl, trivial⟩ ?_
     refine q_then_n (hK2 _ _ (c_ret ?_))
     refine q_ret rfl rfl ?_
     refine ⟨?_, rfl⟩
     congr 1
     unfold fitB
     rw [Bool.eq_iff_iff]
     simp [*]
 · refine c_draw (γ := Unit) (n := 14) Tryz.mixed rfl rfl (fun _ S => True) (fun _ => [(0, 5, (.int .i64 x)), (1, 6, (.slice bl n cl)), (2, 7, (.bool true)), (3, 8, (.bool false)), (4, 9, (.bool false)), (5, 10, (.slice bl n cl)), (6, 11, (.int .i64 x)), (7, 12, (.pointer (some (ad bl (x.toNat * 2))))), (8, 13, (.pointer (some (ad bl (x.toNat * 2))))), (9, 14, (.int .i64 (((es).getD x.toNat (0, 0)).1))), (10, 15, (.int .i64 room)), (11, 16, (.bool (decide ((((es).getD x.toNat (0, 0)).1) > room)))), (12, 17, (.bool (decide ((((es).getD x.toNat (0, 0)).1) > room)))), (13, 4, (.bool (decide ((((es).getD x.toNat (0, 0)).1) > room))))]) (fun _ S => R) (()) trivial (fun _ h => h) (fun _ _ h => h) ?_ ?_
   · refine ⟨?_, ?_, ?_, ?_, ?_, ?_, ?_, ?_, ?_, ?_, ?_, ?_, ?_, ?_, trivial⟩
     · intro _ S h s D p K k; exact d_lv1 (look_b (t := 0) rfl rfl) (lv_move rfl) 0 rfl rfl s (k () h)
     · intro _ S h s D p K k; exact d_lv1 (look_b (t := 1) rfl rfl) (lv_load Tryz.isAgg24 rfl h1) 1 rfl rfl s (k () h)
     · rintro _ S hF hS D hp K hK
       try dsimp only at hF ⊢
       have s0 := hp 0 rfl
       have s1 := hp 1 rfl
       refine d_need (small := [(5, (.int .i64 x)), (6, (.slice bl n cl))]) ⟨look_row rfl 0 rfl s0, look_row rfl 1 rfl s1, trivial⟩ ?_
       refine tc rfl (en_fn Tryz.call102 rfl) (tthere_ok x) ?_
       rintro _ _ ⟨rfl, hMR⟩
       rw [hMR]; clear hMR
       rw [show thB x n = true from hh1]
       exact d_closes ⟨look_row rfl 0 rfl s0, look_row rfl 1 rfl s1, trivial⟩ 2 rfl rfl rfl hS (AgreeR.refl _) (t_sat (fun _ h => h) (hK () trivial))
     · intro _ S h s D p K k; exact d_lv1 (lkr p 2 rfl rfl) (lv_not (c := false) rfl rfl) 3 rfl rfl s (k () h)
     · intro _ S h s D p K k; exact d_lv1 (lkr p 3 rfl rfl) (lv_move rfl) 4 rfl rfl s (k () h)
     · intro _ S h s D p K k; exact d_gd2 (look_b (t := 1) rfl rfl) (lkr p 4 rfl rfl) rfl rfl (lv_load Tryz.isAgg24 rfl h1) 5 rfl rfl s (k () h)
     · intro _ S h s D p K k; exact d_gd2 (look_b (t := 0) rfl rfl) (lkr p 4 rfl rfl) rfl rfl (lv_move rfl) 6 rfl rfl s (k () h)
     · rintro _ S hF hS D hp K hK; try dsimp only
       exact d_gd3 (lkr hp 4 rfl rfl) (lkr hp 5 rfl rfl) (lkr hp 6 rfl rfl) rfl rfl (lv_indexAddr (k' := x.toNat * 2) Tryz.underlying24 Tryz.sizeOf57 rfl rfl okl (by have := thB_t ‹_›; omega) (by have := thB_t ‹_›; omega) (by have := thB_t ‹_›; omega)) 7 rfl rfl hS (hK () hF)
     · intro _ S h s D p K k; exact d_gd2 (lkr p 4 rfl rfl) (lkr p 7 rfl rfl) rfl rfl (lv_fieldAddr_ad (o' := x.toNat * 2) Tryz.underlying57 rfl Tryz.sizeOf3 rfl rfl) 8 rfl rfl s (k () h)
     · intro _ S h s D p K k; exact d_gd2 (lkr p 4 rfl rfl) (lkr p 8 rfl rfl) rfl rfl (lv_load Tryz.isAgg3 rfl (Rd.gives hl (pairs_get0 (by have := thB_t ‹_›; omega)))) 9 rfl rfl s (k () h)
     · intro _ S h s D p K k; exact d_gd2 (look_b (t := 2) rfl rfl) (lkr p 4 rfl rfl) rfl rfl (lv_load Tryz.isAgg3 rfl h2) 10 rfl rfl s (k () h)
     · intro _ S h s D p K k; exact d_gd3 (lkr p 4 rfl rfl) (lkr p 9 rfl rfl) (lkr p 10 rfl rfl) rfl rfl (lv_gtr rfl rfl rfl) 11 rfl rfl s (k () h)
     · intro _ S h s D p K k; exact d_lv2 (lkr p 4 rfl rfl) (lkr p 11 rfl rfl) (lv_pick_f rfl rfl) 12 rfl rfl s (k () h)
     · intro _ S h s D p K k; exact d_lv1 (lkr p 12 rfl rfl) (lv_assign rfl) 13 rfl rfl s (k () h)
   · rintro _ hF
     try dsimp only at hF ⊢
     refine t_weak (E' := [(0, (.int .i64 x)), (1, (vP c1 0)), (2, (vP c2 0)), (4, (.bool (decide ((((es).getD x.toNat (0, 0)).1) > room))))]) ⟨rfl, rfl, rfl, rfl, trivial⟩ ?_
     refine q_then_n (hK2 _ _ (c_ret ?_))
     refine q_ret rfl rfl ?_
     refine ⟨?_, rfl⟩
     congr 1
     unfold fitB
     rw [Bool.eq_iff_iff]
     simp [*]
end Go.Proofs.YtanfdikglplkaaaGreatDoor
