/- Parts Eg, Ej: own lemmas and contracts of the code that the claim reaches. -/
import Derived.Test.YtanfdikglplkaaaGreatDoorM03
import Derived.Test.YtanfdikglplkaaaGreatDoorM20
import Derived.Test.YtanfdikglplkaaaGreatDoorM10
set_option linter.unusedSimpArgs false
set_option linter.unusedVariables false
set_option maxRecDepth 100000
namespace Go.Proofs.YtanfdikglplkaaaGreatDoor
open Go Go.Proofs Sp
set_option maxHeartbeats 4000000 in
theorem leaves_ok {R : List HP} {e : Nat} {x : EP} {q A Q : Int} {y : OS} (r v : Int) (hy : OvOk x.n x.m A Q y) (hr : r ∈ y.as.a ++ y.as.q) (hA : A ≤ 400 ∧ Q ≤ 400)  :
    Ok Tryz.prog 47 [(.pointer (some ⟨e, 0, none⟩)), (.int .i64 r), (.int .i64 v)] ((EngC e x y.s) :: (TurnsO x.tn q y.ms y.ta) :: (AdmO x.ad A Q y.as) :: R)
      (fun u M => u = .tuple #[] ∧ M = EngC e x (y.leaves r v).s :: TurnsO x.tn q (y.leaves r v).ms (y.leaves r v).ta :: AdmO x.ad A Q (y.leaves r v).as :: R) := by
 refine ok_of (N := 42) Tryz.func47 rfl rfl rfl (fun W => ?_)
 refine t_learn (fun _ h => ef_of h) (fun hE => ?_)
 have hE_nb := hE.nb
 have hE_mb := hE.mb
 have hE_tn := hE.tn
 have hE_ln := hE.ln
 have hE_mn := hE.mn
 have hla := hy.ao.la
 have hlq := hy.ao.lq
 have hme : y.ms.length = y.as.a.length := by rw [← hy.me, List.length_map]
 have hr0 := hy.ids r hr
 refine c_seq (fun K1 hK1 => c_region (tp rfl (lv_move rfl) (tp rfl (lv_nilCheck rfl) (tp rfl (lv_fieldAddr (o' := 12) Tryz.underlying73 rfl Tryz.sizeOf66 rfl rfl) (tp rfl (lv_load Tryz.isAgg66 rfl (gives_e (v := (.slice x.br x.m x.cr)) (.head _) (fun _ _ => rfl))) (tp rfl (lv_move rfl) (tp rfl (lv_indexAddr (k' := r.toNat) Tryz.underlying66 Tryz.sizeOf79 rfl rfl hE.okr (by omega) (by omega) (by omega)) ?_)))))))
 refine tp rfl (lv_load Tryz.isAgg79 rfl (gives_br (i := r.toNat) (.head _) (by omega))) ?_
 refine tp rfl (lv_move rfl) (tp rfl (lv_nilCheck rfl) (tp rfl (lv_fieldAddr (o' := 3) Tryz.underlying82 rfl Tryz.sizeOf3 rfl rfl) ?_))
 refine ts (sv_rq (i := r.toNat) (o := 3) (z := { (y.s.rq.getD r.toNat Rq.z) with st := v }) (by omega) rfl (by decide) rfl Tryz.sizeOf3 rfl rfl) ?_
 refine t_done (q_then_n (hK1 _ _ (c_seq (fun K2 hK2 => c_region (tp rfl (lv_move rfl) (tp rfl (lv_nilCheck rfl) (tp rfl (lv_fieldAddr (o' := 17) Tryz.underlying73 rfl Tryz.sizeOf71 rfl rfl) (tp rfl (lv_load Tryz.isAgg71 rfl (gives_e (v := (.pointer (some ⟨x.tn, 0, none⟩))) (.head _) (fun _ _ => rfl))) (tp rfl (lv_move rfl) (t_f1 ?_))))))))))
 refine tc rfl (en_fn Tryz.call78 rfl) (tleave_ok (q := q) (ms := y.ms) (a := y.ta) r (by omega)) ?_
 rintro _ _ ⟨rfl, rfl⟩
 refine t_done (q_then_n (hK2 _ _ (c_seq (fun K3 hK3 => c_region (tp rfl (lv_move rfl) (tp rfl (lv_nilCheck rfl) (tp rfl (lv_fieldAddr (o' := 16) Tryz.underlying73 rfl Tryz.sizeOf70 rfl rfl) (tp rfl (lv_load Tryz.isAgg70 rfl (gives_e (v := (.pointer (some ⟨x.ad, 0, none⟩))) (.tail _ (.head _)) (fun _ _ => rfl))) (tp rfl (lv_move rfl) (t_f2 ?_))))))))))
 refine tc rfl (en_fn Tryz.call79 rfl) (aend_ok (A := A) (Q := Q) (s := y.as) r (by omega)) ?_
 rintro _ _ ⟨rfl, rfl⟩
 refine tp rfl (lv_move rfl) (tp rfl (lv_extract rfl rfl) (tp rfl (lv_extract rfl rfl) (tp rfl (lv_assign rfl) (tp rfl (lv_assign rfl) (t_done (q_then_n (hK3 _ _ (c_seq (fun K4 hK4 => c_region ?_)))))))))
 by_cases hc1 : (endEr y.as r) = 0 ∧ (endV y.as r) ≥ 0
 · have hc1a := hc1.1
   have hc1b := hc1.2
   refine tp rfl (lv_move rfl) (tp rfl (lv_eql rfl rfl (beq_iff_eq.2 hc1.1)) (tp rfl (lv_move rfl) ?_))
   refine t_guard rfl rfl ?_
   refine tp rfl (lv_move rfl) ?_
   refine t_guard rfl rfl ?_
   refine tp rfl (lv_geq rfl rfl (decide_eq_true hc1.2)) (tp rfl (lv_pick_t rfl rfl) (t_done (q_then_n (hK4 _ _ (c_true rfl (c_region ?_))))))
   have hnm := hy.next hr (by omega)
   have hnr := hy.ids _ (List.mem_append_right _ hnm)
   obtain ⟨nx, hnx⟩ : ∃ n : Nat, endV y.as r = (n : Int) := ⟨(endV y.as r).toNat, by omega⟩
   have hlv := leaveM_len y.ms r
   rw [hnx]
   have hnx2 : (endV y.as r).toNat = nx := by omega
   have hlf := hy.left (r := r) v
   refine tp rfl (lv_move rfl) (tp rfl (lv_move rfl) (t_f1 (t_f2 ?_)))
   refine tc rfl (en_fn Tryz.call45 rfl) (begins_ok (x := x) (s := y.s.setSt r.toNat v) (ms := leaveM y.ms r) nx (by omega) hlf.1 (by show (leaveM y.ms r).length ≤ 1000; omega)) ?_
   rintro _ _ ⟨rfl, rfl⟩
   refine t_done ?_
   refine q_ret0 rfl ?_
   have hlz : y.leaves r v = (y.left r v).come nx := by unfold OS.leaves; rw [if_pos ⟨by omega, by omega⟩, hnx2]
   rw [hlz]
   exact ⟨rfl, rfl⟩
 · refine t_cut0 (E' := [(0, (.pointer (some ⟨e, 0, none⟩))), (1, (.int .i64 r)), (2, (.int .i64 v)), (6, (.int .i64 (endV y.as r))), (7, (.int .i64 (endEr y.as r))), (38, (.bool false))]) ?_ (fun KK hKK => ?_)
   ·
    refine q_then_n (hK4 _ _ (c_false rfl (c_skip (t_f1 (t_f2 ?_)))))
    refine q_ret0 rfl ?_
    have hlz : y.leaves r v = y.left r v := by unfold OS.leaves; rw [if_neg (by omega)]
    rw [hlz]
    exact ⟨rfl, rfl⟩
   · by_cases hc1A : (endEr y.as r) = 0
     ·
      have hc1B : ¬ ((endV y.as r) ≥ 0) := fun hh => hc1 ⟨hc1A, hh⟩
      refine tp rfl (lv_move rfl) (tp rfl (lv_eql rfl rfl (beq_iff_eq.2 hc1A)) (tp rfl (lv_move rfl) ?_))
      refine t_guard rfl rfl ?_
      refine tp rfl (lv_move rfl) ?_
      refine t_guard rfl rfl ?_
      refine tp rfl (lv_geq rfl rfl (decide_eq_false hc1B)) (tp rfl (lv_pick_t rfl rfl) ?_)
      exact t_done (t_weak (by exact ⟨rfl, rfl, rfl, rfl, rfl, rfl, trivial⟩) hKK)
     ·
      refine tp rfl (lv_move rfl) (tp rfl (lv_eql rfl rfl (beq_eq_false_iff_ne.2 hc1A)) (tp rfl (lv_move rfl) ?_))
      refine t_skip rfl rfl rfl ?_
      refine t_skip rfl rfl rfl ?_
      refine tp rfl (lv_pick_f rfl rfl) ?_
      exact t_done (t_weak (by exact ⟨rfl, rfl, rfl, rfl, rfl, rfl, trivial⟩) hKK)
set_option maxHeartbeats 4000000 in
theorem over_ok {R : List HP} {e : Nat} {x : EP} {q A Q : Int} {y : OS} {vr : Nat} (hy : OvOk x.n x.m A Q y) (hA : A ≤ 400 ∧ Q ≤ 400) (hV : VTab vr R) :
    Ok Tryz.prog 46 [(.pointer (some ⟨e, 0, none⟩))] ((EngC e x y.s) :: (TurnsO x.tn q y.ms y.ta) :: (AdmO x.ad A Q y.as) :: R)
      (fun u M => ∃ z, Ov y z ∧ z.calm ∧ u = .tuple #[] ∧ M = EngC e x z.s :: TurnsO x.tn q z.ms z.ta :: AdmO x.ad A Q z.as :: R) := by
 refine ok_of (N := 48) Tryz.func46 rfl rfl rfl (fun W => ?_)
 refine c_scope (γ := (OS)) (c := _) 0 (fun (z : OS) => Ov y z ∧ OvOk x.n x.m A Q z) (fun (z : OS) => [(0, (.pointer (some ⟨e, 0, none⟩)))]) (fun (z : OS) => (EngC e x z.s) :: (TurnsO x.tn q z.ms z.ta) :: (AdmO x.ad A Q z.as) :: R) (fun (z : OS) => z.cnt) rfl ?_ ?_
 · rintro z K1 hF hK1
   try dsimp only at hF hK1 ⊢
   obtain ⟨hz, hzo⟩ := hF
   have hla := hzo.ao.la
   have hlq := hzo.ao.lq
   refine c_seq (fun K2 hK2 => c_region (tp rfl (lv_move rfl) (tp rfl (lv_nilCheck rfl) (tp rfl (lv_fieldAddr (o' := 16) Tryz.underlying73 rfl Tryz.sizeOf70 rfl rfl) (tp rfl (lv_load Tryz.isAgg70 rfl (gives_e (v := (.pointer (some ⟨x.ad, 0, none⟩))) (.head _) (fun _ _ => rfl))) (t_f2 ?_))))))
   refine tc rfl (en_fn Tryz.call42 rfl) (actives_ok (A := A) (Q := Q) (s := z.as) (by omega)) ?_
   rintro _ _ ⟨bs1, cp2, hok3, hle4, rfl, rfl⟩
   refine tp rfl (lv_len Tryz.underlying34 rfl rfl) (tp rfl (lv_move rfl) (t_done (q_then_n (hK2 _ _ (c_block ?_)))))
   refine c_loop (γ := (Nat)) (fun (k : Nat) => k ≤ z.as.a.length ∧ (∀ j, j < k → z.s.stt (z.s.rt (z.as.a.getD j 0).toNat) < 5)) (fun (k : Nat) => [(0, (vP e 0)), (9, (.slice bs1 z.as.a.length cp2)), (10, (vN z.as.a.length)), (11, (vN k))]) (fun (k : Nat) => (SlV 3 1 (.slice bs1 z.as.a.length cp2) z.as.a.length (ints .i64 z.as.a)) :: (AdmO x.ad A Q z.as) :: (EngC e x z.s) :: (TurnsO x.tn q z.ms z.ta) :: R) (fun (k : Nat) => z.as.a.length - k) (0) ⟨Nat.zero_le _, fun j hj => by omega⟩ ⟨rfl, rfl, rfl, rfl, trivial⟩ (fun _ h => h) ?_
   rintro k K3 hF hK3
   try dsimp only at hF hK3 ⊢
   obtain ⟨hk, hall⟩ := hF
   refine c_seq (fun K4 hK4 => c_region ?_)
   by_cases h5 : ((k : Nat) : Int) < ((z.as.a.length : Nat) : Int)
   · refine tp rfl (lv_lss rfl rfl (decide_eq_true h5)) (t_done (q_then_n (hK4 _ _ (c_seq (fun K5 hK5 => c_true rfl (c_skip (q_then_n (hK5 _ _ (c_seq (fun K6 hK6 => c_block (c_seq (fun K7 hK7 => ?_))))))))))))
     refine c_region (tp rfl (lv_indexAddr (k' := k) Tryz.underlying34 Tryz.sizeOf3 rfl rfl hok3 (by omega) (by omega) (by omega)) ?_)
     refine tp rfl (lv_load Tryz.isAgg3 rfl (gives_sl (.head _) (ints_get (by first | omega | (simp; omega))))) ?_
     refine tp rfl (lv_assign rfl) (t_done (q_then_n (hK7 _ _ (c_seq (fun K8 hK8 => ?_)))))
     obtain ⟨r, hrd⟩ : ∃ r, z.as.a.getD k 0 = r := ⟨_, rfl⟩
     rw [hrd]
     have hrm : r ∈ z.as.a := by rw [← hrd]; exact mem_getD (by omega)
     have hr0 := hzo.ids r (List.mem_append_left _ hrm)
     have hq0 := hzo.rq r.toNat (by rw [hzo.lm]; omega)
     refine t_f2 ?_
     refine t_learn (fun _ h => ef_of h) (fun hE => ?_)
     have hE_nb := hE.nb
     have hE_mb := hE.mb
     have hE_tn := hE.tn
     have hE_ln := hE.ln
     have hE_mn := hE.mn
     refine c_draw (γ := Unit) (n := 18) Tryz.mixed rfl rfl (fun _ S => True) (fun _ => [(0, 15, (vP e 0)), (1, 16, (vP e 0)), (2, 17, (vP e 11)), (3, 18, (.slice x.bt x.n x.ct)), (4, 19, (vP e 0)), (5, 20, (vP e 0)), (6, 21, (vP e 12)), (7, 22, (.slice x.br x.m x.cr)), (8, 23, (.int .i64 r)), (9, 24, (.pointer (some (ad x.br r.toNat)))), (10, 25, (vP (x.rs.getD r.toNat 0) 0)), (11, 26, (vP (x.rs.getD r.toNat 0) 0)), (12, 27, (vP (x.rs.getD r.toNat 0) 0)), (13, 28, (vP (x.rs.getD r.toNat 0) 0)), (14, 29, (.int .i64 ((z.s.rq.getD r.toNat Rq.z).root))), (15, 30, (.pointer (some (ad x.bt (((z.s.rq.getD r.toNat Rq.z).root).toNat))))), (16, 31, (.pointer (some ⟨(x.ks.getD (((z.s.rq.getD r.toNat Rq.z).root).toNat) (0, 0)).1, 0, none⟩))), (17, 4, (.pointer (some ⟨(x.ks.getD (((z.s.rq.getD r.toNat Rq.z).root).toNat) (0, 0)).1, 0, none⟩)))]) (fun _ S => (EngC e x z.s) :: (SlV 3 1 (.slice bs1 z.as.a.length cp2) z.as.a.length (ints .i64 z.as.a)) :: (AdmO x.ad A Q z.as) :: (TurnsO x.tn q z.ms z.ta) :: R) (()) trivial (fun _ h => h) (fun _ _ h => h) ?_ ?_
     · refine ⟨?_, ?_, ?_, ?_, ?_, ?_, ?_, ?_, ?_, ?_, ?_, ?_, ?_, ?_, ?_, ?_, ?_, ?_, trivial⟩
       · intro _ S h s D p K k; exact d_lv1 (look_b (t := 0) rfl rfl) (lv_move rfl) 0 rfl rfl s (k () h)
       · intro _ S h s D p K k; exact d_lv1 (lkr p 0 rfl rfl) (lv_nilCheck rfl) 1 rfl rfl s (k () h)
       · intro _ S h s D p K k; exact d_lv1 (lkr p 1 rfl rfl) (lv_fieldAddr (o' := 11) Tryz.underlying73 rfl Tryz.sizeOf65 rfl rfl) 2 rfl rfl s (k () h)
       · intro _ S h s D p K k; exact d_lv1 (lkr p 2 rfl rfl) (lv_load Tryz.isAgg65 rfl (gives_e (v := (.slice x.bt x.n x.ct)) (.head _) (fun _ _ => rfl))) 3 rfl rfl s (k () h)
       · intro _ S h s D p K k; exact d_lv1 (look_b (t := 0) rfl rfl) (lv_move rfl) 4 rfl rfl s (k () h)
       · intro _ S h s D p K k; exact d_lv1 (lkr p 4 rfl rfl) (lv_nilCheck rfl) 5 rfl rfl s (k () h)
       · intro _ S h s D p K k; exact d_lv1 (lkr p 5 rfl rfl) (lv_fieldAddr (o' := 12) Tryz.underlying73 rfl Tryz.sizeOf66 rfl rfl) 6 rfl rfl s (k () h)
       · intro _ S h s D p K k; exact d_lv1 (lkr p 6 rfl rfl) (lv_load Tryz.isAgg66 rfl (gives_e (v := (.slice x.br x.m x.cr)) (.head _) (fun _ _ => rfl))) 7 rfl rfl s (k () h)
       · intro _ S h s D p K k; exact d_lv1 (look_b (t := 3) rfl rfl) (lv_move rfl) 8 rfl rfl s (k () h)
       · rintro _ S hF hS D hp K hK; try dsimp only
         exact d_lv2 (lkr hp 7 rfl rfl) (lkr hp 8 rfl rfl) (lv_indexAddr (k' := r.toNat) Tryz.underlying66 Tryz.sizeOf79 rfl rfl hE.okr (by omega) (by omega) (by omega)) 9 rfl rfl hS (hK () hF)
       · intro _ S h s D p K k; exact d_lv1 (lkr p 9 rfl rfl) (lv_load Tryz.isAgg79 rfl (gives_br (i := r.toNat) (.head _) (by omega))) 10 rfl rfl s (k () h)
       · intro _ S h s D p K k; exact d_lv1 (lkr p 10 rfl rfl) (lv_nilCheck rfl) 11 rfl rfl s (k () h)
       · intro _ S h s D p K k; exact d_lv1 (lkr p 11 rfl rfl) (lv_fieldAddr (o' := 0) Tryz.underlying82 rfl Tryz.sizeOf51 rfl rfl) 12 rfl rfl s (k () h)
       · intro _ S h s D p K k; exact d_lv1 (lkr p 12 rfl rfl) (lv_fieldAddr (o' := 0) Tryz.underlying51 rfl Tryz.sizeOf3 rfl rfl) 13 rfl rfl s (k () h)
       · rintro _ S hF hS D hp K hK; try dsimp only
         exact d_lv1 (lkr hp 13 rfl rfl) (lv_load Tryz.isAgg3 rfl (gives_rq (i := r.toNat) (v := (.int .i64 ((z.s.rq.getD r.toNat Rq.z).root))) (.head _) (by omega) rfl)) 14 rfl rfl hS (hK () hF)
       · rintro _ S hF hS D hp K hK; try dsimp only
         exact d_lv2 (lkr hp 3 rfl rfl) (lkr hp 14 rfl rfl) (lv_indexAddr (k' := ((z.s.rq.getD r.toNat Rq.z).root).toNat) Tryz.underlying65 Tryz.sizeOf64 rfl rfl hE.okt (by omega) (by omega) (by omega)) 15 rfl rfl hS (hK () hF)
       · rintro _ S hF hS D hp K hK; try dsimp only
         exact d_lv1 (lkr hp 15 rfl rfl) (lv_load Tryz.isAgg64 rfl (gives_bt (i := ((z.s.rq.getD r.toNat Rq.z).root).toNat) (.head _) (by omega))) 16 rfl rfl hS (hK () hF)
       · intro _ S h s D p K k; exact d_lv1 (lkr p 16 rfl rfl) (lv_assign rfl) 17 rfl rfl s (k () h)
     · rintro _ hF
       try dsimp only at hF ⊢
       refine t_weak (E' := [(0, (vP e 0)), (3, (.int .i64 r)), (4, (.pointer (some ⟨(x.ks.getD (((z.s.rq.getD r.toNat Rq.z).root).toNat) (0, 0)).1, 0, none⟩))), (9, (.slice bs1 z.as.a.length cp2)), (10, (vN z.as.a.length)), (11, (vN k)), (12, (.bool true))]) ⟨rfl, rfl, rfl, rfl, rfl, rfl, rfl, trivial⟩ ?_
       refine q_then_n (hK8 _ _ (c_seq (fun K9 hK9 => c_region ?_)))
       obtain ⟨t, hrt⟩ : ∃ t, z.s.rt r.toNat = t := ⟨_, rfl⟩
       have hrt2 : (z.s.rq.getD r.toNat Rq.z).root.toNat = t := hrt
       have htn : t < x.n := by omega
       rw [hrt2]
       have hlo := hE.lo t htn
       have hs7 := hlo.s7
       refine tp rfl (lv_move rfl) (tp rfl (lv_nilCheck rfl) (tp rfl (lv_fieldAddr (o' := 2) Tryz.underlying76 rfl Tryz.sizeOf74 rfl rfl) (tp rfl (lv_load Tryz.isAgg74 rfl (gives_tk (i := t) (v := (.pointer (some ⟨(x.ks.getD t (0, 0)).2, 0, none⟩))) (.head _) (by omega) rfl)) ?_)))
       refine tc rfl (en_fn Tryz.call77 rfl) (ok_life0 (i := t) (by omega) (fun _ => lFinal_ok _)) ?_
       rintro _ _ ⟨rfl, rfl⟩
       refine t_done (q_then_n (hK9 _ _ ?_))
       refine c_split rfl (fun c6 => ?_) (fun c6 => ?_)
       · have hft := of_decide_eq_true c6
         refine c_seq (fun K10 hK10 => ?_)
         refine c_draw (γ := Unit) (n := 10) Tryz.mixed rfl rfl (fun _ S => True) (fun _ => [(0, 37, (vP e 0)), (1, 38, (.int .i64 r)), (2, 39, (.map (some vr))), (3, 40, (.pointer (some ⟨(x.ks.getD t (0, 0)).1, 0, none⟩))), (4, 41, (.pointer (some ⟨(x.ks.getD t (0, 0)).1, 0, none⟩))), (5, 42, (.pointer (some ⟨(x.ks.getD t (0, 0)).1, 2, none⟩))), (6, 43, (.pointer (some ⟨(x.ks.getD t (0, 0)).2, 0, none⟩))), (7, 44, (.int .i64 ((z.s.lf.getD t Lf.z).st))), (8, 45, (.int .i64 (verd ((z.s.lf.getD t Lf.z).st)))), (9, 46, (.tuple #[]))]) (fun _ S => (bif S 9 then (EngC e x ((z.leaves r (verd ((z.s.lf.getD t Lf.z).st))).s)) else (EngC e x z.s)) :: (SlV 3 1 (.slice bs1 z.as.a.length cp2) z.as.a.length (ints .i64 z.as.a)) :: (bif S 9 then (AdmO x.ad A Q ((z.leaves r (verd ((z.s.lf.getD t Lf.z).st))).as)) else (AdmO x.ad A Q z.as)) :: (bif S 9 then (TurnsO x.tn q ((z.leaves r (verd ((z.s.lf.getD t Lf.z).st))).ms) ((z.leaves r (verd ((z.s.lf.getD t Lf.z).st))).ta)) else (TurnsO x.tn q z.ms z.ta)) :: R) (()) trivial (fun _ h => h) (fun _ _ h => h) ?_ ?_
         · refine ⟨?_, ?_, ?_, ?_, ?_, ?_, ?_, ?_, ?_, ?_, trivial⟩
           · intro _ S h s D p K k; exact d_lv1 (look_b (t := 0) rfl rfl) (lv_move rfl) 0 rfl rfl s (k () h)
           · intro _ S h s D p K k; exact d_lv1 (look_b (t := 3) rfl rfl) (lv_move rfl) 1 rfl rfl s (k () h)
           · intro _ S h s D p K k; exact d_lv0 (lv_load Tryz.isAgg143 rfl (Gives.cons (Gives.cons (Gives.cons (Gives.cons hV.1))))) 2 rfl rfl s (k () h)
           · intro _ S h s D p K k; exact d_lv1 (look_b (t := 4) rfl rfl) (lv_move rfl) 3 rfl rfl s (k () h)
           · intro _ S h s D p K k; exact d_lv1 (lkr p 3 rfl rfl) (lv_nilCheck rfl) 4 rfl rfl s (k () h)
           · intro _ S h s D p K k; exact d_lv1 (lkr p 4 rfl rfl) (lv_fieldAddr (o' := 2) Tryz.underlying76 rfl Tryz.sizeOf74 rfl rfl) 5 rfl rfl s (k () h)
           · rintro _ S hF hS D hp K hK; try dsimp only
             exact d_lv1 (lkr hp 5 rfl rfl) (lv_load Tryz.isAgg74 rfl (gives_tk (i := t) (v := (.pointer (some ⟨(x.ks.getD t (0, 0)).2, 0, none⟩))) (mem_cF (nf (nf (nf hS D (k := 7) (i := 6) rfl) D (k := 8) (i := 7) rfl) D (k := 9) (i := 8) rfl) (.head _)) (by omega) rfl)) 6 rfl rfl hS (hK () hF)
           · rintro _ S hF hS D hp K hK
             try dsimp only at hF ⊢
             have s6 := hp 6 rfl
             refine d_need (small := [(43, (.pointer (some ⟨(x.ks.getD t (0, 0)).2, 0, none⟩)))]) ⟨look_row rfl 6 rfl s6, trivial⟩ ?_
             refine t_cF (nf hS D (k := 9) (i := 7) rfl) ?_
             refine tc rfl (en_fn Tryz.call23 rfl) (ok_life0 (i := t) (by omega) (fun _ => lState_ok _)) ?_
             rintro _ _ ⟨rfl, rfl⟩
             refine t_wF (A := (EngC e x ((z.leaves r (verd ((z.s.lf.getD t Lf.z).st))).s))) (nf hS D (k := 9) (i := 7) rfl) ?_
             exact d_closes ⟨look_row rfl 6 rfl s6, trivial⟩ 7 rfl rfl rfl hS (AgreeR.refl _) (t_sat (fun _ h => h) (hK () trivial))
           · intro _ S h s D p K k; exact d_lv2 (lkr p 2 rfl rfl) (lkr p 7 rfl rfl) (lv_vlook (VTab.cons (VTab.cons (VTab.cons (VTab.cons hV)))) Tryz.underlying143 Tryz.underlying3 rfl rfl (by omega) (by omega)) 8 rfl rfl s (k () h)
           · rintro _ S hF hS D hp K hK
             try dsimp only at hF ⊢
             have s0 := hp 0 rfl
             have s1 := hp 1 rfl
             have s8 := hp 8 rfl
             refine d_need (small := [(37, (vP e 0)), (38, (.int .i64 r)), (45, (.int .i64 (verd ((z.s.lf.getD t Lf.z).st))))]) ⟨look_row rfl 0 rfl s0, look_row rfl 1 rfl s1, look_row rfl 8 rfl s8, trivial⟩ ?_
             refine t_cF hS ?_
             refine t_f2 ?_
             refine t_cF hS ?_
             refine t_f3 ?_
             refine t_cF hS ?_
             refine t_f1 (t_f1 (t_f2 ?_))
             refine tc rfl (en_fn Tryz.call47 rfl) (leaves_ok (x := x) (y := z) (A := A) (Q := Q) r (verd ((z.s.lf.getD t Lf.z).st)) hzo (List.mem_append_left _ hrm) hA) ?_
             rintro _ _ ⟨rfl, rfl⟩
             refine t_f1 (t_f2 (t_f3 (t_f3 ?_)))
             exact d_closes ⟨look_row rfl 0 rfl s0, look_row rfl 1 rfl s1, look_row rfl 8 rfl s8, trivial⟩ 9 rfl rfl rfl hS (AgreeR.refl _) (t_sat (fun _ h => h) (hK () trivial))
         · rintro _ hF
           try dsimp only at hF ⊢
           refine t_weak (E' := [(0, (vP e 0)), (3, (.int .i64 r)), (4, (.pointer (some ⟨(x.ks.getD t (0, 0)).1, 0, none⟩))), (9, (.slice bs1 z.as.a.length cp2)), (10, (vN z.as.a.length)), (11, (vN k)), (12, (.bool true)), (36, (.bool (decide ((z.s.lf.getD t Lf.z).st ≥ 5))))]) ⟨rfl, rfl, rfl, rfl, rfl, rfl, rfl, rfl, trivial⟩ ?_
           refine q_then_n (hK10 _ _ ?_)
           refine c_goto ?_
           refine q_in_g ?_
           refine q_then_g ?_
           refine q_then_g ?_
           refine q_in_g ?_
           refine q_jump_g ?_
           rw [show (z.s.lf.getD t Lf.z).st = z.s.stt (z.s.rt r.toNat) from by rw [hrt]; rfl]
           refine t_f1 (t_drop (t_f1 (t_f2 (t_f2 ?_))))
           exact t_weak (by exact ⟨rfl, trivial⟩) (hK1 (z.leaves r (verd (z.s.stt (z.s.rt r.toNat)))) ⟨.step r hz hrm (by show 5 ≤ z.s.stt (z.s.rt r.toNat); rw [hrt]; exact hft), hzo.leaves (List.mem_append_left _ hrm) _⟩ (hzo.less hrm _))
       · have hft := of_decide_eq_false c6
         refine c_skip (q_in_n (q_then_n (hK6 _ _ (c_region (tp rfl (lv_add (c := ((k + 1 : Nat) : Int)) rfl rfl (wr_i64_succ (by omega))) ?_)))))
         refine tp rfl (lv_move rfl) (t_done (q_then_n (t_f2 (t_f2 ?_))))
         exact t_weak (by exact ⟨rfl, rfl, rfl, rfl, trivial⟩) ((hK3 (k + 1) ⟨by omega, calm_succ hall (by rw [hrd, hrt]; show (z.s.lf.getD t Lf.z).st < 5; omega)⟩ (by omega)))
   · refine tp rfl (lv_lss rfl rfl (decide_eq_false h5)) (t_done (q_then_n (hK4 _ _ (c_seq (fun K5 hK5 => c_false rfl (c_exit (q_then_x (q_then_x (q_in_x ?_)))))))))
     refine q_jump_n ?_
     refine t_drop (t_f2 (t_f2 ?_))
     refine q_ret0 rfl ?_
     exact ⟨z, hz, calm_all (by omega) hall, rfl, rfl⟩
 · intro K0 hpass
   refine c_seq (fun K1 hK1 => ?_)
   refine c_label ?_
   refine q_then_n (hK1 _ _ ?_)
   exact t_weak (by exact ⟨rfl, trivial⟩) (hpass (y) ⟨.refl y, hy⟩)
end Go.Proofs.YtanfdikglplkaaaGreatDoor
set_option maxRecDepth 100000
namespace Go.Proofs.YtanfdikglplkaaaGreatDoor
open Go Go.Proofs Sp
set_option maxHeartbeats 4000000 in
theorem submit_ok {R : List HP} {e : Nat} {x : EP} {q A Q : Int} {y : OS} {vr : Nat} {okd od : Int} (root : Nat) (ow op_ : Int) (hv : root < x.n ∧ 1 ≤ ow ∧ ow ≤ 100 ∧ 0 ≤ op_ ∧ op_ ≤ 7) (hg : (y.s.al.getD root (0, 0)).1 ≤ y.s.c.bud) (hy : OvOk x.n x.m A Q y) (hA : A ≤ 400 ∧ Q ≤ 400) (hV : VTab vr R) :
    Ok Tryz.prog 25 [(.pointer (some ⟨e, 0, none⟩)), (.agg #[(.int .i64 okd), (.int .i64 ((root : Nat) : Int)), (.int .i64 ow), (.int .i64 op_), (.int .i64 od)])] ((EngC e x y.s) :: (TurnsO x.tn q y.ms y.ta) :: (AdmO x.ad A Q y.as) :: R)
      (fun u M => (u = .tuple #[(.agg #[.int .i64 0, .int .i64 0, .int .i64 0, .int .i64 0, .int .i64 0]), .int .i64 (subE A Q y)] ∧ subE A Q y ≠ 0 ∧ M = EngC e x y.s :: TurnsO x.tn q y.ms y.ta :: AdmO x.ad A Q y.as :: R) ∨ (subE A Q y = 0 ∧ ∃ b c p z, SubZ A Q y ⟨((root : Nat) : Int), ow, op_, addV A Q y.as ((x.m : Nat) : Int)⟩ z ∧ u = .tuple #[.agg #[.int .i64 ((x.m : Nat) : Int), .int .i64 (z.s.rq.getD x.m Rq.z).st, .int .i64 0, .int .i64 0, .int .i64 0], .int .i64 0] ∧ M = EngC e (x.addRq b c p) z.s :: TurnsO x.tn q z.ms z.ta :: AdmO x.ad A Q z.as :: R)) := by
 refine ok_of (N := 115) Tryz.func25 rfl rfl rfl (fun W => ?_)
 refine t_learn (fun _ h => ef_of h) (fun hE => ?_)
 have hE_nb := hE.nb
 have hE_mb := hE.mb
 have hE_tn := hE.tn
 have hE_ln := hE.ln
 have hE_mn := hE.mn
 have hla := hy.ao.la
 have hlq := hy.ao.lq
 have hlm := hy.lm
 have hme : y.ms.length = y.as.a.length := by rw [← hy.me, List.length_map]
 refine c_seq (fun K1 hK1 => c_region ?_)
 refine tm rfl (mv_box rfl rfl) ?_
 rintro _ _ ⟨b1, rfl, rfl⟩
 refine tm rfl (mv_alloc Tryz.zeroValue40 rfl) ?_
 rintro _ _ ⟨b2, rfl, rfl⟩
 refine tp rfl (lv_assign rfl) (t_done (q_then_n (hK1 _ _ (c_seq (fun K2 hK2 => c_region (tp rfl (lv_fieldAddr (o' := 1) Tryz.underlying32 rfl Tryz.sizeOf3 rfl rfl) (tp rfl (lv_load Tryz.isAgg3 rfl (gives_blk (.tail _ (.head _)) rfl)) (tp rfl (lv_fieldAddr (o' := 2) Tryz.underlying32 rfl Tryz.sizeOf3 rfl rfl) (tp rfl (lv_load Tryz.isAgg3 rfl (gives_blk (.tail _ (.head _)) rfl)) (tp rfl (lv_fieldAddr (o' := 3) Tryz.underlying32 rfl Tryz.sizeOf3 rfl rfl) ?_))))))))))
 refine tp rfl (lv_load Tryz.isAgg3 rfl (gives_blk (.tail _ (.head _)) rfl)) (tp rfl (lv_build (cs := [(.int .i64 ((root : Nat) : Int)), (.int .i64 ow), (.int .i64 op_)]) (pl := [(0, 1), (1, 1), (2, 1)]) Tryz.underlying51 Tryz.zeroValue51 (fun _ => by simp) rfl rfl) ?_)
 refine tm rfl (mv_alloc Tryz.zeroValue51 rfl) ?_
 rintro _ _ ⟨b3, rfl, rfl⟩
 refine ts (sv_blkAgg (news := [(.int .i64 ((root : Nat) : Int)), (.int .i64 ow), (.int .i64 op_)]) Tryz.sizeOf51 rfl rfl rfl rfl (Nat.le_of_ble_eq_true rfl) rfl) ?_
 refine t_done (q_then_n (hK2 _ _ (c_seq (fun K3 hK3 => c_region (tp rfl (lv_move rfl) (tp rfl (lv_nilCheck rfl) (tp rfl (lv_fieldAddr (o' := 12) Tryz.underlying73 rfl Tryz.sizeOf66 rfl rfl) (tp rfl (lv_load Tryz.isAgg66 rfl (gives_e (v := (.slice x.br x.m x.cr)) (.tail _ (.tail _ (.tail _ (.head _)))) (fun _ _ => rfl))) (tp rfl (lv_len Tryz.underlying66 rfl rfl) (tp rfl (lv_assign rfl) ?_))))))))))
 refine t_done (q_then_n (hK3 _ _ (c_seq (fun K4 hK4 => c_block (c_seq (fun K5 hK5 => c_region (tp rfl (lv_move rfl) (tp rfl (lv_fieldAddr (o' := 0) Tryz.underlying51 rfl Tryz.sizeOf3 rfl rfl) (tp rfl (lv_load Tryz.isAgg3 rfl (gives_blk (.head _) rfl)) (t_f3 ?_))))))))))
 refine tc rfl (en_fn Tryz.call22 rfl) (there_e (x := x) (s := y.s) ((root : Nat) : Int)) ?_
 rintro _ _ ⟨rfl, rfl⟩
 rw [show decide (0 ≤ ((root : Nat) : Int) ∧ ((root : Nat) : Int) < x.n) = true from decide_eq_true (by omega)]
 refine tp rfl (lv_not (c := false) rfl rfl) (tp rfl (lv_move rfl) ?_)
 refine t_guard rfl rfl ?_
 refine tp rfl (lv_fieldAddr (o' := 1) Tryz.underlying51 rfl Tryz.sizeOf3 rfl rfl) ?_
 refine t_guard rfl rfl ?_
 refine tp rfl (lv_load Tryz.isAgg3 rfl (gives_blk (.tail _ (.head _)) rfl)) ?_
 refine t_guard rfl rfl ?_
 refine tp rfl (lv_lss rfl rfl (decide_eq_false (by omega))) ?_
 refine tp rfl (lv_pick_f rfl rfl) (tp rfl (lv_move rfl) ?_)
 refine t_guard rfl rfl ?_
 refine tp rfl (lv_fieldAddr (o' := 1) Tryz.underlying51 rfl Tryz.sizeOf3 rfl rfl) ?_
 refine t_guard rfl rfl ?_
 refine tp rfl (lv_load Tryz.isAgg3 rfl (gives_blk (.tail _ (.head _)) rfl)) ?_
 refine t_guard rfl rfl ?_
 refine tp rfl (lv_gtr rfl rfl (decide_eq_false (by omega))) ?_
 refine tp rfl (lv_pick_f rfl rfl) (tp rfl (lv_move rfl) ?_)
 refine t_guard rfl rfl ?_
 refine tp rfl (lv_fieldAddr (o' := 2) Tryz.underlying51 rfl Tryz.sizeOf3 rfl rfl) ?_
 refine t_guard rfl rfl ?_
 refine tp rfl (lv_load Tryz.isAgg3 rfl (gives_blk (.tail _ (.head _)) rfl)) ?_
 refine t_guard rfl rfl ?_
 refine tp rfl (lv_lss rfl rfl (decide_eq_false (by omega))) ?_
 refine tp rfl (lv_pick_f rfl rfl) (tp rfl (lv_move rfl) ?_)
 refine t_guard rfl rfl ?_
 refine tp rfl (lv_fieldAddr (o' := 2) Tryz.underlying51 rfl Tryz.sizeOf3 rfl rfl) ?_
 refine t_guard rfl rfl ?_
 refine tp rfl (lv_load Tryz.isAgg3 rfl (gives_blk (.tail _ (.head _)) rfl)) ?_
 refine t_guard rfl rfl ?_
 refine tp rfl (lv_gtr rfl rfl (decide_eq_false (by omega))) ?_
 refine tp rfl (lv_pick_f rfl rfl) (tp rfl (lv_assign rfl) (t_done (q_then_n (hK5 _ _ (c_false rfl (c_seq (fun K6 hK6 => ?_)))))))
 refine c_draw (γ := Unit) (n := 16) Tryz.mixed rfl rfl (fun _ S => True) (fun _ => [(0, 50, (vP e 0)), (1, 51, (vP e 0)), (2, 52, (vP e 10)), (3, 53, (.slice x.ba x.n x.ca)), (4, 54, (vP b3 0)), (5, 55, (vN root)), (6, 56, (.pointer (some (ad x.ba (root * 2))))), (7, 57, (.pointer (some (ad x.ba (root * 2))))), (8, 58, (.int .i64 ((y.s.al.getD root (0, 0)).1))), (9, 59, (vP e 0)), (10, 60, (vP e 0)), (11, 61, (vP e 0)), (12, 62, (vP e 0)), (13, 63, (.int .i64 y.s.c.bud)), (14, 64, (.bool false)), (15, 49, (.bool false))]) (fun _ S => (EngC e x y.s) :: (Blk b3 [(vN root), (.int .i64 ow), (.int .i64 op_)] 51) :: (Blk b2 [(.int .i64 0), (.int .i64 0), (.int .i64 0), (.int .i64 0), (.int .i64 0)] 40) :: (Blk b1 [(.int .i64 okd), (vN root), (.int .i64 ow), (.int .i64 op_), (.int .i64 od)] 32) :: (TurnsO x.tn q y.ms y.ta) :: (AdmO x.ad A Q y.as) :: R) (()) trivial (fun _ h => h) (fun _ _ h => h) ?_ ?_
 · refine ⟨?_, ?_, ?_, ?_, ?_, ?_, ?_, ?_, ?_, ?_, ?_, ?_, ?_, ?_, ?_, ?_, trivial⟩
   · intro _ S h s D p K k; exact d_lv1 (look_b (t := 0) rfl rfl) (lv_move rfl) 0 rfl rfl s (k () h)
   · intro _ S h s D p K k; exact d_lv1 (lkr p 0 rfl rfl) (lv_nilCheck rfl) 1 rfl rfl s (k () h)
   · intro _ S h s D p K k; exact d_lv1 (lkr p 1 rfl rfl) (lv_fieldAddr (o' := 10) Tryz.underlying73 rfl Tryz.sizeOf24 rfl rfl) 2 rfl rfl s (k () h)
   · intro _ S h s D p K k; exact d_lv1 (lkr p 2 rfl rfl) (lv_load Tryz.isAgg24 rfl (gives_e (v := (.slice x.ba x.n x.ca)) (.head _) (fun _ _ => rfl))) 3 rfl rfl s (k () h)
   · intro _ S h s D p K k; exact d_lv1 (look_b (t := 6) rfl rfl) (lv_fieldAddr (o' := 0) Tryz.underlying51 rfl Tryz.sizeOf3 rfl rfl) 4 rfl rfl s (k () h)
   · intro _ S h s D p K k; exact d_lv1 (lkr p 4 rfl rfl) (lv_load Tryz.isAgg3 rfl (gives_blk (.tail _ (.head _)) rfl)) 5 rfl rfl s (k () h)
   · rintro _ S hF hS D hp K hK; try dsimp only
     exact d_lv2 (lkr hp 3 rfl rfl) (lkr hp 5 rfl rfl) (lv_indexAddr (k' := root * 2) Tryz.underlying24 Tryz.sizeOf57 rfl rfl hE.oka (by omega) (by omega) (by omega)) 6 rfl rfl hS (hK () hF)
   · intro _ S h s D p K k; exact d_lv1 (lkr p 6 rfl rfl) (lv_fieldAddr_ad (o' := root * 2) Tryz.underlying57 rfl Tryz.sizeOf3 rfl rfl) 7 rfl rfl s (k () h)
   · intro _ S h s D p K k; exact d_lv1 (lkr p 7 rfl rfl) (lv_load Tryz.isAgg3 rfl (gives_ba0 (i := root) (.head _) (by omega))) 8 rfl rfl s (k () h)
   · intro _ S h s D p K k; exact d_lv1 (look_b (t := 0) rfl rfl) (lv_move rfl) 9 rfl rfl s (k () h)
   · intro _ S h s D p K k; exact d_lv1 (lkr p 9 rfl rfl) (lv_nilCheck rfl) 10 rfl rfl s (k () h)
   · intro _ S h s D p K k; exact d_lv1 (lkr p 10 rfl rfl) (lv_fieldAddr (o' := 0) Tryz.underlying73 rfl Tryz.sizeOf23 rfl rfl) 11 rfl rfl s (k () h)
   · intro _ S h s D p K k; exact d_lv1 (lkr p 11 rfl rfl) (lv_fieldAddr (o' := 0) Tryz.underlying23 rfl Tryz.sizeOf3 rfl rfl) 12 rfl rfl s (k () h)
   · rintro _ S hF hS D hp K hK; try dsimp only
     exact d_lv1 (lkr hp 12 rfl rfl) (lv_load Tryz.isAgg3 rfl (gives_e (v := (.int .i64 y.s.c.bud)) (.head _) (fun _ _ => rfl))) 13 rfl rfl hS (hK () hF)
   · intro _ S h s D p K k; exact d_lv2 (lkr p 8 rfl rfl) (lkr p 13 rfl rfl) (lv_gtr rfl rfl (decide_eq_false (by omega))) 14 rfl rfl s (k () h)
   · intro _ S h s D p K k; exact d_lv1 (lkr p 14 rfl rfl) (lv_assign rfl) 15 rfl rfl s (k () h)
 · rintro _ hF
   try dsimp only at hF ⊢
   refine t_weak (E' := [(0, (vP e 0)), (1, (.agg #[(.int .i64 okd), (vN root), (.int .i64 ow), (.int .i64 op_), (.int .i64 od)])), (3, (vP b1 0)), (4, (vP b2 0)), (5, (.int .i64 0)), (6, (vP b3 0)), (7, (vN x.m)), (22, (.bool false)), (49, (.bool false))]) ⟨rfl, rfl, rfl, rfl, rfl, rfl, rfl, rfl, rfl, trivial⟩ ?_
   refine q_then_n (hK6 _ _ (c_false rfl (c_seq (fun K7 hK7 => c_region (tp rfl (lv_move rfl) ?_)))))
   by_cases h4 : ((x.m : Nat) : Int) ≥ 64
   · refine tp rfl (lv_geq rfl rfl (decide_eq_true h4)) (tp rfl (lv_assign rfl) (t_done (q_then_n (hK7 _ _ (c_true rfl (c_seq (fun K8 hK8 => c_region (tp rfl (lv_build (cs := [(.int .i64 0), (.int .i64 0), (.int .i64 0), (.int .i64 0), (.int .i64 0)]) (pl := [(0, 1), (1, 1), (2, 1), (3, 1), (4, 1)]) Tryz.underlying40 Tryz.zeroValue40 (fun _ => by simp) rfl rfl) ?_))))))))
     refine t_f2 ?_
     refine ts (sv_blkAgg (news := [(.int .i64 0), (.int .i64 0), (.int .i64 0), (.int .i64 0), (.int .i64 0)]) Tryz.sizeOf40 rfl rfl rfl rfl (Nat.le_of_ble_eq_true rfl) rfl) ?_
     refine tp rfl (lv_assign rfl) (t_done (q_then_n (hK8 _ _ (c_ret ?_))))
     refine q_in_r ?_
     refine q_then_r ?_
     refine t_f2 (t_drop (t_f2 (t_drop ?_)))
     refine q_retc2 (cs := [(.int .i64 0), (.int .i64 0), (.int .i64 0), (.int .i64 0), (.int .i64 0)]) rfl rfl rfl Tryz.isAgg40 Tryz.sizeOf40 (gives_all5 (gives_blk (.head _) rfl) (gives_blk (.head _) rfl) (gives_blk (.head _) rfl) (gives_blk (.head _) rfl) (gives_blk (.head _) rfl)) (fun _ h => h.drop) ?_
     exact .inl ⟨by unfold subE; rw [if_pos (by omega)], by unfold subE; rw [if_pos (by omega)]; decide, rfl⟩
   · refine tp rfl (lv_geq rfl rfl (decide_eq_false h4)) (tp rfl (lv_assign rfl) (t_done (q_then_n (hK7 _ _ (c_false rfl (c_skip (q_in_n (q_then_n (hK4 _ _ (c_seq (fun K8 hK8 => c_region ?_)))))))))))
     refine tp rfl (lv_move rfl) (tp rfl (lv_nilCheck rfl) (tp rfl (lv_fieldAddr (o' := 16) Tryz.underlying73 rfl Tryz.sizeOf70 rfl rfl) (tp rfl (lv_load Tryz.isAgg70 rfl (gives_e (v := (.pointer (some ⟨x.ad, 0, none⟩))) (.head _) (fun _ _ => rfl))) (tp rfl (lv_move rfl) (t_f5 ?_)))))
     refine tc rfl (en_fn Tryz.call44 rfl) (aadd_ok (A := A) (Q := Q) (s := y.as) ((x.m : Nat) : Int) (by omega)) ?_
     rintro _ _ ⟨rfl, rfl⟩
     refine tp rfl (lv_move rfl) (tp rfl (lv_extract rfl rfl) (tp rfl (lv_extract rfl rfl) (tp rfl (lv_assign rfl) (tp rfl (lv_assign rfl) (t_done (q_then_n (hK8 _ _ (c_seq (fun K9 hK9 => c_seq (fun K10 hK10 => c_region ?_))))))))))
     refine tp rfl (lv_move rfl) ?_
     by_cases h5 : (addEr A Q y.as ((x.m : Nat) : Int)) = 0
     · refine tp rfl (lv_neq rfl rfl (bne_eq_false_iff_eq.2 h5)) (t_done (q_then_n (hK10 _ _ (c_false rfl (c_skip (q_then_n (hK9 _ _ (c_seq (fun K11 hK11 => t_f1 ?_)))))))))
       refine t_openC (fun bl cl hE3 hl3 => ?_)
       unfold engL engC; simp only [List.cons_append, List.nil_append]
       refine c_draw (γ := Nat × Option Addr × Nat × Option Addr × Nat) (n := 14) Tryz.mixed rfl rfl (fun (b6, bs7, cp8, bs11, cp12) S => (S 9 = true → SlOk bs7 1) ∧ (S 9 = true → 1 ≤ cp8) ∧ (S 10 = true → SlOk bs11 (x.m + 1)) ∧ (S 10 = true → x.m + 1 ≤ cp12)) (fun (b6, bs7, cp8, bs11, cp12) => [(0, 83, (vP e 0)), (1, 84, (vP e 0)), (2, 85, (vP e 0)), (3, 86, (vP e 12)), (4, 87, (.slice x.br x.m x.cr)), (5, 88, (.agg #[(vN root), (.int .i64 ow), (.int .i64 op_)])), (6, 89, (.int .i64 (addV A Q y.as ((x.m : Nat) : Int)))), (7, 90, (.agg #[(vN root), (.int .i64 ow), (.int .i64 op_), (.int .i64 (addV A Q y.as ((x.m : Nat) : Int)))])), (8, 91, (vP b6 0)), (9, 92, (.slice bs7 1 cp8)), (10, 93, (.slice bs11 (x.m + 1) cp12)), (11, 94, (vP e 0)), (12, 95, (vP e 12))]) (fun (b6, bs7, cp8, bs11, cp12) S => (bif S 13 then (Blk e [(.int .i64 y.s.c.bud), (.int .i64 y.s.c.slots), (.int .i64 y.s.c.act), (.int .i64 y.s.c.que), (.int .i64 y.s.c.tries), (.int .i64 y.s.c.pre), (.int .i64 y.s.c.tmo), (.int .i64 y.s.c.bak), (.int .i64 y.s.c.most), (.int .i64 y.s.c.qu), (.slice x.ba x.n x.ca), (.slice x.bt x.n x.ct), (.slice bs11 (x.m + 1) cp12), (vP x.g 0), (vP x.tp 0), (vP x.ld 0), (vP x.ad 0), (vP x.tn 0), (.int .i64 y.s.now), (.int .i64 y.s.bg), (.slice bl y.s.lg.length cl)] 73) else (Blk e [(.int .i64 y.s.c.bud), (.int .i64 y.s.c.slots), (.int .i64 y.s.c.act), (.int .i64 y.s.c.que), (.int .i64 y.s.c.tries), (.int .i64 y.s.c.pre), (.int .i64 y.s.c.tmo), (.int .i64 y.s.c.bak), (.int .i64 y.s.c.most), (.int .i64 y.s.c.qu), (.slice x.ba x.n x.ca), (.slice x.bt x.n x.ct), (.slice x.br x.m x.cr), (vP x.g 0), (vP x.tp 0), (vP x.ld 0), (vP x.ad 0), (vP x.tn 0), (.int .i64 y.s.now), (.int .i64 y.s.bg), (.slice bl y.s.lg.length cl)] 73)) :: (SlV 57 2 (.slice x.ba x.n x.ca) x.n (pairs y.s.al)) :: (SlV 64 1 (.slice x.bt x.n x.ct) x.n (recs ptrF (x.ks.map Prod.fst))) :: (bif S 10 then (SlV 79 1 (.slice bs11 (x.m + 1) cp12) (x.m + 1) (recs ptrF (x.rs ++ [b6]))) else (SlV 79 1 (.slice x.br x.m x.cr) x.m (recs ptrF x.rs))) :: (SlV 45 5 (.slice bl y.s.lg.length cl) y.s.lg.length (recs evC y.s.lg)) :: (Join (blks TTk Prod.fst tkC x.ks y.s.tk)) :: (Join (blks TLf Prod.snd (fun _ => lfC) x.ks y.s.lf)) :: (Join (blks TRq id (fun _ => rqC) x.rs y.s.rq)) :: (AdmO x.ad A Q (addS A Q y.as ((x.m : Nat) : Int))) :: (Blk b3 [(vN root), (.int .i64 ow), (.int .i64 op_)] 51) :: (Blk b2 [(.int .i64 0), (.int .i64 0), (.int .i64 0), (.int .i64 0), (.int .i64 0)] 40) :: (Blk b1 [(.int .i64 okd), (vN root), (.int .i64 ow), (.int .i64 op_), (.int .i64 od)] 32) :: (TurnsO x.tn q y.ms y.ta) :: (bif S 8 then (Blk b6 [(vN root), (.int .i64 ow), (.int .i64 op_), (.int .i64 (addV A Q y.as ((x.m : Nat) : Int)))] 82) else Emp) :: (bif S 9 then (SlV 79 1 (.slice bs7 1 cp8) 1 [(vP b6 0)]) else Emp) :: R) (0, none, 0, none, 0) (by simp [Nat.ble]) (fun _ h => sat_emps [_, _, _, _, _, _, _, _, _, _, _, _, _] 2 h) (fun _ _ h => h) ?_ ?_
       · refine ⟨?_, ?_, ?_, ?_, ?_, ?_, ?_, ?_, ?_, ?_, ?_, ?_, ?_, ?_, trivial⟩
         · rintro ⟨b6, bs7, cp8, bs11, cp12⟩ S hF hS D hp K hK; try dsimp only
           exact d_lv1 (look_b (t := 0) rfl rfl) (lv_move rfl) 0 rfl rfl hS (hK (b6, bs7, cp8, bs11, cp12) hF)
         · rintro ⟨b6, bs7, cp8, bs11, cp12⟩ S hF hS D hp K hK; try dsimp only
           exact d_lv1 (look_b (t := 0) rfl rfl) (lv_move rfl) 1 rfl rfl hS (hK (b6, bs7, cp8, bs11, cp12) hF)
         · rintro ⟨b6, bs7, cp8, bs11, cp12⟩ S hF hS D hp K hK; try dsimp only
           exact d_lv1 (lkr hp 1 rfl rfl) (lv_nilCheck rfl) 2 rfl rfl hS (hK (b6, bs7, cp8, bs11, cp12) hF)
         · rintro ⟨b6, bs7, cp8, bs11, cp12⟩ S hF hS D hp K hK; try dsimp only
           exact d_lv1 (lkr hp 2 rfl rfl) (lv_fieldAddr (o' := 12) Tryz.underlying73 rfl Tryz.sizeOf66 rfl rfl) 3 rfl rfl hS (hK (b6, bs7, cp8, bs11, cp12) hF)
         · rintro ⟨b6, bs7, cp8, bs11, cp12⟩ S hF hS D hp K hK; try dsimp only
           exact d_lv1 (lkr hp 3 rfl rfl) (lv_load Tryz.isAgg66 rfl (gives_blk (mem_cF (nf hS D (k := 13) (i := 4) rfl) (.head _)) rfl)) 4 rfl rfl hS (hK (b6, bs7, cp8, bs11, cp12) hF)
         · rintro ⟨b6, bs7, cp8, bs11, cp12⟩ S hF hS D hp K hK; try dsimp only
           exact d_lv1 (look_b (t := 6) rfl rfl) (lv_loadAgg (cs := [(.int .i64 ((root : Nat) : Int)), (.int .i64 ow), (.int .i64 op_)]) Tryz.isAgg51 Tryz.sizeOf51 rfl (gives_all3 (gives_blk (.tail _ (.tail _ (.tail _ (.tail _ (.tail _ (.tail _ (.tail _ (.tail _ (.tail _ (.head _)))))))))) rfl) (gives_blk (.tail _ (.tail _ (.tail _ (.tail _ (.tail _ (.tail _ (.tail _ (.tail _ (.tail _ (.head _)))))))))) rfl) (gives_blk (.tail _ (.tail _ (.tail _ (.tail _ (.tail _ (.tail _ (.tail _ (.tail _ (.tail _ (.head _)))))))))) rfl))) 5 rfl rfl hS (hK (b6, bs7, cp8, bs11, cp12) hF)
         · rintro ⟨b6, bs7, cp8, bs11, cp12⟩ S hF hS D hp K hK; try dsimp only
           exact d_lv1 (look_b (t := 8) rfl rfl) (lv_move rfl) 6 rfl rfl hS (hK (b6, bs7, cp8, bs11, cp12) hF)
         · rintro ⟨b6, bs7, cp8, bs11, cp12⟩ S hF hS D hp K hK; try dsimp only
           exact d_lv2 (lkr hp 5 rfl rfl) (lkr hp 6 rfl rfl) (lv_build (cs := [(.int .i64 ((root : Nat) : Int)), (.int .i64 ow), (.int .i64 op_), (.int .i64 (addV A Q y.as ((x.m : Nat) : Int)))]) (pl := [(0, 3), (3, 1)]) Tryz.underlying82 Tryz.zeroValue82 (fun _ => by simp) rfl rfl) 7 rfl rfl hS (hK (b6, bs7, cp8, bs11, cp12) hF)
         · rintro ⟨b6, bs7, cp8, bs11, cp12⟩ S hF hS D hp K hK
           try dsimp only at hF ⊢
           obtain ⟨hf0, hf1, hf2, hf3⟩ := hF
           have s7 := hp 7 rfl
           refine d_need (small := [(90, (.agg #[(vN root), (.int .i64 ow), (.int .i64 op_), (.int .i64 (addV A Q y.as ((x.m : Nat) : Int)))]))]) ⟨look_row rfl 7 rfl s7, trivial⟩ ?_
           refine t_f3 ?_
           refine t_cF (nf (nf hS D (k := 9) (i := 8) rfl) D (k := 10) (i := 9) rfl) ?_
           refine tm rfl (mv_box rfl rfl) ?_
           rintro _ _ ⟨b6, rfl, rfl⟩
           refine t_f1 ?_
           refine t_wF (A := (SlV 79 1 (.slice bs11 (x.m + 1) cp12) (x.m + 1) (recs ptrF (x.rs ++ [b6])))) (nf (nf hS D (k := 9) (i := 8) rfl) D (k := 10) (i := 9) rfl) ?_
           refine t_f15 ?_
           refine t_cF (nf hS D (k := 9) (i := 8) rfl) ?_
           refine t_wF (A := (SlV 79 1 (.slice bs7 1 cp8) 1 [(.pointer (some ⟨b6, 0, none⟩))])) (nf hS D (k := 9) (i := 8) rfl) ?_
           refine t_f15 (t_f15 (t_f15 (t_f15 (t_f15 (t_f15 (t_f15 (t_f15 (t_f15 (t_f15 ?_)))))))))
           refine t_f11 (t_f15 (t_f15 (t_f15 (t_f15 ?_))))
           refine t_sat (fun _ h => sat_put [_, _, _, _, _, _, _, _, _, _, _, _, _] h) ?_
           exact d_closes ⟨look_row rfl 7 rfl s7, trivial⟩ 8 rfl rfl rfl hS (by exact ⟨.inl rfl, .inl rfl, .inl rfl, .inl rfl, .inl rfl, .inl rfl, .inl rfl, .inl rfl, .inr ⟨rfl, rfl, hS⟩, .inl rfl, .inl rfl, .inl rfl, .inl rfl, trivial⟩) (t_sat (fun _ h => h) (hK (b6, bs7, cp8, bs11, cp12) ⟨hf0, hf1, hf2, hf3⟩))
         · rintro ⟨b6, bs7, cp8, bs11, cp12⟩ S hF hS D hp K hK
           try dsimp only at hF ⊢
           obtain ⟨hf0, hf1, hf2, hf3⟩ := hF
           have s8 := hp 8 rfl
           refine d_need (small := [(91, (vP b6 0))]) ⟨look_row rfl 8 rfl s8, trivial⟩ ?_
           refine tm rfl (mv_buildSlice (cs := [(.pointer (some ⟨b6, 0, none⟩))]) Tryz.underlying66 Tryz.sizeOf79 Tryz.zeroValue79 (by decide) rfl rfl rfl rfl) ?_
           rintro _ _ ⟨bs7, cp8, hok9, hle10, rfl, rfl⟩
           refine t_sat (fun _ h => sat_put [_, _, _, _, _, _, _, _, _, _, _, _, _, _] h) ?_
           exact d_closes ⟨look_row rfl 8 rfl s8, trivial⟩ 9 rfl rfl rfl hS (by exact ⟨.inl rfl, .inl rfl, .inl rfl, .inl rfl, .inl rfl, .inl rfl, .inl rfl, .inl rfl, .inl rfl, .inr ⟨rfl, rfl, hS⟩, .inl rfl, .inl rfl, .inl rfl, trivial⟩) (t_sat (fun _ h => h) (hK (b6, bs7, cp8, bs11, cp12) ⟨(fun _ => hok9), (fun _ => hle10), hf2, hf3⟩))
         · rintro ⟨b6, bs7, cp8, bs11, cp12⟩ S hF hS D hp K hK
           try dsimp only at hF ⊢
           obtain ⟨hf0, hf1, hf2, hf3⟩ := hF
           have s9 := hp 9 rfl
           have hok9 := hf0 s9
           have hle10 := hf1 s9
           have s4 := hp 4 rfl
           refine d_need (small := [(87, (.slice x.br x.m x.cr)), (92, (.slice bs7 1 cp8))]) ⟨look_row rfl 4 rfl s4, look_row rfl 9 rfl s9, trivial⟩ ?_
           refine t_cF (nf hS D (k := 13) (i := 10) rfl) ?_
           refine t_f3 ?_
           refine t_cF hS ?_
           refine t_f13 ?_
           have s8 := D 9 8 rfl s9
           refine t_cT s8 ?_
           refine t_f14 ?_
           refine t_cT s9 ?_
           refine t_f2 ?_
           refine tm rfl (mv_append (i := Tryz.t79) Tryz.underlying66 Tryz.type79 rfl rfl rfl (by decide) rfl rfl hok9 (by first | (simp; done) | (simp; omega)) (rd_sl (.tail _ (.head _))) (by simp [Value.oneCell']) (by rw [show Tryz.t79.bytes = 8 from rfl]; omega)) ?_
           rintro _ _ ⟨bs11, cp12, hok13, hle14, rfl, rfl⟩
           rw [show recs ptrF x.rs ++ [(.pointer (some ⟨b6, 0, none⟩))] = recs ptrF (x.rs ++ [b6]) from recs_snoc ptrF x.rs b6]
           refine t_f3 ?_
           refine t_wF (A := (Blk e [(.int .i64 y.s.c.bud), (.int .i64 y.s.c.slots), (.int .i64 y.s.c.act), (.int .i64 y.s.c.que), (.int .i64 y.s.c.tries), (.int .i64 y.s.c.pre), (.int .i64 y.s.c.tmo), (.int .i64 y.s.c.bak), (.int .i64 y.s.c.most), (.int .i64 y.s.c.qu), (.slice x.ba x.n x.ca), (.slice x.bt x.n x.ct), (.slice bs11 (x.m + 1) cp12), (.pointer (some ⟨x.g, 0, none⟩)), (.pointer (some ⟨x.tp, 0, none⟩)), (.pointer (some ⟨x.ld, 0, none⟩)), (.pointer (some ⟨x.ad, 0, none⟩)), (.pointer (some ⟨x.tn, 0, none⟩)), (.int .i64 y.s.now), (.int .i64 y.s.bg), (.slice bl y.s.lg.length cl)] 73)) (nf hS D (k := 13) (i := 10) rfl) ?_
           refine t_f3 ?_
           refine t_wT (B := Emp) s8 ?_
           refine t_f3 ?_
           refine t_wT (B := Emp) s9 ?_
           refine t_f1 (t_f14 (t_f14 (t_f14 (t_f14 (t_f14 (t_f14 (t_f14 (t_f14 (t_f14 ?_)))))))))
           refine t_f12 (t_f14 (t_f14 (t_f14 ?_)))
           exact d_closes ⟨look_row rfl 4 rfl s4, look_row rfl 9 rfl s9, trivial⟩ 10 rfl rfl rfl hS (by exact ⟨.inl rfl, .inl rfl, .inl rfl, .inl rfl, .inl rfl, .inl rfl, .inl rfl, .inl rfl, .inl rfl, .inl rfl, .inr ⟨rfl, rfl, hS⟩, .inl rfl, .inl rfl, trivial⟩) (t_sat (fun _ h => h) (hK (b6, bs7, cp8, bs11, cp12) ⟨hf0, hf1, (fun _ => hok13), (fun _ => hle14)⟩))
         · rintro ⟨b6, bs7, cp8, bs11, cp12⟩ S hF hS D hp K hK; try dsimp only
           exact d_lv1 (lkr hp 0 rfl rfl) (lv_nilCheck rfl) 11 rfl rfl hS (hK (b6, bs7, cp8, bs11, cp12) hF)
         · rintro ⟨b6, bs7, cp8, bs11, cp12⟩ S hF hS D hp K hK; try dsimp only
           exact d_lv1 (lkr hp 11 rfl rfl) (lv_fieldAddr (o' := 12) Tryz.underlying73 rfl Tryz.sizeOf66 rfl rfl) 12 rfl rfl hS (hK (b6, bs7, cp8, bs11, cp12) hF)
         · rintro ⟨b6, bs7, cp8, bs11, cp12⟩ S hF hS D hp K hK
           try dsimp only at hF ⊢
           obtain ⟨hf0, hf1, hf2, hf3⟩ := hF
           have s9 := hp 9 rfl
           have hok9 := hf0 s9
           have hle10 := hf1 s9
           have s10 := hp 10 rfl
           have hok13 := hf2 s10
           have hle14 := hf3 s10
           have s12 := hp 12 rfl
           refine d_need (small := [(93, (.slice bs11 (x.m + 1) cp12)), (95, (vP e 12))]) ⟨look_row rfl 10 rfl s10, look_row rfl 12 rfl s12, trivial⟩ ?_
           refine t_cF hS ?_
           refine ts (sv_blk Tryz.sizeOf66 rfl rfl rfl (Nat.le_of_ble_eq_true rfl) rfl) ?_
           exact d_closes0 ⟨look_row rfl 10 rfl s10, look_row rfl 12 rfl s12, trivial⟩ rfl (t_sat (fun _ h => h) (hK (b6, bs7, cp8, bs11, cp12) ⟨hf0, hf1, hf2, hf3⟩))
       · rintro ⟨b6, bs7, cp8, bs11, cp12⟩ hF
         try dsimp only at hF ⊢
         obtain ⟨hf0, hf1, hf2, hf3⟩ := hF
         have hok9 := hf0 rfl
         have hle10 := hf1 rfl
         have hok13 := hf2 rfl
         have hle14 := hf3 rfl
         refine t_weak (E' := [(0, (vP e 0)), (1, (.agg #[(.int .i64 okd), (vN root), (.int .i64 ow), (.int .i64 op_), (.int .i64 od)])), (3, (vP b1 0)), (4, (vP b2 0)), (5, (.int .i64 0)), (6, (vP b3 0)), (7, (vN x.m)), (8, (.int .i64 (addV A Q y.as ((x.m : Nat) : Int)))), (9, (.int .i64 (addEr A Q y.as ((x.m : Nat) : Int)))), (22, (.bool false)), (49, (.bool false)), (66, (.bool false)), (80, (.bool false))]) ⟨rfl, rfl, rfl, rfl, rfl, rfl, rfl, rfl, rfl, rfl, rfl, rfl, rfl, trivial⟩ ?_
         refine q_then_n (hK11 _ _ (c_seq (fun K12 hK12 => c_seq (fun K13 hK13 => c_region (t_f7 (t_f13 (t_f8 (t_f8 (t_f8 (t_f8 ?_))))))))))
         refine t_f8 (t_f8 (t_f8 ?_))
         refine t_shutR (p := b6) ⟨((root : Nat) : Int), ow, op_, addV A Q y.as ((x.m : Nat) : Int)⟩ hE3 hl3 (by omega) hok13 hle14 ?_
         obtain ⟨x2, hx2⟩ : ∃ z, x.addRq bs11 cp12 b6 = z := ⟨_, rfl⟩
         have hxn : x2.n = x.n := by rw [← hx2]; rfl
         have hxm : x2.m = x.m + 1 := by rw [← hx2]; rfl
         have hxt : x.tn = x2.tn := by rw [← hx2]; rfl
         have hxa : x.ad = x2.ad := by rw [← hx2]; rfl
         rw [hx2, hxt, hxa]
         have hadd : y.added A Q ⟨((root : Nat) : Int), ow, op_, addV A Q y.as ((x.m : Nat) : Int)⟩ = ⟨y.s.addRq ⟨((root : Nat) : Int), ow, op_, addV A Q y.as ((x.m : Nat) : Int)⟩, y.ms, y.ta, addS A Q y.as ((x.m : Nat) : Int)⟩ := by unfold OS.added; rw [hlm]
         have her : addEr A Q y.as ((y.s.rq.length : Nat) : Int) = 0 := by rw [hlm]; omega
         have hrr : 0 ≤ (⟨((root : Nat) : Int), ow, op_, addV A Q y.as ((x.m : Nat) : Int)⟩ : Rq).root ∧ (⟨((root : Nat) : Int), ow, op_, addV A Q y.as ((x.m : Nat) : Int)⟩ : Rq).root < x.n ∧ 1 ≤ (⟨((root : Nat) : Int), ow, op_, addV A Q y.as ((x.m : Nat) : Int)⟩ : Rq).wt ∧ (⟨((root : Nat) : Int), ow, op_, addV A Q y.as ((x.m : Nat) : Int)⟩ : Rq).wt ≤ 100 ∧ 0 ≤ (⟨((root : Nat) : Int), ow, op_, addV A Q y.as ((x.m : Nat) : Int)⟩ : Rq).pr ∧ (⟨((root : Nat) : Int), ow, op_, addV A Q y.as ((x.m : Nat) : Int)⟩ : Rq).pr ≤ 7 := by dsimp only; omega
         have hsub : subE A Q y = 0 := by unfold subE; rw [if_neg (by omega)]; exact her
         refine tp rfl (lv_move rfl) ?_
         by_cases h15 : (addV A Q y.as ((x.m : Nat) : Int)) = 1
         · refine tp rfl (lv_eql rfl rfl (beq_iff_eq.2 h15)) (t_done (q_then_n (hK13 _ _ (c_true rfl (c_seq (fun K14 hK14 => c_region ?_))))))
           have hv1 : addV A Q y.as ((y.s.rq.length : Nat) : Int) = 1 := by rw [hlm]; assumption
           have hoa := hy.addedA hrr her hv1
           have ho0 := hy.added0 hrr her
           rw [hadd] at hoa ho0
           rw [hlm] at hoa
           rw [← hxn, ← hxm] at hoa
           rw [← hxn] at ho0
           refine tp rfl (lv_move rfl) (tp rfl (lv_move rfl) (t_f5 (t_f1 ?_)))
           refine tc rfl (en_fn Tryz.call45 rfl) (begins_ok (x := x2) (s := (y.s.addRq ⟨((root : Nat) : Int), ow, op_, addV A Q y.as ((x.m : Nat) : Int)⟩)) (ms := y.ms) x.m (by omega) ho0.1 (by omega)) ?_
           rintro _ _ ⟨rfl, rfl⟩
           refine t_done (q_then_n (hK14 _ _ (c_region (tp rfl (lv_move rfl) (t_f2 (t_f2 (t_f2 ?_)))))))
           refine tc rfl (en_fn Tryz.call46 rfl) (over_ok (x := x2) (y := (OS.come ⟨y.s.addRq ⟨((root : Nat) : Int), ow, op_, addV A Q y.as ((x.m : Nat) : Int)⟩, y.ms, y.ta, addS A Q y.as ((x.m : Nat) : Int)⟩ x.m)) (A := A) (Q := Q) hoa hA (VTab.cons (VTab.cons (VTab.cons (VTab.cons hV))))) ?_
           rintro _ _ ⟨yo16, hyo16v, hyo16c, rfl, rfl⟩
           refine t_done (q_then_n (hK12 _ _ (c_seq (fun K15 hK15 => c_region ?_))))
           refine t_learn (fun _ h => ef_of h) (fun hE4 => ?_)
           have hE4_nb := hE4.nb
           have hE4_mb := hE4.mb
           have hE4_tn := hE4.tn
           have hE4_ln := hE4.ln
           have hE4_mn := hE4.mn
           refine tp rfl (lv_move rfl) (tp rfl (lv_move rfl) (tp rfl (lv_nilCheck rfl) (tp rfl (lv_fieldAddr (o' := 12) Tryz.underlying73 rfl Tryz.sizeOf66 rfl rfl) (tp rfl (lv_load Tryz.isAgg66 rfl (gives_e (v := (.slice x2.br x2.m x2.cr)) (.head _) (fun _ _ => rfl))) (tp rfl (lv_move rfl) (tp rfl (lv_indexAddr (k' := x.m) Tryz.underlying66 Tryz.sizeOf79 rfl rfl hE4.okr (by omega) (by omega) (by omega)) ?_))))))
           refine tp rfl (lv_load Tryz.isAgg79 rfl (gives_br (i := x.m) (.head _) (by omega))) ?_
           refine tp rfl (lv_nilCheck rfl) (tp rfl (lv_fieldAddr (o' := 3) Tryz.underlying82 rfl Tryz.sizeOf3 rfl rfl) (tp rfl (lv_load Tryz.isAgg3 rfl (gives_rq (i := x.m) (v := (.int .i64 ((yo16.s.rq.getD x.m Rq.z).st))) (.head _) (by omega) rfl)) ?_))
           refine tp rfl (lv_build (cs := [(.int .i64 ((x.m : Nat) : Int)), (.int .i64 ((yo16.s.rq.getD x.m Rq.z).st)), (.int .i64 0), (.int .i64 0), (.int .i64 0)]) (pl := [(0, 1), (1, 1), (2, 1), (3, 1), (4, 1)]) Tryz.underlying40 Tryz.zeroValue40 (fun _ => by simp) rfl rfl) ?_
           refine t_f4 ?_
           refine ts (sv_blkAgg (news := [(.int .i64 ((x.m : Nat) : Int)), (.int .i64 ((yo16.s.rq.getD x.m Rq.z).st)), (.int .i64 0), (.int .i64 0), (.int .i64 0)]) Tryz.sizeOf40 rfl rfl rfl rfl (Nat.le_of_ble_eq_true rfl) rfl) ?_
           refine tp rfl (lv_assign rfl) (t_done (q_then_n (hK15 _ _ (c_ret ?_))))
           subst hx2
           refine t_f4 (t_drop (t_f4 (t_drop (t_f4 (t_drop ?_)))))
           refine q_retc2 (cs := [(.int .i64 ((x.m : Nat) : Int)), (.int .i64 ((yo16.s.rq.getD x.m Rq.z).st)), (.int .i64 0), (.int .i64 0), (.int .i64 0)]) rfl rfl rfl Tryz.isAgg40 Tryz.sizeOf40 (gives_all5 (gives_blk (.head _) rfl) (gives_blk (.head _) rfl) (gives_blk (.head _) rfl) (gives_blk (.head _) rfl) (gives_blk (.head _) rfl)) (fun _ h => h.drop) ?_
           refine .inr ⟨hsub, bs11, cp12, b6, yo16, .inl ⟨hv1, ?_, hyo16c⟩, ?_⟩
           · rw [hlm, hadd]; exact hyo16v
           · exact ⟨rfl, rfl⟩
         · refine tp rfl (lv_eql rfl rfl (beq_eq_false_iff_ne.2 h15)) (t_done (q_then_n (hK13 _ _ (c_false rfl (c_skip (q_then_n (hK12 _ _ (c_seq (fun K14 hK14 => c_region ?_)))))))))
           refine t_learn (fun _ h => ef_of h) (fun hE4 => ?_)
           have hE4_nb := hE4.nb
           have hE4_mb := hE4.mb
           have hE4_tn := hE4.tn
           have hE4_ln := hE4.ln
           have hE4_mn := hE4.mn
           refine tp rfl (lv_move rfl) (tp rfl (lv_move rfl) (tp rfl (lv_nilCheck rfl) (tp rfl (lv_fieldAddr (o' := 12) Tryz.underlying73 rfl Tryz.sizeOf66 rfl rfl) (tp rfl (lv_load Tryz.isAgg66 rfl (gives_e (v := (.slice x2.br x2.m x2.cr)) (.head _) (fun _ _ => rfl))) (tp rfl (lv_move rfl) (tp rfl (lv_indexAddr (k' := x.m) Tryz.underlying66 Tryz.sizeOf79 rfl rfl hE4.okr (by omega) (by omega) (by omega)) ?_))))))
           refine tp rfl (lv_load Tryz.isAgg79 rfl (gives_br (i := x.m) (.head _) (by omega))) ?_
           refine tp rfl (lv_nilCheck rfl) (tp rfl (lv_fieldAddr (o' := 3) Tryz.underlying82 rfl Tryz.sizeOf3 rfl rfl) (tp rfl (lv_load Tryz.isAgg3 rfl (gives_rq (i := x.m) (v := (.int .i64 (((y.s.addRq ⟨((root : Nat) : Int), ow, op_, addV A Q y.as ((x.m : Nat) : Int)⟩).rq.getD x.m Rq.z).st))) (.head _) (by omega) rfl)) ?_))
           refine tp rfl (lv_build (cs := [(.int .i64 ((x.m : Nat) : Int)), (.int .i64 (((y.s.addRq ⟨((root : Nat) : Int), ow, op_, addV A Q y.as ((x.m : Nat) : Int)⟩).rq.getD x.m Rq.z).st)), (.int .i64 0), (.int .i64 0), (.int .i64 0)]) (pl := [(0, 1), (1, 1), (2, 1), (3, 1), (4, 1)]) Tryz.underlying40 Tryz.zeroValue40 (fun _ => by simp) rfl rfl) ?_
           refine t_f3 ?_
           refine ts (sv_blkAgg (news := [(.int .i64 ((x.m : Nat) : Int)), (.int .i64 (((y.s.addRq ⟨((root : Nat) : Int), ow, op_, addV A Q y.as ((x.m : Nat) : Int)⟩).rq.getD x.m Rq.z).st)), (.int .i64 0), (.int .i64 0), (.int .i64 0)]) Tryz.sizeOf40 rfl rfl rfl rfl (Nat.le_of_ble_eq_true rfl) rfl) ?_
           refine tp rfl (lv_assign rfl) (t_done (q_then_n (hK14 _ _ (c_ret ?_))))
           subst hx2
           refine t_f3 (t_drop (t_f3 (t_drop (t_f4 (t_drop (t_f2 (t_f3 (t_f3 (t_f3 ?_)))))))))
           refine q_retc2 (cs := [(.int .i64 ((x.m : Nat) : Int)), (.int .i64 (((y.s.addRq ⟨((root : Nat) : Int), ow, op_, addV A Q y.as ((x.m : Nat) : Int)⟩).rq.getD x.m Rq.z).st)), (.int .i64 0), (.int .i64 0), (.int .i64 0)]) rfl rfl rfl Tryz.isAgg40 Tryz.sizeOf40 (gives_all5 (gives_blk (.head _) rfl) (gives_blk (.head _) rfl) (gives_blk (.head _) rfl) (gives_blk (.head _) rfl) (gives_blk (.head _) rfl)) (fun _ h => h.drop) ?_
           refine .inr ⟨hsub, bs11, cp12, b6, y.added A Q ⟨((root : Nat) : Int), ow, op_, addV A Q y.as ((x.m : Nat) : Int)⟩, .inr ⟨by rw [hlm]; assumption, rfl⟩, ?_⟩
           rw [hadd]; exact ⟨rfl, rfl⟩
     · refine tp rfl (lv_neq rfl rfl (bne_iff_ne.2 h5)) (t_done (q_then_n (hK10 _ _ (c_true rfl (c_seq (fun K11 hK11 => c_region (tp rfl (lv_build (cs := [(.int .i64 0), (.int .i64 0), (.int .i64 0), (.int .i64 0), (.int .i64 0)]) (pl := [(0, 1), (1, 1), (2, 1), (3, 1), (4, 1)]) Tryz.underlying40 Tryz.zeroValue40 (fun _ => by simp) rfl rfl) ?_)))))))
       refine tp rfl (lv_move rfl) (t_f3 ?_)
       refine ts (sv_blkAgg (news := [(.int .i64 0), (.int .i64 0), (.int .i64 0), (.int .i64 0), (.int .i64 0)]) Tryz.sizeOf40 rfl rfl rfl rfl (Nat.le_of_ble_eq_true rfl) rfl) ?_
       refine tp rfl (lv_assign rfl) (t_done (q_then_n (hK11 _ _ (c_ret ?_))))
       refine q_then_r ?_
       refine t_f3 (t_drop (t_f3 (t_drop (t_f1 (t_f3 (t_f3 (t_f3 ?_)))))))
       refine q_retc2 (cs := [(.int .i64 0), (.int .i64 0), (.int .i64 0), (.int .i64 0), (.int .i64 0)]) rfl rfl rfl Tryz.isAgg40 Tryz.sizeOf40 (gives_all5 (gives_blk (.head _) rfl) (gives_blk (.head _) rfl) (gives_blk (.head _) rfl) (gives_blk (.head _) rfl) (gives_blk (.head _) rfl)) (fun _ h => h.drop) ?_
       rw [show addS A Q y.as ((x.m : Nat) : Int) = y.as from add_e (by omega)]
       exact .inl ⟨by unfold subE; rw [if_neg (by omega), hlm]; rfl, by unfold subE; rw [if_neg (by omega), hlm]; omega, rfl⟩
end Go.Proofs.YtanfdikglplkaaaGreatDoor
