/- Parts Hd, Ee, En, Ef: own lemmas and contracts of the code that the claim reaches. -/
import Derived.Test.YtanfdikglplkaaaGreatDoorM19
import Derived.Test.YtanfdikglplkaaaGreatDoorM07
import Derived.Test.YtanfdikglplkaaaGreatDoorM03
import Derived.Test.YtanfdikglplkaaaGreatDoorM13
import Derived.Test.YtanfdikglplkaaaGreatDoorM14
import Derived.Test.YtanfdikglplkaaaGreatDoorM15
import Derived.Test.YtanfdikglplkaaaGreatDoorM08
import Derived.Test.YtanfdikglplkaaaGreatDoorM17
set_option linter.unusedSimpArgs false
set_option linter.unusedVariables false
set_option maxRecDepth 100000
namespace Go.Proofs.YtanfdikglplkaaaGreatDoor
open Go Go.Proofs Sp
theorem tnew_ok {R : List HP} (m : Int) :
    Ok Tryz.prog 36 [(.int .i64 m)] R
      (fun v M => ∃ p q, v = .pointer (some ⟨p, 0, none⟩) ∧ M = Blk p [.pointer (some ⟨q, 0, none⟩)] 132 :: HeapO q (hclamp m) (List.replicate (hclamp m) none) :: R) := by
 refine ok_of (N := 8) Tryz.func36 rfl rfl rfl (fun W => ?_)
 refine c_seq (fun K1 hK1 => c_region (tp rfl (lv_assign rfl) (t_done (q_then_n (hK1 _ _ (c_seq (fun K2 hK2 => c_region (tp rfl (lv_move rfl) ?_))))))))
 refine tc rfl (en_fn Tryz.call69 rfl) (hnew_ok m) ?_
 rintro _ _ ⟨p1, rfl, rfl⟩
 refine tp rfl (lv_build (cs := [(.pointer (some ⟨p1, 0, none⟩))]) (pl := [(0, 1)]) Tryz.underlying130 Tryz.zeroValue130 (fun _ => by simp) rfl rfl) ?_
 refine tp rfl (lv_build (cs := [(.pointer (some ⟨p1, 0, none⟩))]) (pl := [(0, 1)]) Tryz.underlying132 Tryz.zeroValue132 (fun _ => by simp) rfl rfl) ?_
 refine tm rfl (mv_box rfl rfl) ?_
 rintro _ _ ⟨b2, rfl, rfl⟩
 refine tp rfl (lv_assign rfl) (t_done (q_then_n (hK2 _ _ (c_ret ?_))))
 refine q_ret rfl rfl ?_
 exact ⟨_, _, rfl, rfl⟩
theorem tstop_ok {R : List HP} {p q n : Nat} {ks : Ks} (x : Int) :
    Ok Tryz.prog 84 [(.pointer (some ⟨p, 0, none⟩)), (.int .i64 x)] ((Blk p [(.pointer (some ⟨q, 0, none⟩))] 132) :: (HeapO q n ks) :: R)
      (fun v M => v = .bool (stopB ks x) ∧ M = Blk p [.pointer (some ⟨q, 0, none⟩)] 132 :: HeapO q n (remK ks x) :: R) := by
 refine ok_of (N := 19) Tryz.func84 rfl rfl rfl (fun W => ?_)
 refine c_seq (fun K1 hK1 => c_region (tp rfl (lv_assign rfl) (t_done (q_then_n (hK1 _ _ (c_seq (fun K2 hK2 => c_region (tp rfl (lv_move rfl) (tp rfl (lv_nilCheck rfl) (tp rfl (lv_fieldAddr (o' := 0) Tryz.underlying132 rfl Tryz.sizeOf130 rfl rfl) ?_))))))))))
 refine tp rfl (lv_fieldAddr (o' := 0) Tryz.underlying130 rfl Tryz.sizeOf127 rfl rfl) (tp rfl (lv_load Tryz.isAgg127 rfl (gives_blk (.head _) rfl)) (tp rfl (lv_move rfl) (t_f1 ?_)))
 refine tc rfl (en_fn Tryz.call131 rfl) (hrem_ok (n := n) (ks := ks) x) ?_
 rintro _ _ ⟨rfl, rfl⟩
 refine tp rfl (lv_move rfl) (tp rfl (lv_extract rfl rfl) (tp rfl (lv_extract rfl rfl) (tp rfl (lv_assign rfl) (tp rfl (lv_assign rfl) (t_done (q_then_n (hK2 _ _ (c_seq (fun K3 hK3 => c_region (tp rfl (lv_move rfl) ?_))))))))))
 refine tp rfl (lv_eql rfl rfl rfl) (tp rfl (lv_assign rfl) (t_done (q_then_n (hK3 _ _ (c_ret (t_f1 ?_))))))
 refine q_ret rfl rfl ?_
 exact ⟨rfl, rfl⟩
theorem tset_ok {R : List HP} {p q n : Nat} {ks : Ks} (x k : Int) :
    Ok Tryz.prog 86 [(.pointer (some ⟨p, 0, none⟩)), (.int .i64 x), (.int .i64 k)] ((Blk p [(.pointer (some ⟨q, 0, none⟩))] 132) :: (HeapO q n ks) :: R)
      (fun v M => v = .int .i64 (pushE (remK ks x) x) ∧ M = Blk p [.pointer (some ⟨q, 0, none⟩)] 132 :: HeapO q n (pushK (remK ks x) x k) :: R) := by
 refine ok_of (N := 18) Tryz.func86 rfl rfl rfl (fun W => ?_)
 refine c_seq (fun K1 hK1 => c_region (tp rfl (lv_assign rfl) (t_done (q_then_n (hK1 _ _ (c_seq (fun K2 hK2 => c_region (tp rfl (lv_move rfl) (tp rfl (lv_move rfl) (t_f1 ?_))))))))))
 refine t_f1 ?_
 refine tc rfl (en_fn Tryz.call84 rfl) (tstop_ok (n := n) (ks := ks) x) ?_
 rintro _ _ ⟨rfl, rfl⟩
 refine t_done (q_then_n (hK2 _ _ (c_seq (fun K3 hK3 => c_region (tp rfl (lv_move rfl) (tp rfl (lv_nilCheck rfl) (tp rfl (lv_fieldAddr (o' := 0) Tryz.underlying132 rfl Tryz.sizeOf130 rfl rfl) (tp rfl (lv_fieldAddr (o' := 0) Tryz.underlying130 rfl Tryz.sizeOf127 rfl rfl) (tp rfl (lv_load Tryz.isAgg127 rfl (gives_blk (.head _) rfl)) (tp rfl (lv_move rfl) ?_))))))))))
 refine tp rfl (lv_move rfl) (t_f1 ?_)
 refine tc rfl (en_fn Tryz.call132 rfl) (hpush_ok (n := n) (ks := remK ks x) x k) ?_
 rintro _ _ ⟨rfl, rfl⟩
 refine tp rfl (lv_assign rfl) (t_done (q_then_n (hK3 _ _ (c_ret (t_f1 ?_)))))
 refine q_ret rfl rfl ?_
 exact ⟨rfl, rfl⟩
end Go.Proofs.YtanfdikglplkaaaGreatDoor
set_option maxRecDepth 100000
namespace Go.Proofs.YtanfdikglplkaaaGreatDoor
open Go Go.Proofs Sp
theorem there_e {R : List HP} {e : Nat} {x : EP} {s : ES} (t : Int) :
    Ok Tryz.prog 22 [(.pointer (some ⟨e, 0, none⟩)), (.int .i64 t)] ((EngC e x s) :: R)
      (fun v M => v = .bool (decide (0 ≤ t ∧ t < x.n)) ∧ M = EngC e x s :: R) := by
 refine ok_of (N := 16) Tryz.func22 rfl rfl rfl (fun W => ?_)
 refine t_learn (fun _ h => ef_of h) (fun hE => ?_)
 have hE_nb := hE.nb
 have hE_mb := hE.mb
 have hE_tn := hE.tn
 have hE_ln := hE.ln
 have hE_mn := hE.mn
 refine c_seq (fun K1 hK1 => c_region (tp rfl (lv_assign rfl) (t_done (q_then_n (hK1 _ _ (c_seq (fun K2 hK2 => c_region (tp rfl (lv_move rfl) ?_))))))))
 by_cases h1 : t ≥ 0
 · refine tp rfl (lv_geq rfl rfl (decide_eq_true h1)) (tp rfl (lv_move rfl) ?_)
   refine t_guard rfl rfl ?_
   refine tp rfl (lv_move rfl) ?_
   refine t_guard rfl rfl ?_
   refine tp rfl (lv_move rfl) ?_
   refine t_guard rfl rfl ?_
   refine tp rfl (lv_nilCheck rfl) ?_
   refine t_guard rfl rfl ?_
   refine tp rfl (lv_fieldAddr (o' := 11) Tryz.underlying73 rfl Tryz.sizeOf65 rfl rfl) ?_
   refine t_guard rfl rfl ?_
   refine tp rfl (lv_load Tryz.isAgg65 rfl (gives_e (v := (.slice x.bt x.n x.ct)) (.head _) (fun _ _ => rfl))) ?_
   refine t_guard rfl rfl ?_
   refine tp rfl (lv_len Tryz.underlying65 rfl rfl) ?_
   refine t_guard rfl rfl ?_
   refine tp rfl (lv_lss rfl rfl rfl) (tp rfl (lv_pick_t rfl rfl) (tp rfl (lv_assign rfl) (t_done (q_then_n (hK2 _ _ (c_ret ?_))))))
   refine q_ret rfl rfl ?_
   exact ⟨by first | rfl | (congr 1; rw [decide_eq_decide]; omega) | (rw [decide_eq_true (by omega)]) | (rw [decide_eq_false (by omega)]), rfl⟩
 · refine tp rfl (lv_geq rfl rfl (decide_eq_false h1)) (tp rfl (lv_move rfl) ?_)
   refine t_skip rfl rfl rfl ?_
   refine t_skip rfl rfl rfl ?_
   refine t_skip rfl rfl rfl ?_
   refine t_skip rfl rfl rfl ?_
   refine t_skip rfl rfl rfl ?_
   refine t_skip rfl rfl rfl ?_
   refine t_skip rfl rfl rfl ?_
   refine tp rfl (lv_pick_f rfl rfl) (tp rfl (lv_assign rfl) (t_done (q_then_n (hK2 _ _ (c_ret ?_)))))
   refine q_ret rfl rfl ?_
   exact ⟨by rw [decide_eq_false (by omega)], rfl⟩
theorem state_e {R : List HP} {e : Nat} {x : EP} {s : ES} (t : Nat) (ht : t < x.n) :
    Ok Tryz.prog 11 [(.pointer (some ⟨e, 0, none⟩)), (.int .i64 ((t : Nat) : Int))] ((EngC e x s) :: R)
      (fun v M => v = .int .i64 (s.lf.getD t Lf.z).st ∧ M = EngC e x s :: R) := by
 refine ok_of (N := 20) Tryz.func11 rfl rfl rfl (fun W => ?_)
 refine t_learn (fun _ h => ef_of h) (fun hE => ?_)
 have hE_nb := hE.nb
 have hE_mb := hE.mb
 have hE_tn := hE.tn
 have hE_ln := hE.ln
 have hE_mn := hE.mn
 refine c_seq (fun K1 hK1 => c_region (tp rfl (lv_assign rfl) (t_done (q_then_n (hK1 _ _ (c_seq (fun K2 hK2 => c_seq (fun K3 hK3 => c_region (tp rfl (lv_move rfl) (tp rfl (lv_move rfl) ?_))))))))))
 refine tc rfl (en_fn Tryz.call22 rfl) (there_e (x := x) (s := s) ((t : Nat) : Int)) ?_
 rintro _ _ ⟨rfl, rfl⟩
 rw [show decide (0 ≤ ((t : Nat) : Int) ∧ ((t : Nat) : Int) < x.n) = true from decide_eq_true (by omega)]
 refine tp rfl (lv_not (c := false) rfl rfl) (t_done (q_then_n (hK3 _ _ (c_false rfl (c_skip (q_then_n (hK2 _ _ (c_seq (fun K4 hK4 => c_region (tp rfl (lv_move rfl) (tp rfl (lv_nilCheck rfl) ?_)))))))))))
 refine tp rfl (lv_fieldAddr (o' := 11) Tryz.underlying73 rfl Tryz.sizeOf65 rfl rfl) (tp rfl (lv_load Tryz.isAgg65 rfl (gives_e (v := (.slice x.bt x.n x.ct)) (.head _) (fun _ _ => rfl))) (tp rfl (lv_move rfl) (tp rfl (lv_indexAddr (k' := t) Tryz.underlying65 Tryz.sizeOf64 rfl rfl hE.okt (by omega) (by omega) (by omega)) ?_)))
 refine tp rfl (lv_load Tryz.isAgg64 rfl (gives_bt (i := t) (.head _) (by omega))) ?_
 refine tp rfl (lv_nilCheck rfl) (tp rfl (lv_fieldAddr (o' := 2) Tryz.underlying76 rfl Tryz.sizeOf74 rfl rfl) (tp rfl (lv_load Tryz.isAgg74 rfl (gives_tk (i := t) (v := (.pointer (some ⟨(x.ks.getD t (0, 0)).2, 0, none⟩))) (.head _) (by omega) rfl)) ?_))
 refine tc rfl (en_fn Tryz.call23 rfl) (ok_life0 (i := t) (by omega) (fun _ => lState_ok _)) ?_
 rintro _ _ ⟨rfl, rfl⟩
 refine tp rfl (lv_assign rfl) (t_done (q_then_n (hK4 _ _ (c_ret ?_))))
 refine q_ret rfl rfl ?_
 exact ⟨rfl, rfl⟩
theorem asked_y {R : List HP} {e : Nat} {x : EP} {s : ES} (r : Nat) (hr : r < x.m) :
    Ok Tryz.prog 31 [(.pointer (some ⟨e, 0, none⟩)), (.int .i64 ((r : Nat) : Int))] ((EngC e x s) :: R)
      (fun v M => v = .pointer (some ⟨x.rs.getD r 0, 0, none⟩) ∧ M = EngC e x s :: R) := by
 refine ok_of (N := 23) Tryz.func31 rfl rfl rfl (fun W => ?_)
 refine t_learn (fun _ h => ef_of h) (fun hE => ?_)
 have hE_nb := hE.nb
 have hE_mb := hE.mb
 have hE_tn := hE.tn
 have hE_ln := hE.ln
 have hE_mn := hE.mn
 refine c_seq (fun K1 hK1 => c_region (tp rfl (lv_assign rfl) (t_done (q_then_n (hK1 _ _ (c_seq (fun K2 hK2 => c_seq (fun K3 hK3 => c_region (tp rfl (lv_move rfl) (tp rfl (lv_lss rfl rfl (decide_eq_false (by omega))) ?_))))))))))
 refine tp rfl (lv_move rfl) ?_
 refine t_guard rfl rfl ?_
 refine tp rfl (lv_move rfl) ?_
 refine t_guard rfl rfl ?_
 refine tp rfl (lv_move rfl) ?_
 refine t_guard rfl rfl ?_
 refine tp rfl (lv_nilCheck rfl) ?_
 refine t_guard rfl rfl ?_
 refine tp rfl (lv_fieldAddr (o' := 12) Tryz.underlying73 rfl Tryz.sizeOf66 rfl rfl) ?_
 refine t_guard rfl rfl ?_
 refine tp rfl (lv_load Tryz.isAgg66 rfl (gives_e (v := (.slice x.br x.m x.cr)) (.head _) (fun _ _ => rfl))) ?_
 refine t_guard rfl rfl ?_
 refine tp rfl (lv_len Tryz.underlying66 rfl rfl) ?_
 refine t_guard rfl rfl ?_
 refine tp rfl (lv_geq rfl rfl (decide_eq_false (by omega))) ?_
 refine tp rfl (lv_pick_f rfl rfl) (t_done (q_then_n (hK3 _ _ (c_false rfl (c_skip (q_then_n (hK2 _ _ (c_seq (fun K4 hK4 => c_region (tp rfl (lv_move rfl) (tp rfl (lv_nilCheck rfl) ?_)))))))))))
 refine tp rfl (lv_fieldAddr (o' := 12) Tryz.underlying73 rfl Tryz.sizeOf66 rfl rfl) (tp rfl (lv_load Tryz.isAgg66 rfl (gives_e (v := (.slice x.br x.m x.cr)) (.head _) (fun _ _ => rfl))) (tp rfl (lv_move rfl) (tp rfl (lv_indexAddr (k' := r) Tryz.underlying66 Tryz.sizeOf79 rfl rfl hE.okr (by omega) (by omega) (by omega)) ?_)))
 refine tp rfl (lv_load Tryz.isAgg79 rfl (gives_br (i := r) (.head _) (by omega))) ?_
 refine tp rfl (lv_assign rfl) (t_done (q_then_n (hK4 _ _ (c_ret ?_))))
 refine q_ret rfl rfl ?_
 exact ⟨rfl, rfl⟩
theorem requests_e {R : List HP} {e : Nat} {x : EP} {s : ES}  :
    Ok Tryz.prog 15 [(.pointer (some ⟨e, 0, none⟩))] ((EngC e x s) :: R)
      (fun v M => v = .int .i64 ((x.m : Nat) : Int) ∧ M = EngC e x s :: R) := by
 refine ok_of (N := 8) Tryz.func15 rfl rfl rfl (fun W => ?_)
 refine t_learn (fun _ h => ef_of h) (fun hE => ?_)
 have hE_nb := hE.nb
 have hE_mb := hE.mb
 have hE_tn := hE.tn
 have hE_ln := hE.ln
 have hE_mn := hE.mn
 refine c_seq (fun K1 hK1 => c_region (tp rfl (lv_assign rfl) (t_done (q_then_n (hK1 _ _ (c_seq (fun K2 hK2 => c_region (tp rfl (lv_move rfl) (tp rfl (lv_nilCheck rfl) (tp rfl (lv_fieldAddr (o' := 12) Tryz.underlying73 rfl Tryz.sizeOf66 rfl rfl) ?_))))))))))
 refine tp rfl (lv_load Tryz.isAgg66 rfl (gives_e (v := (.slice x.br x.m x.cr)) (.head _) (fun _ _ => rfl))) (tp rfl (lv_len Tryz.underlying66 rfl rfl) (tp rfl (lv_assign rfl) (t_done (q_then_n (hK2 _ _ (c_ret ?_))))))
 refine q_ret rfl rfl ?_
 exact ⟨rfl, rfl⟩
theorem used_e {R : List HP} {e : Nat} {x : EP} {s : ES} {d : Led} :
    Ok Tryz.prog 17 [(.pointer (some ⟨e, 0, none⟩))] ((EngC e x s) :: (LedO x.ld d) :: R)
      (fun v M => v = .int .i64 d.used ∧ M = EngC e x s :: LedO x.ld d :: R) := by
 refine ok_of (N := 8) Tryz.func17 rfl rfl rfl (fun W => ?_)
 refine c_seq (fun K1 hK1 => c_region (tp rfl (lv_assign rfl) (t_done (q_then_n (hK1 _ _ (c_seq (fun K2 hK2 => c_region (tp rfl (lv_move rfl) (tp rfl (lv_nilCheck rfl) (tp rfl (lv_fieldAddr (o' := 15) Tryz.underlying73 rfl Tryz.sizeOf69 rfl rfl) ?_))))))))))
 refine tp rfl (lv_load Tryz.isAgg69 rfl (gives_e (v := (.pointer (some ⟨x.ld, 0, none⟩))) (.head _) (fun _ _ => rfl))) (t_f1 ?_)
 refine tc rfl (en_fn Tryz.call32 rfl) (lused_ok (d := d) ) ?_
 rintro _ _ ⟨rfl, rfl⟩
 refine tp rfl (lv_assign rfl) (t_done (q_then_n (hK2 _ _ (c_ret (t_f1 ?_)))))
 refine q_ret rfl rfl ?_
 exact ⟨rfl, rfl⟩
set_option maxHeartbeats 4000000 in
theorem request_e {R : List HP} {e : Nat} {x : EP} {s : ES} (r : Nat) (hr : r < x.m) :
    Ok Tryz.prog 16 [(.pointer (some ⟨e, 0, none⟩)), (.int .i64 ((r : Nat) : Int))] ((EngC e x s) :: R)
      (fun v M => v = .tuple #[.agg #[.int .i64 (s.rq.getD r Rq.z).root, .int .i64 (s.rq.getD r Rq.z).wt, .int .i64 (s.rq.getD r Rq.z).pr], .int .i64 (s.rq.getD r Rq.z).st, .bool true] ∧ M = EngC e x s :: R) := by
 refine ok_of (N := 22) Tryz.func16 rfl rfl rfl (fun W => ?_)
 refine t_learn (fun _ h => ef_of h) (fun hE => ?_)
 have hE_nb := hE.nb
 have hE_mb := hE.mb
 have hE_tn := hE.tn
 have hE_ln := hE.ln
 have hE_mn := hE.mn
 refine c_seq (fun K1 hK1 => c_region ?_)
 refine tm rfl (mv_alloc Tryz.zeroValue51 rfl) ?_
 rintro _ _ ⟨b1, rfl, rfl⟩
 refine tp rfl (lv_assign rfl) (tp rfl (lv_assign rfl) (t_done (q_then_n (hK1 _ _ (c_seq (fun K2 hK2 => c_region (tp rfl (lv_move rfl) (tp rfl (lv_move rfl) (t_f1 ?_)))))))))
 refine tc rfl (en_fn Tryz.call31 rfl) (asked_y (x := x) (s := s) r hr) ?_
 rintro _ _ ⟨rfl, rfl⟩
 refine tp rfl (lv_assign rfl) (t_done (q_then_n (hK2 _ _ (c_seq (fun K3 hK3 => c_seq (fun K4 hK4 => c_region (tp rfl (lv_move rfl) (tp rfl (lv_eqnil Tryz.underlying79 rfl rfl) (t_done (q_then_n (hK4 _ _ ?_)))))))))))
 refine c_false rfl (c_skip (q_then_n (hK3 _ _ (c_seq (fun K5 hK5 => ?_)))))
 refine c_draw (γ := Unit) (n := 11) Tryz.mixed rfl rfl (fun _ S => True) (fun _ => [(0, 14, (vP (x.rs.getD r 0) 0)), (1, 15, (vP (x.rs.getD r 0) 0)), (2, 16, (vP (x.rs.getD r 0) 0)), (3, 17, (.agg #[(.int .i64 ((s.rq.getD r Rq.z).root)), (.int .i64 ((s.rq.getD r Rq.z).wt)), (.int .i64 ((s.rq.getD r Rq.z).pr))])), (4, 18, (vP (x.rs.getD r 0) 0)), (5, 19, (vP (x.rs.getD r 0) 0)), (6, 20, (vP (x.rs.getD r 0) 3)), (7, 21, (.int .i64 ((s.rq.getD r Rq.z).st))), (9, 5, (.int .i64 ((s.rq.getD r Rq.z).st))), (10, 6, (.bool true))]) (fun _ S => (EngC e x s) :: (bif S 8 then (Blk b1 [(.int .i64 ((s.rq.getD r Rq.z).root)), (.int .i64 ((s.rq.getD r Rq.z).wt)), (.int .i64 ((s.rq.getD r Rq.z).pr))] 51) else (Blk b1 [(.int .i64 0), (.int .i64 0), (.int .i64 0)] 51)) :: R) (()) trivial (fun _ h => h) (fun _ _ h => h) ?_ ?_
 · refine ⟨?_, ?_, ?_, ?_, ?_, ?_, ?_, ?_, ?_, ?_, ?_, trivial⟩
   · intro _ S h s D p K k; exact d_lv1 (look_b (t := 7) rfl rfl) (lv_move rfl) 0 rfl rfl s (k () h)
   · intro _ S h s D p K k; exact d_lv1 (lkr p 0 rfl rfl) (lv_nilCheck rfl) 1 rfl rfl s (k () h)
   · intro _ S h s D p K k; exact d_lv1 (lkr p 1 rfl rfl) (lv_fieldAddr (o' := 0) Tryz.underlying82 rfl Tryz.sizeOf51 rfl rfl) 2 rfl rfl s (k () h)
   · rintro _ S hF hS D hp K hK; try dsimp only
     exact d_lv1 (lkr hp 2 rfl rfl) (lv_loadAgg (cs := [(.int .i64 ((s.rq.getD r Rq.z).root)), (.int .i64 ((s.rq.getD r Rq.z).wt)), (.int .i64 ((s.rq.getD r Rq.z).pr))]) Tryz.isAgg51 Tryz.sizeOf51 rfl (gives_all3 (gives_rq (i := r) (v := (.int .i64 ((s.rq.getD r Rq.z).root))) (.head _) (by omega) rfl) (gives_rq (i := r) (v := (.int .i64 ((s.rq.getD r Rq.z).wt))) (.head _) (by omega) rfl) (gives_rq (i := r) (v := (.int .i64 ((s.rq.getD r Rq.z).pr))) (.head _) (by omega) rfl))) 3 rfl rfl hS (hK () hF)
   · intro _ S h s D p K k; exact d_lv1 (look_b (t := 7) rfl rfl) (lv_move rfl) 4 rfl rfl s (k () h)
   · intro _ S h s D p K k; exact d_lv1 (lkr p 4 rfl rfl) (lv_nilCheck rfl) 5 rfl rfl s (k () h)
   · intro _ S h s D p K k; exact d_lv1 (lkr p 5 rfl rfl) (lv_fieldAddr (o' := 3) Tryz.underlying82 rfl Tryz.sizeOf3 rfl rfl) 6 rfl rfl s (k () h)
   · rintro _ S hF hS D hp K hK; try dsimp only
     exact d_lv1 (lkr hp 6 rfl rfl) (lv_load Tryz.isAgg3 rfl (gives_rq (i := r) (v := (.int .i64 ((s.rq.getD r Rq.z).st))) (.head _) (by omega) rfl)) 7 rfl rfl hS (hK () hF)
   · rintro _ S hF hS D hp K hK
     try dsimp only at hF ⊢
     have s3 := hp 3 rfl
     refine d_need (small := [(4, (vP b1 0)), (17, (.agg #[(.int .i64 ((s.rq.getD r Rq.z).root)), (.int .i64 ((s.rq.getD r Rq.z).wt)), (.int .i64 ((s.rq.getD r Rq.z).pr))]))]) ⟨look_b rfl rfl, look_row rfl 3 rfl s3, trivial⟩ ?_
     refine t_f1 ?_
     refine t_cF hS ?_
     refine ts (sv_blkAgg (news := [(.int .i64 ((s.rq.getD r Rq.z).root)), (.int .i64 ((s.rq.getD r Rq.z).wt)), (.int .i64 ((s.rq.getD r Rq.z).pr))]) Tryz.sizeOf51 rfl rfl rfl rfl (Nat.le_of_ble_eq_true rfl) rfl) ?_
     refine t_f1 ?_
     exact d_closes0 ⟨look_b rfl rfl, look_row rfl 3 rfl s3, trivial⟩ rfl (t_sat (fun _ h => h) (hK () trivial))
   · intro _ S h s D p K k; exact d_lv1 (lkr p 7 rfl rfl) (lv_assign rfl) 8 rfl rfl s (k () h)
   · intro _ S h s D p K k; exact d_lv0 (lv_assign rfl) 9 rfl rfl s (k () h)
 · rintro _ hF
   try dsimp only at hF ⊢
   refine t_weak (E' := [(0, (vP e 0)), (1, (vN r)), (4, (vP b1 0)), (5, (.int .i64 ((s.rq.getD r Rq.z).st))), (6, (.bool true)), (7, (vP (x.rs.getD r 0) 0)), (12, (.bool false))]) ⟨rfl, rfl, rfl, rfl, rfl, rfl, rfl, trivial⟩ ?_
   refine q_then_n (hK5 _ _ (c_ret (t_f1 ?_)))
   refine q_retc3 (cs := [(.int .i64 ((s.rq.getD r Rq.z).root)), (.int .i64 ((s.rq.getD r Rq.z).wt)), (.int .i64 ((s.rq.getD r Rq.z).pr))]) rfl rfl rfl rfl Tryz.isAgg51 Tryz.sizeOf51 (gives_all3 (gives_blk (.head _) rfl) (gives_blk (.head _) rfl) (gives_blk (.head _) rfl)) (fun _ h => h.drop) ?_
   exact ⟨rfl, rfl⟩
set_option maxHeartbeats 4000000 in
theorem states_e {R : List HP} {e : Nat} {x : EP} {s : ES}  :
    Ok Tryz.prog 54 [(.pointer (some ⟨e, 0, none⟩))] ((EngC e x s) :: R)
      (OutSl 3 1 x.n (ints .i64 (s.lf.map (·.st))) (EngC e x s :: R)) := by
 refine ok_of (N := 24) Tryz.func54 rfl rfl rfl (fun W => ?_)
 refine t_learn (fun _ h => ef_of h) (fun hE => ?_)
 have hE_nb := hE.nb
 have hE_mb := hE.mb
 have hE_tn := hE.tn
 have hE_ln := hE.ln
 have hE_mn := hE.mn
 refine c_seq (fun K1 hK1 => c_region (tp rfl (lv_assign rfl) (t_done (q_then_n (hK1 _ _ (c_seq (fun K2 hK2 => c_seq (fun K3 hK3 => c_region (tp rfl (lv_move rfl) (tp rfl (lv_nilCheck rfl) ?_))))))))))
 refine tp rfl (lv_fieldAddr (o' := 11) Tryz.underlying73 rfl Tryz.sizeOf65 rfl rfl) (tp rfl (lv_load Tryz.isAgg65 rfl (gives_e (v := (.slice x.bt x.n x.ct)) (.head _) (fun _ _ => rfl))) (tp rfl (lv_len Tryz.underlying65 rfl rfl) (tp rfl (lv_move rfl) (t_done (q_then_n (hK3 _ _ (c_block ?_)))))))
 refine t_sat (fun _ h => sat_nilsl 3 1 h) ?_
 refine c_loop (γ := (Nat) × (Option Addr) × (Nat)) (fun (k, bt, ct) => k ≤ x.n ∧ SlOk bt k ∧ k ≤ ct) (fun (k, bt, ct) => [(0, (vP e 0)), (2, (.slice bt k ct)), (8, (.slice x.bt x.n x.ct)), (9, (vN x.n)), (10, (vN k))]) (fun (k, bt, ct) => (SlV 3 1 (.slice bt k ct) k (ints .i64 ((s.lf.map (·.st)).take k))) :: (EngC e x s) :: R) (fun (k, bt, ct) => x.n - k) (0, none, 0) ⟨Nat.zero_le _, slok_none, Nat.le_refl _⟩ ⟨rfl, rfl, rfl, rfl, rfl, trivial⟩ (fun _ h => h) ?_
 rintro ⟨k, bt, ct⟩ K4 hF hK4
 try dsimp only at hF hK4 ⊢
 obtain ⟨hk, hok, hle⟩ := hF
 refine c_seq (fun K5 hK5 => c_region ?_)
 by_cases h1 : ((k : Nat) : Int) < ((x.n : Nat) : Int)
 · refine tp rfl (lv_lss rfl rfl (decide_eq_true h1)) (t_done (q_then_n (hK5 _ _ (c_seq (fun K6 hK6 => c_true rfl (c_skip (q_then_n (hK6 _ _ (c_seq (fun K7 hK7 => c_block (c_seq (fun K8 hK8 => ?_))))))))))))
   refine c_region (tp rfl (lv_indexAddr (k' := k) Tryz.underlying65 Tryz.sizeOf64 rfl rfl hE.okt (by omega) (by omega) (by omega)) ?_)
   refine tp rfl (lv_load Tryz.isAgg64 rfl (gives_bt (i := k) (.tail _ (.head _)) (by omega))) ?_
   refine tp rfl (lv_assign rfl) (t_done (q_then_n (hK8 _ _ (c_region (tp rfl (lv_move rfl) (tp rfl (lv_move rfl) (tp rfl (lv_nilCheck rfl) (tp rfl (lv_fieldAddr (o' := 2) Tryz.underlying76 rfl Tryz.sizeOf74 rfl rfl) (tp rfl (lv_load Tryz.isAgg74 rfl (gives_tk (i := k) (v := (.pointer (some ⟨(x.ks.getD k (0, 0)).2, 0, none⟩))) (.tail _ (.head _)) (by omega) rfl)) ?_)))))))))
   refine t_f1 ?_
   refine tc rfl (en_fn Tryz.call23 rfl) (ok_life0 (i := k) (by omega) (fun _ => lState_ok _)) ?_
   rintro _ _ ⟨rfl, rfl⟩
   refine tm rfl (mv_buildSlice (cs := [(.int .i64 ((s.lf.getD k Lf.z).st))]) Tryz.underlying34 Tryz.sizeOf3 Tryz.zeroValue3 (by decide) rfl rfl rfl rfl) ?_
   rintro _ _ ⟨bs2, cp3, hok4, hle5, rfl, rfl⟩
   refine t_f2 ?_
   refine tm rfl (mv_append (i := Tryz.t3) Tryz.underlying34 Tryz.type3 rfl rfl rfl (by decide) rfl rfl hok4 (by first | (simp; done) | (simp; omega)) (rd_sl (.tail _ (.head _))) (by simp [Value.oneCell']) (by rw [show Tryz.t3.bytes = 8 from rfl]; omega)) ?_
   rintro _ _ ⟨bs6, cp7, hok8, hle9, rfl, rfl⟩
   rw [show ints .i64 ((s.lf.map (·.st)).take k) ++ [.int .i64 (s.lf.getD k Lf.z).st] = ints .i64 ((s.lf.map (·.st)).take (k + 1)) from by rw [← map_st_step (by omega)]; exact ints_snoc _ _ _]
   rw [show k + 1 = k + 1 from by simp] at hok8 hle9 ⊢
   refine tp rfl (lv_assign rfl) (t_done (q_in_n (q_then_n (hK7 _ _ (c_region (tp rfl (lv_add (c := ((k + 1 : Nat) : Int)) rfl rfl (wr_i64_succ (by omega))) ?_))))))
   refine tp rfl (lv_move rfl) (t_done (q_then_n (t_f1 (t_drop ?_))))
   exact t_weak (by exact ⟨rfl, rfl, rfl, rfl, rfl, trivial⟩) ((hK4 (k + 1, bs6, cp7) ⟨by omega, hok8, hle9⟩ (by dsimp only; omega)))
 · refine tp rfl (lv_lss rfl rfl (decide_eq_false h1)) (t_done (q_then_n (hK5 _ _ (c_seq (fun K6 hK6 => c_false rfl (c_exit (q_then_x (q_then_x (q_in_x (q_then_n (hK2 _ _ ?_)))))))))))
   refine c_seq (fun K7 hK7 => c_region (tp rfl (lv_move rfl) (tp rfl (lv_assign rfl) (t_done (q_then_n (hK7 _ _ (c_ret ?_)))))))
   refine q_ret rfl rfl ?_
   obtain rfl : k = x.n := by omega
   rw [List.take_of_length_le (by rw [List.length_map]; exact Nat.le_of_eq hE.ln)]
   exact ⟨bt, ct, hok, hle, rfl, rfl⟩
end Go.Proofs.YtanfdikglplkaaaGreatDoor
set_option maxRecDepth 100000
namespace Go.Proofs.YtanfdikglplkaaaGreatDoor
open Go Go.Proofs Sp
set_option maxHeartbeats 4000000 in
theorem notes_ok {R : List HP} {e : Nat} {x : EP} {s : ES} {ld : Led} (kind : Int) (t : Nat) (ht : t < x.n) (hl : s.lg.length ≤ 1000000000) :
    Ok Tryz.prog 82 [(.pointer (some ⟨e, 0, none⟩)), (.int .i64 kind), (.int .i64 ((t : Nat) : Int))] ((EngC e x s) :: (LedO x.ld ld) :: R)
      (fun v M => v = .tuple #[] ∧ M = EngC e x (s.addLg (noteV s ld kind ((t : Nat) : Int))) :: LedO x.ld ld :: R) := by
 refine ok_of (N := 45) Tryz.func82 rfl rfl rfl (fun W => ?_)
 refine t_openC (fun bl cl hE hl2 => ?_)
 have hnb := hE.nb
 have hlok := hl2.ok
 have hlle := hl2.le
 unfold engL; simp only [List.cons_append, List.nil_append]
 obtain ⟨k, hk⟩ : ∃ k, s.lg.length = k := ⟨_, rfl⟩
 unfold engC; rw [hk] at hl hlok hlle ⊢
 refine c_seq (fun K1 hK1 => c_region (tp rfl (lv_move rfl) (tp rfl (lv_nilCheck rfl) (tp rfl (lv_fieldAddr (o' := 15) Tryz.underlying73 rfl Tryz.sizeOf69 rfl rfl) (tp rfl (lv_load Tryz.isAgg69 rfl (gives_blk (.head _) rfl)) (tp rfl (lv_move rfl) (t_f8 ?_)))))))
 refine tc rfl (en_fn Tryz.call128 rfl) (lslot_ok (d := ld) ((t : Nat) : Int)) ?_
 rintro _ _ ⟨rfl, rfl⟩
 refine tp rfl (lv_move rfl) (tp rfl (lv_extract rfl rfl) (tp rfl (lv_extract rfl rfl) (tp rfl (lv_assign rfl) (tp rfl (lv_assign rfl) (t_done (q_then_n (hK1 _ _ ?_)))))))
 refine c_draw (γ := Option Addr × Nat × Option Addr × Nat) (n := 29) Tryz.mixed rfl rfl (fun (bs1, cp2, bs5, cp6) S => (S 24 = true → SlOk bs1 1) ∧ (S 24 = true → 1 ≤ cp2) ∧ (S 25 = true → SlOk bs5 (k + 1)) ∧ (S 25 = true → k + 1 ≤ cp6)) (fun (bs1, cp2, bs5, cp6) => [(0, 17, (vP e 0)), (1, 18, (vP e 0)), (2, 19, (vP e 0)), (3, 20, (vP e 20)), (4, 21, (.slice bl k cl)), (5, 22, (.int .i64 kind)), (6, 23, (vN t)), (7, 24, (.int .i64 (max (ld.slot ((t : Nat) : Int)) 0))), (8, 25, (vP e 0)), (9, 26, (vP e 0)), (10, 27, (vP e 11)), (11, 28, (.slice x.bt x.n x.ct)), (12, 29, (vN t)), (13, 30, (.pointer (some (ad x.bt t)))), (14, 31, (.pointer (some ⟨(x.ks.getD t (0, 0)).1, 0, none⟩))), (15, 32, (.pointer (some ⟨(x.ks.getD t (0, 0)).1, 0, none⟩))), (16, 33, (.pointer (some ⟨(x.ks.getD t (0, 0)).1, 2, none⟩))), (17, 34, (.pointer (some ⟨(x.ks.getD t (0, 0)).2, 0, none⟩))), (18, 35, (.int .i64 ((s.lf.getD t Lf.z).ep))), (19, 36, (vP e 0)), (20, 37, (vP e 0)), (21, 38, (vP e 18)), (22, 39, (.int .i64 s.now)), (23, 40, (.agg #[(.int .i64 kind), (vN t), (.int .i64 (max (ld.slot ((t : Nat) : Int)) 0)), (.int .i64 ((s.lf.getD t Lf.z).ep)), (.int .i64 s.now)])), (24, 41, (.slice bs1 1 cp2)), (25, 42, (.slice bs5 (k + 1) cp6)), (26, 43, (vP e 0)), (27, 44, (vP e 20))]) (fun (bs1, cp2, bs5, cp6) S => (LedO x.ld ld) :: (bif S 28 then (Blk e [(.int .i64 s.c.bud), (.int .i64 s.c.slots), (.int .i64 s.c.act), (.int .i64 s.c.que), (.int .i64 s.c.tries), (.int .i64 s.c.pre), (.int .i64 s.c.tmo), (.int .i64 s.c.bak), (.int .i64 s.c.most), (.int .i64 s.c.qu), (.slice x.ba x.n x.ca), (.slice x.bt x.n x.ct), (.slice x.br x.m x.cr), (vP x.g 0), (vP x.tp 0), (vP x.ld 0), (vP x.ad 0), (vP x.tn 0), (.int .i64 s.now), (.int .i64 s.bg), (.slice bs5 (k + 1) cp6)] 73) else (Blk e [(.int .i64 s.c.bud), (.int .i64 s.c.slots), (.int .i64 s.c.act), (.int .i64 s.c.que), (.int .i64 s.c.tries), (.int .i64 s.c.pre), (.int .i64 s.c.tmo), (.int .i64 s.c.bak), (.int .i64 s.c.most), (.int .i64 s.c.qu), (.slice x.ba x.n x.ca), (.slice x.bt x.n x.ct), (.slice x.br x.m x.cr), (vP x.g 0), (vP x.tp 0), (vP x.ld 0), (vP x.ad 0), (vP x.tn 0), (.int .i64 s.now), (.int .i64 s.bg), (.slice bl k cl)] 73)) :: (SlV 57 2 (.slice x.ba x.n x.ca) x.n (pairs s.al)) :: (SlV 64 1 (.slice x.bt x.n x.ct) x.n (recs ptrF (x.ks.map Prod.fst))) :: (SlV 79 1 (.slice x.br x.m x.cr) x.m (recs ptrF x.rs)) :: (bif S 25 then (SlV 45 5 (.slice bs5 (k + 1) cp6) (k + 1) (recs evC (s.lg ++ [⟨kind, ((t : Nat) : Int), max (ld.slot ((t : Nat) : Int)) 0, (s.lf.getD t Lf.z).ep, s.now⟩]))) else (SlV 45 5 (.slice bl k cl) k (recs evC s.lg))) :: (Join (blks TTk Prod.fst tkC x.ks s.tk)) :: (Join (blks TLf Prod.snd (fun _ => lfC) x.ks s.lf)) :: (Join (blks TRq id (fun _ => rqC) x.rs s.rq)) :: (bif S 24 then (SlV 45 5 (.slice bs1 1 cp2) 1 [(.int .i64 kind), (vN t), (.int .i64 (max (ld.slot ((t : Nat) : Int)) 0)), (.int .i64 ((s.lf.getD t Lf.z).ep)), (.int .i64 s.now)]) else Emp) :: R) (none, 0, none, 0) (by simp [Nat.ble]) (fun _ h => sat_emps [_, _, _, _, _, _, _, _, _] 1 h) (fun _ _ h => h) ?_ ?_
 · refine ⟨?_, ?_, ?_, ?_, ?_, ?_, ?_, ?_, ?_, ?_, ?_, ?_, ?_, ?_, ?_, ?_, ?_, ?_, ?_, ?_, ?_, ?_, ?_, ?_, ?_, ?_, ?_, ?_, ?_, trivial⟩
   · rintro ⟨bs1, cp2, bs5, cp6⟩ S hF hS D hp K hK; try dsimp only
     exact d_lv1 (look_b (t := 0) rfl rfl) (lv_move rfl) 0 rfl rfl hS (hK (bs1, cp2, bs5, cp6) hF)
   · rintro ⟨bs1, cp2, bs5, cp6⟩ S hF hS D hp K hK; try dsimp only
     exact d_lv1 (look_b (t := 0) rfl rfl) (lv_move rfl) 1 rfl rfl hS (hK (bs1, cp2, bs5, cp6) hF)
   · rintro ⟨bs1, cp2, bs5, cp6⟩ S hF hS D hp K hK; try dsimp only
     exact d_lv1 (lkr hp 1 rfl rfl) (lv_nilCheck rfl) 2 rfl rfl hS (hK (bs1, cp2, bs5, cp6) hF)
   · rintro ⟨bs1, cp2, bs5, cp6⟩ S hF hS D hp K hK; try dsimp only
     exact d_lv1 (lkr hp 2 rfl rfl) (lv_fieldAddr (o' := 20) Tryz.underlying73 rfl Tryz.sizeOf37 rfl rfl) 3 rfl rfl hS (hK (bs1, cp2, bs5, cp6) hF)
   · rintro ⟨bs1, cp2, bs5, cp6⟩ S hF hS D hp K hK; try dsimp only
     exact d_lv1 (lkr hp 3 rfl rfl) (lv_load Tryz.isAgg37 rfl (gives_blk (mem_cF (nf hS D (k := 28) (i := 4) rfl) (.tail _ (.head _))) rfl)) 4 rfl rfl hS (hK (bs1, cp2, bs5, cp6) hF)
   · rintro ⟨bs1, cp2, bs5, cp6⟩ S hF hS D hp K hK; try dsimp only
     exact d_lv1 (look_b (t := 1) rfl rfl) (lv_move rfl) 5 rfl rfl hS (hK (bs1, cp2, bs5, cp6) hF)
   · rintro ⟨bs1, cp2, bs5, cp6⟩ S hF hS D hp K hK; try dsimp only
     exact d_lv1 (look_b (t := 2) rfl rfl) (lv_move rfl) 6 rfl rfl hS (hK (bs1, cp2, bs5, cp6) hF)
   · rintro ⟨bs1, cp2, bs5, cp6⟩ S hF hS D hp K hK; try dsimp only
     exact d_lv1 (look_b (t := 6) rfl rfl) (lv_move rfl) 7 rfl rfl hS (hK (bs1, cp2, bs5, cp6) hF)
   · rintro ⟨bs1, cp2, bs5, cp6⟩ S hF hS D hp K hK; try dsimp only
     exact d_lv1 (look_b (t := 0) rfl rfl) (lv_move rfl) 8 rfl rfl hS (hK (bs1, cp2, bs5, cp6) hF)
   · rintro ⟨bs1, cp2, bs5, cp6⟩ S hF hS D hp K hK; try dsimp only
     exact d_lv1 (lkr hp 8 rfl rfl) (lv_nilCheck rfl) 9 rfl rfl hS (hK (bs1, cp2, bs5, cp6) hF)
   · rintro ⟨bs1, cp2, bs5, cp6⟩ S hF hS D hp K hK; try dsimp only
     exact d_lv1 (lkr hp 9 rfl rfl) (lv_fieldAddr (o' := 11) Tryz.underlying73 rfl Tryz.sizeOf65 rfl rfl) 10 rfl rfl hS (hK (bs1, cp2, bs5, cp6) hF)
   · rintro ⟨bs1, cp2, bs5, cp6⟩ S hF hS D hp K hK; try dsimp only
     exact d_lv1 (lkr hp 10 rfl rfl) (lv_load Tryz.isAgg65 rfl (gives_blk (mem_cF (nf hS D (k := 28) (i := 11) rfl) (.tail _ (.head _))) rfl)) 11 rfl rfl hS (hK (bs1, cp2, bs5, cp6) hF)
   · rintro ⟨bs1, cp2, bs5, cp6⟩ S hF hS D hp K hK; try dsimp only
     exact d_lv1 (look_b (t := 2) rfl rfl) (lv_move rfl) 12 rfl rfl hS (hK (bs1, cp2, bs5, cp6) hF)
   · rintro ⟨bs1, cp2, bs5, cp6⟩ S hF hS D hp K hK; try dsimp only
     exact d_lv2 (lkr hp 11 rfl rfl) (lkr hp 12 rfl rfl) (lv_indexAddr (k' := t) Tryz.underlying65 Tryz.sizeOf64 rfl rfl hE.okt (by omega) (by omega) (by omega)) 13 rfl rfl hS (hK (bs1, cp2, bs5, cp6) hF)
   · rintro ⟨bs1, cp2, bs5, cp6⟩ S hF hS D hp K hK; try dsimp only
     exact d_lv1 (lkr hp 13 rfl rfl) (lv_load Tryz.isAgg64 rfl (gives_sl (.tail _ (.tail _ (.tail _ (.head _)))) (ks_get hE (by first | omega | (simp; omega))))) 14 rfl rfl hS (hK (bs1, cp2, bs5, cp6) hF)
   · rintro ⟨bs1, cp2, bs5, cp6⟩ S hF hS D hp K hK; try dsimp only
     exact d_lv1 (lkr hp 14 rfl rfl) (lv_nilCheck rfl) 15 rfl rfl hS (hK (bs1, cp2, bs5, cp6) hF)
   · rintro ⟨bs1, cp2, bs5, cp6⟩ S hF hS D hp K hK; try dsimp only
     exact d_lv1 (lkr hp 15 rfl rfl) (lv_fieldAddr (o' := 2) Tryz.underlying76 rfl Tryz.sizeOf74 rfl rfl) 16 rfl rfl hS (hK (bs1, cp2, bs5, cp6) hF)
   · rintro ⟨bs1, cp2, bs5, cp6⟩ S hF hS D hp K hK; try dsimp only
     exact d_lv1 (lkr hp 16 rfl rfl) (lv_load Tryz.isAgg74 rfl (gives_bks (v := (.pointer (some ⟨(x.ks.getD t (0, 0)).2, 0, none⟩))) (T := TTk) (pk := Prod.fst) (F := tkC) (0, 0) Tk.z (.tail _ (.tail _ (.tail _ (.tail _ (.tail _ (.tail _ (.head _))))))) (by rw [hE.kn, hE.tn]) (by rw [hE.tn]; exact ht) rfl)) 17 rfl rfl hS (hK (bs1, cp2, bs5, cp6) hF)
   · rintro ⟨bs1, cp2, bs5, cp6⟩ S hF hS D hp K hK
     try dsimp only at hF ⊢
     obtain ⟨hf0, hf1, hf2, hf3⟩ := hF
     have s17 := hp 17 rfl
     refine d_need (small := [(34, (.pointer (some ⟨(x.ks.getD t (0, 0)).2, 0, none⟩)))]) ⟨look_row rfl 17 rfl s17, trivial⟩ ?_
     refine t_f7 ?_
     refine tc rfl (en_fn Tryz.call109 rfl) (ok_lfj (i := t) (by rw [hE.kn, hE.ln]) (by rw [hE.ln]; exact ht) (fun _ => lEpoch_ok _)) ?_
     rintro _ _ ⟨rfl, rfl⟩
     refine t_f7 (t_f7 (t_f7 (t_f7 (t_f7 (t_f7 (t_f7 ?_))))))
     exact d_closes ⟨look_row rfl 17 rfl s17, trivial⟩ 18 rfl rfl rfl hS (AgreeR.refl _) (t_sat (fun _ h => h) (hK (bs1, cp2, bs5, cp6) ⟨hf0, hf1, hf2, hf3⟩))
   · rintro ⟨bs1, cp2, bs5, cp6⟩ S hF hS D hp K hK; try dsimp only
     exact d_lv1 (look_b (t := 0) rfl rfl) (lv_move rfl) 19 rfl rfl hS (hK (bs1, cp2, bs5, cp6) hF)
   · rintro ⟨bs1, cp2, bs5, cp6⟩ S hF hS D hp K hK; try dsimp only
     exact d_lv1 (lkr hp 19 rfl rfl) (lv_nilCheck rfl) 20 rfl rfl hS (hK (bs1, cp2, bs5, cp6) hF)
   · rintro ⟨bs1, cp2, bs5, cp6⟩ S hF hS D hp K hK; try dsimp only
     exact d_lv1 (lkr hp 20 rfl rfl) (lv_fieldAddr (o' := 18) Tryz.underlying73 rfl Tryz.sizeOf3 rfl rfl) 21 rfl rfl hS (hK (bs1, cp2, bs5, cp6) hF)
   · rintro ⟨bs1, cp2, bs5, cp6⟩ S hF hS D hp K hK; try dsimp only
     exact d_lv1 (lkr hp 21 rfl rfl) (lv_load Tryz.isAgg3 rfl (gives_blk (mem_cF (nf hS D (k := 28) (i := 22) rfl) (.tail _ (.head _))) rfl)) 22 rfl rfl hS (hK (bs1, cp2, bs5, cp6) hF)
   · rintro ⟨bs1, cp2, bs5, cp6⟩ S hF hS D hp K hK; try dsimp only
     exact d_lv5 (lkr hp 5 rfl rfl) (lkr hp 6 rfl rfl) (lkr hp 7 rfl rfl) (lkr hp 18 rfl rfl) (lkr hp 22 rfl rfl) (lv_build (cs := [(.int .i64 kind), (.int .i64 ((t : Nat) : Int)), (.int .i64 (max (ld.slot ((t : Nat) : Int)) 0)), (.int .i64 ((s.lf.getD t Lf.z).ep)), (.int .i64 s.now)]) (pl := [(0, 1), (1, 1), (2, 1), (3, 1), (4, 1)]) Tryz.underlying45 Tryz.zeroValue45 (fun _ => by simp) rfl rfl) 23 rfl rfl hS (hK (bs1, cp2, bs5, cp6) hF)
   · rintro ⟨bs1, cp2, bs5, cp6⟩ S hF hS D hp K hK
     try dsimp only at hF ⊢
     obtain ⟨hf0, hf1, hf2, hf3⟩ := hF
     have s23 := hp 23 rfl
     refine d_need (small := [(40, (.agg #[(.int .i64 kind), (vN t), (.int .i64 (max (ld.slot ((t : Nat) : Int)) 0)), (.int .i64 ((s.lf.getD t Lf.z).ep)), (.int .i64 s.now)]))]) ⟨look_row rfl 23 rfl s23, trivial⟩ ?_
     refine tm rfl (mv_buildSlice (cs := [(.int .i64 kind), (.int .i64 ((t : Nat) : Int)), (.int .i64 (max (ld.slot ((t : Nat) : Int)) 0)), (.int .i64 ((s.lf.getD t Lf.z).ep)), (.int .i64 s.now)]) Tryz.underlying37 Tryz.sizeOf45 Tryz.zeroValue45 (by decide) rfl rfl rfl rfl) ?_
     rintro _ _ ⟨bs1, cp2, hok3, hle4, rfl, rfl⟩
     refine t_sat (fun _ h => sat_put [_, _, _, _, _, _, _, _, _] h) ?_
     exact d_closes ⟨look_row rfl 23 rfl s23, trivial⟩ 24 rfl rfl rfl hS (by exact ⟨.inl rfl, .inl rfl, .inl rfl, .inl rfl, .inl rfl, .inl rfl, .inl rfl, .inl rfl, .inl rfl, .inl rfl, .inl rfl, .inl rfl, .inl rfl, .inl rfl, .inl rfl, .inl rfl, .inl rfl, .inl rfl, .inl rfl, .inl rfl, .inl rfl, .inl rfl, .inl rfl, .inl rfl, .inr ⟨rfl, rfl, hS⟩, .inl rfl, .inl rfl, .inl rfl, trivial⟩) (t_sat (fun _ h => h) (hK (bs1, cp2, bs5, cp6) ⟨(fun _ => hok3), (fun _ => hle4), hf2, hf3⟩))
   · rintro ⟨bs1, cp2, bs5, cp6⟩ S hF hS D hp K hK
     try dsimp only at hF ⊢
     obtain ⟨hf0, hf1, hf2, hf3⟩ := hF
     have s24 := hp 24 rfl
     have hok3 := hf0 s24
     have hle4 := hf1 s24
     have s4 := hp 4 rfl
     refine d_need (small := [(21, (.slice bl k cl)), (41, (.slice bs1 1 cp2))]) ⟨look_row rfl 4 rfl s4, look_row rfl 24 rfl s24, trivial⟩ ?_
     refine t_f1 ?_
     refine t_cF (nf hS D (k := 28) (i := 25) rfl) ?_
     refine t_f5 ?_
     refine t_cF hS ?_
     refine t_f9 ?_
     refine t_cT s24 ?_
     refine t_f1 ?_
     refine tm rfl (mv_append (i := Tryz.t45) Tryz.underlying37 Tryz.type45 rfl rfl rfl (by decide) rfl rfl hok3 (by first | (simp; done) | (simp; omega)) (rd_sl (.tail _ (.head _))) (by simp [Value.oneCell']) (by rw [show Tryz.t45.bytes = 40 from rfl]; omega)) ?_
     rintro _ _ ⟨bs5, cp6, hok7, hle8, rfl, rfl⟩
     rw [show recs evC s.lg ++ [(.int .i64 kind), (.int .i64 ((t : Nat) : Int)), (.int .i64 (max (ld.slot ((t : Nat) : Int)) 0)), (.int .i64 ((s.lf.getD t Lf.z).ep)), (.int .i64 s.now)] = recs evC (s.lg ++ [⟨kind, ((t : Nat) : Int), max (ld.slot ((t : Nat) : Int)) 0, (s.lf.getD t Lf.z).ep, s.now⟩]) from recs_snoc evC s.lg ⟨kind, ((t : Nat) : Int), max (ld.slot ((t : Nat) : Int)) 0, (s.lf.getD t Lf.z).ep, s.now⟩]
     refine t_f2 ?_
     refine t_wF (A := (Blk e [(.int .i64 s.c.bud), (.int .i64 s.c.slots), (.int .i64 s.c.act), (.int .i64 s.c.que), (.int .i64 s.c.tries), (.int .i64 s.c.pre), (.int .i64 s.c.tmo), (.int .i64 s.c.bak), (.int .i64 s.c.most), (.int .i64 s.c.qu), (.slice x.ba x.n x.ca), (.slice x.bt x.n x.ct), (.slice x.br x.m x.cr), (.pointer (some ⟨x.g, 0, none⟩)), (.pointer (some ⟨x.tp, 0, none⟩)), (.pointer (some ⟨x.ld, 0, none⟩)), (.pointer (some ⟨x.ad, 0, none⟩)), (.pointer (some ⟨x.tn, 0, none⟩)), (.int .i64 s.now), (.int .i64 s.bg), (.slice bs5 (k + 1) cp6)] 73)) (nf hS D (k := 28) (i := 25) rfl) ?_
     refine t_f2 ?_
     refine t_wT (B := Emp) s24 ?_
     refine t_f9 (t_f9 (t_f9 (t_f5 (t_f9 (t_f9 (t_f9 (t_f8 (t_f9 ?_))))))))
     exact d_closes ⟨look_row rfl 4 rfl s4, look_row rfl 24 rfl s24, trivial⟩ 25 rfl rfl rfl hS (by exact ⟨.inl rfl, .inl rfl, .inl rfl, .inl rfl, .inl rfl, .inl rfl, .inl rfl, .inl rfl, .inl rfl, .inl rfl, .inl rfl, .inl rfl, .inl rfl, .inl rfl, .inl rfl, .inl rfl, .inl rfl, .inl rfl, .inl rfl, .inl rfl, .inl rfl, .inl rfl, .inl rfl, .inl rfl, .inl rfl, .inr ⟨rfl, rfl, hS⟩, .inl rfl, .inl rfl, trivial⟩) (t_sat (fun _ h => h) (hK (bs1, cp2, bs5, cp6) ⟨hf0, hf1, (fun _ => hok7), (fun _ => hle8)⟩))
   · rintro ⟨bs1, cp2, bs5, cp6⟩ S hF hS D hp K hK; try dsimp only
     exact d_lv1 (lkr hp 0 rfl rfl) (lv_nilCheck rfl) 26 rfl rfl hS (hK (bs1, cp2, bs5, cp6) hF)
   · rintro ⟨bs1, cp2, bs5, cp6⟩ S hF hS D hp K hK; try dsimp only
     exact d_lv1 (lkr hp 26 rfl rfl) (lv_fieldAddr (o' := 20) Tryz.underlying73 rfl Tryz.sizeOf37 rfl rfl) 27 rfl rfl hS (hK (bs1, cp2, bs5, cp6) hF)
   · rintro ⟨bs1, cp2, bs5, cp6⟩ S hF hS D hp K hK
     try dsimp only at hF ⊢
     obtain ⟨hf0, hf1, hf2, hf3⟩ := hF
     have s24 := hp 24 rfl
     have hok3 := hf0 s24
     have hle4 := hf1 s24
     have s25 := hp 25 rfl
     have hok7 := hf2 s25
     have hle8 := hf3 s25
     have s27 := hp 27 rfl
     refine d_need (small := [(42, (.slice bs5 (k + 1) cp6)), (44, (vP e 20))]) ⟨look_row rfl 25 rfl s25, look_row rfl 27 rfl s27, trivial⟩ ?_
     refine t_f1 ?_
     refine t_cF hS ?_
     refine ts (sv_blk Tryz.sizeOf37 rfl rfl rfl (Nat.le_of_ble_eq_true rfl) rfl) ?_
     refine t_f1 ?_
     exact d_closes0 ⟨look_row rfl 25 rfl s25, look_row rfl 27 rfl s27, trivial⟩ rfl (t_sat (fun _ h => h) (hK (bs1, cp2, bs5, cp6) ⟨hf0, hf1, hf2, hf3⟩))
 · rintro ⟨bs1, cp2, bs5, cp6⟩ hF
   try dsimp only at hF ⊢
   obtain ⟨hf0, hf1, hf2, hf3⟩ := hF
   have hok3 := hf0 rfl
   have hle4 := hf1 rfl
   have hok7 := hf2 rfl
   have hle8 := hf3 rfl
   refine t_weak (E' := [(0, (vP e 0)), (1, (.int .i64 kind)), (2, (vN t)), (6, (.int .i64 (max (ld.slot ((t : Nat) : Int)) 0)))]) ⟨rfl, rfl, rfl, rfl, trivial⟩ ?_
   refine t_f8 (t_f8 (t_f8 (t_f8 (t_f8 (t_f8 (t_f8 (t_f8 ?_)))))))
   refine t_shutN (v := noteV s ld kind ((t : Nat) : Int)) hk hE hok7 hle8 ?_
   refine t_f2 (t_drop ?_)
   refine q_ret0 rfl ?_
   exact ⟨rfl, rfl⟩
end Go.Proofs.YtanfdikglplkaaaGreatDoor
set_option maxRecDepth 100000
namespace Go.Proofs.YtanfdikglplkaaaGreatDoor
open Go Go.Proofs Sp
theorem ends_ok {R : List HP} {e : Nat} {x : EP} {s : ES} {ld : Led} {ks : Ks} {hp n : Nat} (kind : Int) (t : Nat) (ht : t < x.n) (hl : s.lg.length ≤ 1000000000)  :
    Ok Tryz.prog 49 [(.pointer (some ⟨e, 0, none⟩)), (.int .i64 kind), (.int .i64 ((t : Nat) : Int))] ((EngC e x s) :: (LedO x.ld ld) :: (Blk x.tp [(.pointer (some ⟨hp, 0, none⟩))] 132) :: (HeapO hp n ks) :: R)
      (fun v M => v = .tuple #[] ∧ M = EngC e x (s.addLg (noteV s ld kind ((t : Nat) : Int))) :: LedO x.ld (ld.drop ((t : Nat) : Int)) :: Blk x.tp [.pointer (some ⟨hp, 0, none⟩)] 132 :: HeapO hp n (remK ks ((t : Nat) : Int)) :: R) := by
 refine ok_of (N := 22) Tryz.func49 rfl rfl rfl (fun W => ?_)
 refine c_seq (fun K1 hK1 => c_region (tp rfl (lv_move rfl) (tp rfl (lv_move rfl) (tp rfl (lv_move rfl) (t_f1 (t_f1 ?_))))))
 refine tc rfl (en_fn Tryz.call82 rfl) (notes_ok (x := x) (s := s) (ld := ld) kind t (by omega) (by omega)) ?_
 rintro _ _ ⟨rfl, rfl⟩
 refine t_done (q_then_n (hK1 _ _ (c_seq (fun K2 hK2 => c_region (tp rfl (lv_move rfl) (tp rfl (lv_nilCheck rfl) (tp rfl (lv_fieldAddr (o' := 15) Tryz.underlying73 rfl Tryz.sizeOf69 rfl rfl) (tp rfl (lv_load Tryz.isAgg69 rfl (gives_e (v := (.pointer (some ⟨x.ld, 0, none⟩))) (.head _) (fun _ _ => rfl))) (tp rfl (lv_move rfl) (t_f1 ?_))))))))))
 refine tc rfl (en_fn Tryz.call83 rfl) (lfree_ok (d := ld) ((t : Nat) : Int)) ?_
 rintro _ _ ⟨rfl, rfl⟩
 refine t_done (q_then_n (hK2 _ _ (c_region (tp rfl (lv_move rfl) (tp rfl (lv_nilCheck rfl) (tp rfl (lv_fieldAddr (o' := 14) Tryz.underlying73 rfl Tryz.sizeOf68 rfl rfl) (tp rfl (lv_load Tryz.isAgg68 rfl (gives_e (v := (.pointer (some ⟨x.tp, 0, none⟩))) (.tail _ (.head _)) (fun _ _ => rfl))) (tp rfl (lv_move rfl) (t_f3 (t_f3 ?_))))))))))
 refine tc rfl (en_fn Tryz.call84 rfl) (tstop_ok (n := n) (ks := ks) ((t : Nat) : Int)) ?_
 rintro _ _ ⟨rfl, rfl⟩
 refine t_done (t_f1 (t_f1 (t_f2 (t_f3 ?_))))
 refine q_ret0 rfl ?_
 exact ⟨rfl, rfl⟩
set_option maxHeartbeats 4000000 in
theorem begins_ok {R : List HP} {e : Nat} {x : EP} {s : ES} {q : Int} {ms : List M3} {ta : Nat} (r : Nat) (hr : r < x.m) (hq : RqOk x.n s) (hb : ms.length ≤ 1000) :
    Ok Tryz.prog 45 [(.pointer (some ⟨e, 0, none⟩)), (.int .i64 ((r : Nat) : Int))] ((EngC e x s) :: (TurnsO x.tn q ms ta) :: R)
      (fun v M => v = .tuple #[] ∧ M = EngC e x (begS s r) :: TurnsO x.tn q (begM s ms r) ta :: R) := by
 refine ok_of (N := 49) Tryz.func45 rfl rfl rfl (fun W => ?_)
 refine t_learn (fun _ h => ef_of h) (fun hE => ?_)
 have hE_nb := hE.nb
 have hE_mb := hE.mb
 have hE_tn := hE.tn
 have hE_ln := hE.ln
 have hE_mn := hE.mn
 refine c_seq (fun K1 hK1 => c_region (tp rfl (lv_move rfl) (tp rfl (lv_nilCheck rfl) (tp rfl (lv_fieldAddr (o' := 12) Tryz.underlying73 rfl Tryz.sizeOf66 rfl rfl) (tp rfl (lv_load Tryz.isAgg66 rfl (gives_e (v := (.slice x.br x.m x.cr)) (.head _) (fun _ _ => rfl))) (tp rfl (lv_move rfl) (tp rfl (lv_indexAddr (k' := r) Tryz.underlying66 Tryz.sizeOf79 rfl rfl hE.okr (by omega) (by omega) (by omega)) ?_)))))))
 refine tp rfl (lv_load Tryz.isAgg79 rfl (gives_br (i := r) (.head _) (by omega))) ?_
 refine tp rfl (lv_assign rfl) (t_done (q_then_n (hK1 _ _ (c_seq (fun K2 hK2 => c_region (tp rfl (lv_move rfl) (tp rfl (lv_nilCheck rfl) (tp rfl (lv_fieldAddr (o' := 3) Tryz.underlying82 rfl Tryz.sizeOf3 rfl rfl) ?_))))))))
 refine ts (sv_rq (i := r) (o := 3) (z := { (s.rq.getD r Rq.z) with st := 1 }) (by omega) rfl (by decide) rfl Tryz.sizeOf3 rfl rfl) ?_
 refine t_done (q_then_n (hK2 _ _ (c_seq (fun K3 hK3 => ?_))))
 have hq0 := hq r (by omega)
 have hq1 := setSt_root s r 1 r
 have hq2 := setSt_wt s r 1 r
 refine t_learn (fun _ h => ef_of h) (fun hE2 => ?_)
 have hE2_nb := hE2.nb
 have hE2_mb := hE2.mb
 have hE2_tn := hE2.tn
 have hE2_ln := hE2.ln
 have hE2_mn := hE2.mn
 refine c_draw (γ := Unit) (n := 11) Tryz.mixed rfl rfl (fun _ S => True) (fun _ => [(0, 16, (vP e 0)), (1, 17, (vP e 0)), (2, 18, (vP e 17)), (3, 19, (vP x.tn 0)), (4, 20, (vN r)), (5, 21, (vP (x.rs.getD r 0) 0)), (6, 22, (vP (x.rs.getD r 0) 0)), (7, 23, (vP (x.rs.getD r 0) 0)), (8, 24, (vP (x.rs.getD r 0) 1)), (9, 25, (.int .i64 (((s.setSt r 1).rq.getD r Rq.z).wt))), (10, 26, (.int .i64 (joinEr ms ((r : Nat) : Int) (((s.setSt r 1).rq.getD r Rq.z).wt))))]) (fun _ S => (EngC e x (s.setSt r 1)) :: (bif S 10 then (TurnsO x.tn q (joinM ms ((r : Nat) : Int) (((s.setSt r 1).rq.getD r Rq.z).wt)) ta) else (TurnsO x.tn q ms ta)) :: R) (()) trivial (fun _ h => h) (fun _ _ h => h) ?_ ?_
 · refine ⟨?_, ?_, ?_, ?_, ?_, ?_, ?_, ?_, ?_, ?_, ?_, trivial⟩
   · intro _ S h s D p K k; exact d_lv1 (look_b (t := 0) rfl rfl) (lv_move rfl) 0 rfl rfl s (k () h)
   · intro _ S h s D p K k; exact d_lv1 (lkr p 0 rfl rfl) (lv_nilCheck rfl) 1 rfl rfl s (k () h)
   · intro _ S h s D p K k; exact d_lv1 (lkr p 1 rfl rfl) (lv_fieldAddr (o' := 17) Tryz.underlying73 rfl Tryz.sizeOf71 rfl rfl) 2 rfl rfl s (k () h)
   · intro _ S h s D p K k; exact d_lv1 (lkr p 2 rfl rfl) (lv_load Tryz.isAgg71 rfl (gives_e (v := (.pointer (some ⟨x.tn, 0, none⟩))) (.head _) (fun _ _ => rfl))) 3 rfl rfl s (k () h)
   · intro _ S h s D p K k; exact d_lv1 (look_b (t := 1) rfl rfl) (lv_move rfl) 4 rfl rfl s (k () h)
   · intro _ S h s D p K k; exact d_lv1 (look_b (t := 4) rfl rfl) (lv_move rfl) 5 rfl rfl s (k () h)
   · intro _ S h s D p K k; exact d_lv1 (lkr p 5 rfl rfl) (lv_nilCheck rfl) 6 rfl rfl s (k () h)
   · intro _ S h s D p K k; exact d_lv1 (lkr p 6 rfl rfl) (lv_fieldAddr (o' := 0) Tryz.underlying82 rfl Tryz.sizeOf51 rfl rfl) 7 rfl rfl s (k () h)
   · intro _ S h s D p K k; exact d_lv1 (lkr p 7 rfl rfl) (lv_fieldAddr (o' := 1) Tryz.underlying51 rfl Tryz.sizeOf3 rfl rfl) 8 rfl rfl s (k () h)
   · rintro _ S hF hS D hp K hK; try dsimp only
     exact d_lv1 (lkr hp 8 rfl rfl) (lv_load Tryz.isAgg3 rfl (gives_rq (i := r) (v := (.int .i64 (((s.setSt r 1).rq.getD r Rq.z).wt))) (.head _) (by omega) rfl)) 9 rfl rfl hS (hK () hF)
   · rintro _ S hF hS D hp K hK
     try dsimp only at hF ⊢
     have s3 := hp 3 rfl
     have s4 := hp 4 rfl
     have s9 := hp 9 rfl
     refine d_need (small := [(19, (vP x.tn 0)), (20, (vN r)), (25, (.int .i64 (((s.setSt r 1).rq.getD r Rq.z).wt)))]) ⟨look_row rfl 3 rfl s3, look_row rfl 4 rfl s4, look_row rfl 9 rfl s9, trivial⟩ ?_
     refine t_f1 ?_
     refine t_cF hS ?_
     refine tc rfl (en_fn Tryz.call75 rfl) (tjoin_ok (q := q) (ms := ms) (a := ta) ((r : Nat) : Int) (((s.setSt r 1).rq.getD r Rq.z).wt) (by omega)) ?_
     rintro _ _ ⟨rfl, rfl⟩
     refine t_f1 ?_
     exact d_closes ⟨look_row rfl 3 rfl s3, look_row rfl 4 rfl s4, look_row rfl 9 rfl s9, trivial⟩ 10 rfl rfl rfl hS (AgreeR.refl _) (t_sat (fun _ h => h) (hK () trivial))
 · rintro _ hF
   try dsimp only at hF ⊢
   refine t_weak (E' := [(0, (vP e 0)), (1, (vN r)), (4, (vP (x.rs.getD r 0) 0))]) ⟨rfl, rfl, rfl, trivial⟩ ?_
   refine q_then_n (hK3 _ _ (c_seq (fun K4 hK4 => ?_)))
   refine c_draw (γ := Unit) (n := 12) Tryz.mixed rfl rfl (fun _ S => True) (fun _ => [(0, 27, (vP e 0)), (1, 28, (vP e 0)), (2, 29, (vP e 11)), (3, 30, (.slice x.bt x.n x.ct)), (4, 31, (vP (x.rs.getD r 0) 0)), (5, 32, (vP (x.rs.getD r 0) 0)), (6, 33, (vP (x.rs.getD r 0) 0)), (7, 34, (vP (x.rs.getD r 0) 0)), (8, 35, (.int .i64 (((s.setSt r 1).rq.getD r Rq.z).root))), (9, 36, (.pointer (some (ad x.bt ((((s.setSt r 1).rq.getD r Rq.z).root).toNat))))), (10, 37, (.pointer (some ⟨(x.ks.getD ((((s.setSt r 1).rq.getD r Rq.z).root).toNat) (0, 0)).1, 0, none⟩))), (11, 5, (.pointer (some ⟨(x.ks.getD ((((s.setSt r 1).rq.getD r Rq.z).root).toNat) (0, 0)).1, 0, none⟩)))]) (fun _ S => (EngC e x (s.setSt r 1)) :: (TurnsO x.tn q (joinM ms ((r : Nat) : Int) (((s.setSt r 1).rq.getD r Rq.z).wt)) ta) :: R) (()) trivial (fun _ h => h) (fun _ _ h => h) ?_ ?_
   · refine ⟨?_, ?_, ?_, ?_, ?_, ?_, ?_, ?_, ?_, ?_, ?_, ?_, trivial⟩
     · intro _ S h s D p K k; exact d_lv1 (look_b (t := 0) rfl rfl) (lv_move rfl) 0 rfl rfl s (k () h)
     · intro _ S h s D p K k; exact d_lv1 (lkr p 0 rfl rfl) (lv_nilCheck rfl) 1 rfl rfl s (k () h)
     · intro _ S h s D p K k; exact d_lv1 (lkr p 1 rfl rfl) (lv_fieldAddr (o' := 11) Tryz.underlying73 rfl Tryz.sizeOf65 rfl rfl) 2 rfl rfl s (k () h)
     · intro _ S h s D p K k; exact d_lv1 (lkr p 2 rfl rfl) (lv_load Tryz.isAgg65 rfl (gives_e (v := (.slice x.bt x.n x.ct)) (.head _) (fun _ _ => rfl))) 3 rfl rfl s (k () h)
     · intro _ S h s D p K k; exact d_lv1 (look_b (t := 4) rfl rfl) (lv_move rfl) 4 rfl rfl s (k () h)
     · intro _ S h s D p K k; exact d_lv1 (lkr p 4 rfl rfl) (lv_nilCheck rfl) 5 rfl rfl s (k () h)
     · intro _ S h s D p K k; exact d_lv1 (lkr p 5 rfl rfl) (lv_fieldAddr (o' := 0) Tryz.underlying82 rfl Tryz.sizeOf51 rfl rfl) 6 rfl rfl s (k () h)
     · intro _ S h s D p K k; exact d_lv1 (lkr p 6 rfl rfl) (lv_fieldAddr (o' := 0) Tryz.underlying51 rfl Tryz.sizeOf3 rfl rfl) 7 rfl rfl s (k () h)
     · rintro _ S hF hS D hp K hK; try dsimp only
       exact d_lv1 (lkr hp 7 rfl rfl) (lv_load Tryz.isAgg3 rfl (gives_rq (i := r) (v := (.int .i64 (((s.setSt r 1).rq.getD r Rq.z).root))) (.head _) (by omega) rfl)) 8 rfl rfl hS (hK () hF)
     · rintro _ S hF hS D hp K hK; try dsimp only
       exact d_lv2 (lkr hp 3 rfl rfl) (lkr hp 8 rfl rfl) (lv_indexAddr (k' := (((s.setSt r 1).rq.getD r Rq.z).root).toNat) Tryz.underlying65 Tryz.sizeOf64 rfl rfl hE.okt (by omega) (by omega) (by omega)) 9 rfl rfl hS (hK () hF)
     · rintro _ S hF hS D hp K hK; try dsimp only
       exact d_lv1 (lkr hp 9 rfl rfl) (lv_load Tryz.isAgg64 rfl (gives_bt (i := (((s.setSt r 1).rq.getD r Rq.z).root).toNat) (.head _) (by omega))) 10 rfl rfl hS (hK () hF)
     · intro _ S h s D p K k; exact d_lv1 (lkr p 10 rfl rfl) (lv_assign rfl) 11 rfl rfl s (k () h)
   · rintro _ hF
     try dsimp only at hF ⊢
     refine t_weak (E' := [(0, (vP e 0)), (1, (vN r)), (4, (vP (x.rs.getD r 0) 0)), (5, (.pointer (some ⟨(x.ks.getD ((((s.setSt r 1).rq.getD r Rq.z).root).toNat) (0, 0)).1, 0, none⟩)))]) ⟨rfl, rfl, rfl, rfl, trivial⟩ ?_
     refine q_then_n (hK4 _ _ (c_seq (fun K5 hK5 => c_region (tp rfl (lv_move rfl) (tp rfl (lv_nilCheck rfl) (tp rfl (lv_fieldAddr (o' := 2) Tryz.underlying76 rfl Tryz.sizeOf74 rfl rfl) (tp rfl (lv_load Tryz.isAgg74 rfl (gives_tk (i := ((((s.setSt r 1).rq.getD r Rq.z).root).toNat)) (v := (.pointer (some ⟨(x.ks.getD ((((s.setSt r 1).rq.getD r Rq.z).root).toNat) (0, 0)).2, 0, none⟩))) (.head _) (by omega) rfl)) ?_)))))))
     refine tc rfl (en_fn Tryz.call23 rfl) (ok_life0 (i := ((((s.setSt r 1).rq.getD r Rq.z).root).toNat)) (by omega) (fun _ => lState_ok _)) ?_
     rintro _ _ ⟨rfl, rfl⟩
     by_cases h1 : ((s.lf.getD ((((s.setSt r 1).rq.getD r Rq.z).root).toNat) Lf.z).st) = 0
     · refine tp rfl (lv_eql rfl rfl (beq_iff_eq.2 h1)) (t_done (q_then_n (hK5 _ _ (c_true rfl (c_region (tp rfl (lv_move rfl) (tp rfl (lv_nilCheck rfl) (tp rfl (lv_fieldAddr (o' := 2) Tryz.underlying76 rfl Tryz.sizeOf74 rfl rfl) (tp rfl (lv_load Tryz.isAgg74 rfl (gives_tk (i := ((((s.setSt r 1).rq.getD r Rq.z).root).toNat)) (v := (.pointer (some ⟨(x.ks.getD ((((s.setSt r 1).rq.getD r Rq.z).root).toNat) (0, 0)).2, 0, none⟩))) (.head _) (by omega) rfl)) ?_)))))))))
       refine tc rfl (en_fn Tryz.call76 rfl) (ok_life (i := ((((s.setSt r 1).rq.getD r Rq.z).root).toNat)) (y := wantF (s.lf.getD ((((s.setSt r 1).rq.getD r Rq.z).root).toNat) Lf.z)) (by omega) (fun h => h.want) (fun h _ => lWant_ok _ h)) ?_
       rintro _ _ ⟨rfl, rfl⟩
       refine t_done ?_
       refine q_ret0 rfl ?_
       exact ⟨rfl, by unfold begS ES.rt ES.stt; first | rw [if_pos ‹_›]; rfl | rw [if_neg ‹_›]; rfl⟩
     · refine tp rfl (lv_eql rfl rfl (beq_eq_false_iff_ne.2 h1)) (t_done (q_then_n (hK5 _ _ (c_false rfl (c_skip ?_)))))
       refine q_ret0 rfl ?_
       exact ⟨rfl, by unfold begS ES.rt ES.stt; first | rw [if_pos ‹_›]; rfl | rw [if_neg ‹_›]; rfl⟩
end Go.Proofs.YtanfdikglplkaaaGreatDoor
