/- Parts Eo: own lemmas and contracts of the code that the claim reaches. -/
import Derived.Test.YtanfdikglplkaaaGreatDoorM03
import Derived.Test.YtanfdikglplkaaaGreatDoorM20
import Derived.Test.YtanfdikglplkaaaGreatDoorM11
import Derived.Test.YtanfdikglplkaaaGreatDoorM10
set_option linter.unusedSimpArgs false
set_option linter.unusedVariables false
set_option maxRecDepth 100000
namespace Go.Proofs.YtanfdikglplkaaaGreatDoor
open Go Go.Proofs Sp
set_option maxHeartbeats 4000000 in
theorem query_ok {R : List HP} {e : Nat} {x : EP} {s : ES} {okd ob oc od : Int} (r : Nat) (hr : r < x.m) :
    Ok Tryz.prog 30 [(.pointer (some ⟨e, 0, none⟩)), (.agg #[(.int .i64 okd), (.int .i64 ((r : Nat) : Int)), (.int .i64 ob), (.int .i64 oc), (.int .i64 od)])] ((EngC e x s) :: R)
      (fun u M => u = .tuple #[.agg #[.int .i64 0, .int .i64 (s.rq.getD r Rq.z).st, .int .i64 (s.rq.getD r Rq.z).root, .int .i64 0, .int .i64 0], .int .i64 0] ∧ M = EngC e x s :: R) := by
 refine ok_of (N := 24) Tryz.func30 rfl rfl rfl (fun W => ?_)
 refine t_learn (fun _ h => ef_of h) (fun hE => ?_)
 have hE_nb := hE.nb
 have hE_mb := hE.mb
 have hE_tn := hE.tn
 have hE_ln := hE.ln
 have hE_mn := hE.mn
 refine c_seq (fun K1 hK1 => c_region ?_)
 refine tm rfl (mv_box rfl rfl) ?_
 rintro _ _ ⟨b1, rfl, rfl⟩
 refine tm rfl (mv_alloc Tryz.zeroValue40 rfl) ?_
 rintro _ _ ⟨b2, rfl, rfl⟩
 refine tp rfl (lv_assign rfl) (t_done (q_then_n (hK1 _ _ (c_seq (fun K2 hK2 => c_region (tp rfl (lv_move rfl) (tp rfl (lv_fieldAddr (o' := 1) Tryz.underlying32 rfl Tryz.sizeOf3 rfl rfl) (tp rfl (lv_load Tryz.isAgg3 rfl (gives_blk (.tail _ (.head _)) rfl)) (t_f2 ?_)))))))))
 refine tc rfl (en_fn Tryz.call31 rfl) (asked_y (x := x) (s := s) r hr) ?_
 rintro _ _ ⟨rfl, rfl⟩
 refine tp rfl (lv_assign rfl) (t_done (q_then_n (hK2 _ _ (c_seq (fun K3 hK3 => c_seq (fun K4 hK4 => c_region (tp rfl (lv_move rfl) (tp rfl (lv_eqnil Tryz.underlying79 rfl rfl) (t_done (q_then_n (hK4 _ _ ?_)))))))))))
 refine c_false rfl (c_skip (q_then_n (hK3 _ _ (c_seq (fun K5 hK5 => ?_)))))
 refine c_draw (γ := Unit) (n := 12) Tryz.mixed rfl rfl (fun _ S => True) (fun _ => [(0, 14, (vP (x.rs.getD r 0) 0)), (1, 15, (vP (x.rs.getD r 0) 0)), (2, 16, (vP (x.rs.getD r 0) 3)), (3, 17, (.int .i64 ((s.rq.getD r Rq.z).st))), (4, 18, (vP (x.rs.getD r 0) 0)), (5, 19, (vP (x.rs.getD r 0) 0)), (6, 20, (vP (x.rs.getD r 0) 0)), (7, 21, (vP (x.rs.getD r 0) 0)), (8, 22, (.int .i64 ((s.rq.getD r Rq.z).root))), (9, 23, (.agg #[(.int .i64 0), (.int .i64 ((s.rq.getD r Rq.z).st)), (.int .i64 ((s.rq.getD r Rq.z).root)), (.int .i64 0), (.int .i64 0)])), (11, 5, (.int .i64 0))]) (fun _ S => (EngC e x s) :: (bif S 10 then (Blk b2 [(.int .i64 0), (.int .i64 ((s.rq.getD r Rq.z).st)), (.int .i64 ((s.rq.getD r Rq.z).root)), (.int .i64 0), (.int .i64 0)] 40) else (Blk b2 [(.int .i64 0), (.int .i64 0), (.int .i64 0), (.int .i64 0), (.int .i64 0)] 40)) :: (Blk b1 [(.int .i64 okd), (vN r), (.int .i64 ob), (.int .i64 oc), (.int .i64 od)] 32) :: R) (()) trivial (fun _ h => h) (fun _ _ h => h) ?_ ?_
 · refine ⟨?_, ?_, ?_, ?_, ?_, ?_, ?_, ?_, ?_, ?_, ?_, ?_, trivial⟩
   · intro _ S h s D p K k; exact d_lv1 (look_b (t := 6) rfl rfl) (lv_move rfl) 0 rfl rfl s (k () h)
   · intro _ S h s D p K k; exact d_lv1 (lkr p 0 rfl rfl) (lv_nilCheck rfl) 1 rfl rfl s (k () h)
   · intro _ S h s D p K k; exact d_lv1 (lkr p 1 rfl rfl) (lv_fieldAddr (o' := 3) Tryz.underlying82 rfl Tryz.sizeOf3 rfl rfl) 2 rfl rfl s (k () h)
   · rintro _ S hF hS D hp K hK; try dsimp only
     exact d_lv1 (lkr hp 2 rfl rfl) (lv_load Tryz.isAgg3 rfl (gives_rq (i := r) (v := (.int .i64 ((s.rq.getD r Rq.z).st))) (.head _) (by omega) rfl)) 3 rfl rfl hS (hK () hF)
   · intro _ S h s D p K k; exact d_lv1 (look_b (t := 6) rfl rfl) (lv_move rfl) 4 rfl rfl s (k () h)
   · intro _ S h s D p K k; exact d_lv1 (lkr p 4 rfl rfl) (lv_nilCheck rfl) 5 rfl rfl s (k () h)
   · intro _ S h s D p K k; exact d_lv1 (lkr p 5 rfl rfl) (lv_fieldAddr (o' := 0) Tryz.underlying82 rfl Tryz.sizeOf51 rfl rfl) 6 rfl rfl s (k () h)
   · intro _ S h s D p K k; exact d_lv1 (lkr p 6 rfl rfl) (lv_fieldAddr (o' := 0) Tryz.underlying51 rfl Tryz.sizeOf3 rfl rfl) 7 rfl rfl s (k () h)
   · rintro _ S hF hS D hp K hK; try dsimp only
     exact d_lv1 (lkr hp 7 rfl rfl) (lv_load Tryz.isAgg3 rfl (gives_rq (i := r) (v := (.int .i64 ((s.rq.getD r Rq.z).root))) (.head _) (by omega) rfl)) 8 rfl rfl hS (hK () hF)
   · rintro _ S hF hS D hp K hK; try dsimp only
     exact d_lv2 (lkr hp 3 rfl rfl) (lkr hp 8 rfl rfl) (lv_build (cs := [(.int .i64 0), (.int .i64 ((s.rq.getD r Rq.z).st)), (.int .i64 ((s.rq.getD r Rq.z).root)), (.int .i64 0), (.int .i64 0)]) (pl := [(0, 1), (1, 1), (2, 1), (3, 1), (4, 1)]) Tryz.underlying40 Tryz.zeroValue40 (fun _ => by simp) rfl rfl) 9 rfl rfl hS (hK () hF)
   · rintro _ S hF hS D hp K hK
     try dsimp only at hF ⊢
     have s9 := hp 9 rfl
     refine d_need (small := [(4, (vP b2 0)), (23, (.agg #[(.int .i64 0), (.int .i64 ((s.rq.getD r Rq.z).st)), (.int .i64 ((s.rq.getD r Rq.z).root)), (.int .i64 0), (.int .i64 0)]))]) ⟨look_b rfl rfl, look_row rfl 9 rfl s9, trivial⟩ ?_
     refine t_f1 ?_
     refine t_cF hS ?_
     refine ts (sv_blkAgg (news := [(.int .i64 0), (.int .i64 ((s.rq.getD r Rq.z).st)), (.int .i64 ((s.rq.getD r Rq.z).root)), (.int .i64 0), (.int .i64 0)]) Tryz.sizeOf40 rfl rfl rfl rfl (Nat.le_of_ble_eq_true rfl) rfl) ?_
     refine t_f1 ?_
     exact d_closes0 ⟨look_b rfl rfl, look_row rfl 9 rfl s9, trivial⟩ rfl (t_sat (fun _ h => h) (hK () trivial))
   · intro _ S h s D p K k; exact d_lv0 (lv_assign rfl) 10 rfl rfl s (k () h)
 · rintro _ hF
   try dsimp only at hF ⊢
   refine t_weak (E' := [(0, (vP e 0)), (1, (.agg #[(.int .i64 okd), (vN r), (.int .i64 ob), (.int .i64 oc), (.int .i64 od)])), (3, (vP b1 0)), (4, (vP b2 0)), (5, (.int .i64 0)), (6, (vP (x.rs.getD r 0) 0)), (12, (.bool false))]) ⟨rfl, rfl, rfl, rfl, rfl, rfl, rfl, trivial⟩ ?_
   refine q_then_n (hK5 _ _ (c_ret (t_f1 (t_f2 (t_drop ?_)))))
   refine q_retc2 (cs := [(.int .i64 0), (.int .i64 ((s.rq.getD r Rq.z).st)), (.int .i64 ((s.rq.getD r Rq.z).root)), (.int .i64 0), (.int .i64 0)]) rfl rfl rfl Tryz.isAgg40 Tryz.sizeOf40 (gives_all5 (gives_blk (.head _) rfl) (gives_blk (.head _) rfl) (gives_blk (.head _) rfl) (gives_blk (.head _) rfl) (gives_blk (.head _) rfl)) (fun _ h => h.drop) ?_
   exact ⟨rfl, rfl⟩
theorem do_submit {R : List HP} {ι : Type} {e : Nat} {oa ob oc od : Int} {A1 : List HP} {B1 : ι → List HP} {q1 : ι → Prop} {ra rb rc rd re rf : ι → Int} (h : ∀ X Y Z : HP, Ok Tryz.prog 25 [.pointer (some ⟨e, 0, none⟩), (.agg #[.int .i64 1, .int .i64 oa, .int .i64 ob, .int .i64 oc, .int .i64 od])] (Join A1 :: X :: Y :: Z :: R) (fun u M => ∃ i, q1 i ∧ u = .tuple #[.agg #[.int .i64 (ra i), .int .i64 (rb i), .int .i64 (rc i), .int .i64 (rd i), .int .i64 (re i)], .int .i64 (rf i)] ∧ M = Join (B1 i) :: X :: Y :: Z :: R)) :
    Ok Tryz.prog 13 [(.pointer (some ⟨e, 0, none⟩)), (.agg #[(.int .i64 1), (.int .i64 oa), (.int .i64 ob), (.int .i64 oc), (.int .i64 od)])] ((Join A1) :: R)
      (fun u M => ∃ i, q1 i ∧ u = .tuple #[.agg #[.int .i64 (ra i), .int .i64 (rb i), .int .i64 (rc i), .int .i64 (rd i), .int .i64 (re i)], .int .i64 (rf i)] ∧ M = Join (B1 i) :: R) := by
 refine ok_of (N := 32) Tryz.func13 rfl rfl rfl (fun W => ?_)
 refine c_seq (fun K1 hK1 => c_region ?_)
 refine tm rfl (mv_box rfl rfl) ?_
 rintro _ _ ⟨b1, rfl, rfl⟩
 refine tm rfl (mv_alloc Tryz.zeroValue40 rfl) ?_
 rintro _ _ ⟨b2, rfl, rfl⟩
 refine tp rfl (lv_assign rfl) (t_done (q_then_n (hK1 _ _ (c_seq (fun K2 hK2 => c_region ?_)))))
 refine tm rfl (mv_makeMap .i64) ?_
 rintro _ _ ⟨mb3, rfl, rfl⟩
 refine tp rfl (lv_move rfl) (tp rfl (lv_makeFuncM rfl) ?_)
 refine ts (sv_insert Tryz.underlying78 Tryz.underlying3 rfl rfl rfl rfl) ?_
 refine tp rfl (lv_move rfl) (tp rfl (lv_makeFuncM rfl) ?_)
 refine ts (sv_insert Tryz.underlying78 Tryz.underlying3 rfl rfl rfl rfl) ?_
 refine tp rfl (lv_move rfl) (tp rfl (lv_makeFuncM rfl) ?_)
 refine ts (sv_insert Tryz.underlying78 Tryz.underlying3 rfl rfl rfl rfl) ?_
 refine tp rfl (lv_move rfl) (tp rfl (lv_makeFuncM rfl) ?_)
 refine ts (sv_insert Tryz.underlying78 Tryz.underlying3 rfl rfl rfl rfl) ?_
 refine tp rfl (lv_move rfl) (tp rfl (lv_makeFuncM rfl) ?_)
 refine ts (sv_insert Tryz.underlying78 Tryz.underlying3 rfl rfl rfl rfl) ?_
 refine tp rfl (lv_move rfl) (tp rfl (lv_makeFuncM rfl) ?_)
 refine ts (sv_insert Tryz.underlying78 Tryz.underlying3 rfl rfl rfl rfl) ?_
 refine tp rfl (lv_move rfl) (tp rfl (lv_fieldAddr (o' := 0) Tryz.underlying32 rfl Tryz.sizeOf3 rfl rfl) (tp rfl (lv_load Tryz.isAgg3 rfl (gives_blk (.tail _ (.tail _ (.head _))) rfl)) (tp rfl (lv_lookup Tryz.underlying78 Tryz.underlying3 Tryz.zeroValue43 rfl rfl (.head _) rfl) (tp rfl (lv_assign rfl) (t_done (q_then_n (hK2 _ _ (c_seq (fun K3 hK3 => c_seq (fun K4 hK4 => c_region ?_))))))))))
 refine tp rfl (lv_move rfl) (tp rfl (lv_eqfn Tryz.underlying43 rfl rfl) (t_done (q_then_n (hK4 _ _ (c_false rfl (c_skip (q_then_n (hK3 _ _ (c_seq (fun K5 hK5 => c_region (tp rfl (lv_move rfl) ?_)))))))))))
 refine tp rfl (lv_loadAgg (cs := [(.int .i64 1), (.int .i64 oa), (.int .i64 ob), (.int .i64 oc), (.int .i64 od)]) Tryz.isAgg32 Tryz.sizeOf32 rfl (gives_all5 (gives_blk (.tail _ (.tail _ (.head _))) rfl) (gives_blk (.tail _ (.tail _ (.head _))) rfl) (gives_blk (.tail _ (.tail _ (.head _))) rfl) (gives_blk (.tail _ (.tail _ (.head _))) rfl) (gives_blk (.tail _ (.tail _ (.head _))) rfl))) (t_f3 ?_)
 refine tc rfl (en_mval (first := [(.pointer (some ⟨e, 0, none⟩))]) Tryz.call25 rfl rfl) (h _ _ _) ?_
 rintro _ _ ⟨iy4, hiy4q, rfl, rfl⟩
 refine tp rfl (lv_extract rfl rfl) (tp rfl (lv_extract rfl rfl) (t_f2 ?_))
 refine ts (sv_blkAgg (news := [(.int .i64 (ra iy4)), (.int .i64 (rb iy4)), (.int .i64 (rc iy4)), (.int .i64 (rd iy4)), (.int .i64 (re iy4))]) Tryz.sizeOf40 rfl rfl rfl rfl (Nat.le_of_ble_eq_true rfl) rfl) ?_
 refine tp rfl (lv_assign rfl) (t_done (q_then_n (hK5 _ _ (c_ret (t_f2 (t_drop (t_f2 (t_drop ?_))))))))
 refine q_retc2 (cs := [(.int .i64 (ra iy4)), (.int .i64 (rb iy4)), (.int .i64 (rc iy4)), (.int .i64 (rd iy4)), (.int .i64 (re iy4))]) rfl rfl rfl Tryz.isAgg40 Tryz.sizeOf40 (gives_all5 (gives_blk (.head _) rfl) (gives_blk (.head _) rfl) (gives_blk (.head _) rfl) (gives_blk (.head _) rfl) (gives_blk (.head _) rfl)) (fun _ h => h.drop) ?_
 exact ⟨iy4, hiy4q, rfl, rfl⟩
theorem do_dispatch {R : List HP} {ι : Type} {e : Nat} {oa ob oc od : Int} {A1 : List HP} {B1 : ι → List HP} {q1 : ι → Prop} {ra rb rc rd re rf : ι → Int} (h : ∀ X Y Z : HP, Ok Tryz.prog 28 [.pointer (some ⟨e, 0, none⟩), (.agg #[.int .i64 4, .int .i64 oa, .int .i64 ob, .int .i64 oc, .int .i64 od])] (Join A1 :: X :: Y :: Z :: R) (fun u M => ∃ i, q1 i ∧ u = .tuple #[.agg #[.int .i64 (ra i), .int .i64 (rb i), .int .i64 (rc i), .int .i64 (rd i), .int .i64 (re i)], .int .i64 (rf i)] ∧ M = Join (B1 i) :: X :: Y :: Z :: R)) :
    Ok Tryz.prog 13 [(.pointer (some ⟨e, 0, none⟩)), (.agg #[(.int .i64 4), (.int .i64 oa), (.int .i64 ob), (.int .i64 oc), (.int .i64 od)])] ((Join A1) :: R)
      (fun u M => ∃ i, q1 i ∧ u = .tuple #[.agg #[.int .i64 (ra i), .int .i64 (rb i), .int .i64 (rc i), .int .i64 (rd i), .int .i64 (re i)], .int .i64 (rf i)] ∧ M = Join (B1 i) :: R) := by
 refine ok_of (N := 32) Tryz.func13 rfl rfl rfl (fun W => ?_)
 refine c_seq (fun K1 hK1 => c_region ?_)
 refine tm rfl (mv_box rfl rfl) ?_
 rintro _ _ ⟨b1, rfl, rfl⟩
 refine tm rfl (mv_alloc Tryz.zeroValue40 rfl) ?_
 rintro _ _ ⟨b2, rfl, rfl⟩
 refine tp rfl (lv_assign rfl) (t_done (q_then_n (hK1 _ _ (c_seq (fun K2 hK2 => c_region ?_)))))
 refine tm rfl (mv_makeMap .i64) ?_
 rintro _ _ ⟨mb3, rfl, rfl⟩
 refine tp rfl (lv_move rfl) (tp rfl (lv_makeFuncM rfl) ?_)
 refine ts (sv_insert Tryz.underlying78 Tryz.underlying3 rfl rfl rfl rfl) ?_
 refine tp rfl (lv_move rfl) (tp rfl (lv_makeFuncM rfl) ?_)
 refine ts (sv_insert Tryz.underlying78 Tryz.underlying3 rfl rfl rfl rfl) ?_
 refine tp rfl (lv_move rfl) (tp rfl (lv_makeFuncM rfl) ?_)
 refine ts (sv_insert Tryz.underlying78 Tryz.underlying3 rfl rfl rfl rfl) ?_
 refine tp rfl (lv_move rfl) (tp rfl (lv_makeFuncM rfl) ?_)
 refine ts (sv_insert Tryz.underlying78 Tryz.underlying3 rfl rfl rfl rfl) ?_
 refine tp rfl (lv_move rfl) (tp rfl (lv_makeFuncM rfl) ?_)
 refine ts (sv_insert Tryz.underlying78 Tryz.underlying3 rfl rfl rfl rfl) ?_
 refine tp rfl (lv_move rfl) (tp rfl (lv_makeFuncM rfl) ?_)
 refine ts (sv_insert Tryz.underlying78 Tryz.underlying3 rfl rfl rfl rfl) ?_
 refine tp rfl (lv_move rfl) (tp rfl (lv_fieldAddr (o' := 0) Tryz.underlying32 rfl Tryz.sizeOf3 rfl rfl) (tp rfl (lv_load Tryz.isAgg3 rfl (gives_blk (.tail _ (.tail _ (.head _))) rfl)) (tp rfl (lv_lookup Tryz.underlying78 Tryz.underlying3 Tryz.zeroValue43 rfl rfl (.head _) rfl) (tp rfl (lv_assign rfl) (t_done (q_then_n (hK2 _ _ (c_seq (fun K3 hK3 => c_seq (fun K4 hK4 => c_region ?_))))))))))
 refine tp rfl (lv_move rfl) (tp rfl (lv_eqfn Tryz.underlying43 rfl rfl) (t_done (q_then_n (hK4 _ _ (c_false rfl (c_skip (q_then_n (hK3 _ _ (c_seq (fun K5 hK5 => c_region (tp rfl (lv_move rfl) ?_)))))))))))
 refine tp rfl (lv_loadAgg (cs := [(.int .i64 4), (.int .i64 oa), (.int .i64 ob), (.int .i64 oc), (.int .i64 od)]) Tryz.isAgg32 Tryz.sizeOf32 rfl (gives_all5 (gives_blk (.tail _ (.tail _ (.head _))) rfl) (gives_blk (.tail _ (.tail _ (.head _))) rfl) (gives_blk (.tail _ (.tail _ (.head _))) rfl) (gives_blk (.tail _ (.tail _ (.head _))) rfl) (gives_blk (.tail _ (.tail _ (.head _))) rfl))) (t_f3 ?_)
 refine tc rfl (en_mval (first := [(.pointer (some ⟨e, 0, none⟩))]) Tryz.call28 rfl rfl) (h _ _ _) ?_
 rintro _ _ ⟨iy4, hiy4q, rfl, rfl⟩
 refine tp rfl (lv_extract rfl rfl) (tp rfl (lv_extract rfl rfl) (t_f2 ?_))
 refine ts (sv_blkAgg (news := [(.int .i64 (ra iy4)), (.int .i64 (rb iy4)), (.int .i64 (rc iy4)), (.int .i64 (rd iy4)), (.int .i64 (re iy4))]) Tryz.sizeOf40 rfl rfl rfl rfl (Nat.le_of_ble_eq_true rfl) rfl) ?_
 refine tp rfl (lv_assign rfl) (t_done (q_then_n (hK5 _ _ (c_ret (t_f2 (t_drop (t_f2 (t_drop ?_))))))))
 refine q_retc2 (cs := [(.int .i64 (ra iy4)), (.int .i64 (rb iy4)), (.int .i64 (rc iy4)), (.int .i64 (rd iy4)), (.int .i64 (re iy4))]) rfl rfl rfl Tryz.isAgg40 Tryz.sizeOf40 (gives_all5 (gives_blk (.head _) rfl) (gives_blk (.head _) rfl) (gives_blk (.head _) rfl) (gives_blk (.head _) rfl) (gives_blk (.head _) rfl)) (fun _ h => h.drop) ?_
 exact ⟨iy4, hiy4q, rfl, rfl⟩
theorem do_answer {R : List HP} {ι : Type} {e : Nat} {oa ob oc od : Int} {A1 : List HP} {B1 : ι → List HP} {q1 : ι → Prop} {ra rb rc rd re rf : ι → Int} (h : ∀ X Y Z : HP, Ok Tryz.prog 29 [.pointer (some ⟨e, 0, none⟩), (.agg #[.int .i64 5, .int .i64 oa, .int .i64 ob, .int .i64 oc, .int .i64 od])] (Join A1 :: X :: Y :: Z :: R) (fun u M => ∃ i, q1 i ∧ u = .tuple #[.agg #[.int .i64 (ra i), .int .i64 (rb i), .int .i64 (rc i), .int .i64 (rd i), .int .i64 (re i)], .int .i64 (rf i)] ∧ M = Join (B1 i) :: X :: Y :: Z :: R)) :
    Ok Tryz.prog 13 [(.pointer (some ⟨e, 0, none⟩)), (.agg #[(.int .i64 5), (.int .i64 oa), (.int .i64 ob), (.int .i64 oc), (.int .i64 od)])] ((Join A1) :: R)
      (fun u M => ∃ i, q1 i ∧ u = .tuple #[.agg #[.int .i64 (ra i), .int .i64 (rb i), .int .i64 (rc i), .int .i64 (rd i), .int .i64 (re i)], .int .i64 (rf i)] ∧ M = Join (B1 i) :: R) := by
 refine ok_of (N := 32) Tryz.func13 rfl rfl rfl (fun W => ?_)
 refine c_seq (fun K1 hK1 => c_region ?_)
 refine tm rfl (mv_box rfl rfl) ?_
 rintro _ _ ⟨b1, rfl, rfl⟩
 refine tm rfl (mv_alloc Tryz.zeroValue40 rfl) ?_
 rintro _ _ ⟨b2, rfl, rfl⟩
 refine tp rfl (lv_assign rfl) (t_done (q_then_n (hK1 _ _ (c_seq (fun K2 hK2 => c_region ?_)))))
 refine tm rfl (mv_makeMap .i64) ?_
 rintro _ _ ⟨mb3, rfl, rfl⟩
 refine tp rfl (lv_move rfl) (tp rfl (lv_makeFuncM rfl) ?_)
 refine ts (sv_insert Tryz.underlying78 Tryz.underlying3 rfl rfl rfl rfl) ?_
 refine tp rfl (lv_move rfl) (tp rfl (lv_makeFuncM rfl) ?_)
 refine ts (sv_insert Tryz.underlying78 Tryz.underlying3 rfl rfl rfl rfl) ?_
 refine tp rfl (lv_move rfl) (tp rfl (lv_makeFuncM rfl) ?_)
 refine ts (sv_insert Tryz.underlying78 Tryz.underlying3 rfl rfl rfl rfl) ?_
 refine tp rfl (lv_move rfl) (tp rfl (lv_makeFuncM rfl) ?_)
 refine ts (sv_insert Tryz.underlying78 Tryz.underlying3 rfl rfl rfl rfl) ?_
 refine tp rfl (lv_move rfl) (tp rfl (lv_makeFuncM rfl) ?_)
 refine ts (sv_insert Tryz.underlying78 Tryz.underlying3 rfl rfl rfl rfl) ?_
 refine tp rfl (lv_move rfl) (tp rfl (lv_makeFuncM rfl) ?_)
 refine ts (sv_insert Tryz.underlying78 Tryz.underlying3 rfl rfl rfl rfl) ?_
 refine tp rfl (lv_move rfl) (tp rfl (lv_fieldAddr (o' := 0) Tryz.underlying32 rfl Tryz.sizeOf3 rfl rfl) (tp rfl (lv_load Tryz.isAgg3 rfl (gives_blk (.tail _ (.tail _ (.head _))) rfl)) (tp rfl (lv_lookup Tryz.underlying78 Tryz.underlying3 Tryz.zeroValue43 rfl rfl (.head _) rfl) (tp rfl (lv_assign rfl) (t_done (q_then_n (hK2 _ _ (c_seq (fun K3 hK3 => c_seq (fun K4 hK4 => c_region ?_))))))))))
 refine tp rfl (lv_move rfl) (tp rfl (lv_eqfn Tryz.underlying43 rfl rfl) (t_done (q_then_n (hK4 _ _ (c_false rfl (c_skip (q_then_n (hK3 _ _ (c_seq (fun K5 hK5 => c_region (tp rfl (lv_move rfl) ?_)))))))))))
 refine tp rfl (lv_loadAgg (cs := [(.int .i64 5), (.int .i64 oa), (.int .i64 ob), (.int .i64 oc), (.int .i64 od)]) Tryz.isAgg32 Tryz.sizeOf32 rfl (gives_all5 (gives_blk (.tail _ (.tail _ (.head _))) rfl) (gives_blk (.tail _ (.tail _ (.head _))) rfl) (gives_blk (.tail _ (.tail _ (.head _))) rfl) (gives_blk (.tail _ (.tail _ (.head _))) rfl) (gives_blk (.tail _ (.tail _ (.head _))) rfl))) (t_f3 ?_)
 refine tc rfl (en_mval (first := [(.pointer (some ⟨e, 0, none⟩))]) Tryz.call29 rfl rfl) (h _ _ _) ?_
 rintro _ _ ⟨iy4, hiy4q, rfl, rfl⟩
 refine tp rfl (lv_extract rfl rfl) (tp rfl (lv_extract rfl rfl) (t_f2 ?_))
 refine ts (sv_blkAgg (news := [(.int .i64 (ra iy4)), (.int .i64 (rb iy4)), (.int .i64 (rc iy4)), (.int .i64 (rd iy4)), (.int .i64 (re iy4))]) Tryz.sizeOf40 rfl rfl rfl rfl (Nat.le_of_ble_eq_true rfl) rfl) ?_
 refine tp rfl (lv_assign rfl) (t_done (q_then_n (hK5 _ _ (c_ret (t_f2 (t_drop (t_f2 (t_drop ?_))))))))
 refine q_retc2 (cs := [(.int .i64 (ra iy4)), (.int .i64 (rb iy4)), (.int .i64 (rc iy4)), (.int .i64 (rd iy4)), (.int .i64 (re iy4))]) rfl rfl rfl Tryz.isAgg40 Tryz.sizeOf40 (gives_all5 (gives_blk (.head _) rfl) (gives_blk (.head _) rfl) (gives_blk (.head _) rfl) (gives_blk (.head _) rfl) (gives_blk (.head _) rfl)) (fun _ h => h.drop) ?_
 exact ⟨iy4, hiy4q, rfl, rfl⟩
theorem do_query {R : List HP} {ι : Type} {e : Nat} {oa ob oc od : Int} {A1 : List HP} {B1 : ι → List HP} {q1 : ι → Prop} {ra rb rc rd re rf : ι → Int} (h : ∀ X Y Z : HP, Ok Tryz.prog 30 [.pointer (some ⟨e, 0, none⟩), (.agg #[.int .i64 6, .int .i64 oa, .int .i64 ob, .int .i64 oc, .int .i64 od])] (Join A1 :: X :: Y :: Z :: R) (fun u M => ∃ i, q1 i ∧ u = .tuple #[.agg #[.int .i64 (ra i), .int .i64 (rb i), .int .i64 (rc i), .int .i64 (rd i), .int .i64 (re i)], .int .i64 (rf i)] ∧ M = Join (B1 i) :: X :: Y :: Z :: R)) :
    Ok Tryz.prog 13 [(.pointer (some ⟨e, 0, none⟩)), (.agg #[(.int .i64 6), (.int .i64 oa), (.int .i64 ob), (.int .i64 oc), (.int .i64 od)])] ((Join A1) :: R)
      (fun u M => ∃ i, q1 i ∧ u = .tuple #[.agg #[.int .i64 (ra i), .int .i64 (rb i), .int .i64 (rc i), .int .i64 (rd i), .int .i64 (re i)], .int .i64 (rf i)] ∧ M = Join (B1 i) :: R) := by
 refine ok_of (N := 32) Tryz.func13 rfl rfl rfl (fun W => ?_)
 refine c_seq (fun K1 hK1 => c_region ?_)
 refine tm rfl (mv_box rfl rfl) ?_
 rintro _ _ ⟨b1, rfl, rfl⟩
 refine tm rfl (mv_alloc Tryz.zeroValue40 rfl) ?_
 rintro _ _ ⟨b2, rfl, rfl⟩
 refine tp rfl (lv_assign rfl) (t_done (q_then_n (hK1 _ _ (c_seq (fun K2 hK2 => c_region ?_)))))
 refine tm rfl (mv_makeMap .i64) ?_
 rintro _ _ ⟨mb3, rfl, rfl⟩
 refine tp rfl (lv_move rfl) (tp rfl (lv_makeFuncM rfl) ?_)
 refine ts (sv_insert Tryz.underlying78 Tryz.underlying3 rfl rfl rfl rfl) ?_
 refine tp rfl (lv_move rfl) (tp rfl (lv_makeFuncM rfl) ?_)
 refine ts (sv_insert Tryz.underlying78 Tryz.underlying3 rfl rfl rfl rfl) ?_
 refine tp rfl (lv_move rfl) (tp rfl (lv_makeFuncM rfl) ?_)
 refine ts (sv_insert Tryz.underlying78 Tryz.underlying3 rfl rfl rfl rfl) ?_
 refine tp rfl (lv_move rfl) (tp rfl (lv_makeFuncM rfl) ?_)
 refine ts (sv_insert Tryz.underlying78 Tryz.underlying3 rfl rfl rfl rfl) ?_
 refine tp rfl (lv_move rfl) (tp rfl (lv_makeFuncM rfl) ?_)
 refine ts (sv_insert Tryz.underlying78 Tryz.underlying3 rfl rfl rfl rfl) ?_
 refine tp rfl (lv_move rfl) (tp rfl (lv_makeFuncM rfl) ?_)
 refine ts (sv_insert Tryz.underlying78 Tryz.underlying3 rfl rfl rfl rfl) ?_
 refine tp rfl (lv_move rfl) (tp rfl (lv_fieldAddr (o' := 0) Tryz.underlying32 rfl Tryz.sizeOf3 rfl rfl) (tp rfl (lv_load Tryz.isAgg3 rfl (gives_blk (.tail _ (.tail _ (.head _))) rfl)) (tp rfl (lv_lookup Tryz.underlying78 Tryz.underlying3 Tryz.zeroValue43 rfl rfl (.head _) rfl) (tp rfl (lv_assign rfl) (t_done (q_then_n (hK2 _ _ (c_seq (fun K3 hK3 => c_seq (fun K4 hK4 => c_region ?_))))))))))
 refine tp rfl (lv_move rfl) (tp rfl (lv_eqfn Tryz.underlying43 rfl rfl) (t_done (q_then_n (hK4 _ _ (c_false rfl (c_skip (q_then_n (hK3 _ _ (c_seq (fun K5 hK5 => c_region (tp rfl (lv_move rfl) ?_)))))))))))
 refine tp rfl (lv_loadAgg (cs := [(.int .i64 6), (.int .i64 oa), (.int .i64 ob), (.int .i64 oc), (.int .i64 od)]) Tryz.isAgg32 Tryz.sizeOf32 rfl (gives_all5 (gives_blk (.tail _ (.tail _ (.head _))) rfl) (gives_blk (.tail _ (.tail _ (.head _))) rfl) (gives_blk (.tail _ (.tail _ (.head _))) rfl) (gives_blk (.tail _ (.tail _ (.head _))) rfl) (gives_blk (.tail _ (.tail _ (.head _))) rfl))) (t_f3 ?_)
 refine tc rfl (en_mval (first := [(.pointer (some ⟨e, 0, none⟩))]) Tryz.call30 rfl rfl) (h _ _ _) ?_
 rintro _ _ ⟨iy4, hiy4q, rfl, rfl⟩
 refine tp rfl (lv_extract rfl rfl) (tp rfl (lv_extract rfl rfl) (t_f2 ?_))
 refine ts (sv_blkAgg (news := [(.int .i64 (ra iy4)), (.int .i64 (rb iy4)), (.int .i64 (rc iy4)), (.int .i64 (rd iy4)), (.int .i64 (re iy4))]) Tryz.sizeOf40 rfl rfl rfl rfl (Nat.le_of_ble_eq_true rfl) rfl) ?_
 refine tp rfl (lv_assign rfl) (t_done (q_then_n (hK5 _ _ (c_ret (t_f2 (t_drop (t_f2 (t_drop ?_))))))))
 refine q_retc2 (cs := [(.int .i64 (ra iy4)), (.int .i64 (rb iy4)), (.int .i64 (rc iy4)), (.int .i64 (rd iy4)), (.int .i64 (re iy4))]) rfl rfl rfl Tryz.isAgg40 Tryz.sizeOf40 (gives_all5 (gives_blk (.head _) rfl) (gives_blk (.head _) rfl) (gives_blk (.head _) rfl) (gives_blk (.head _) rfl) (gives_blk (.head _) rfl)) (fun _ h => h.drop) ?_
 exact ⟨iy4, hiy4q, rfl, rfl⟩
end Go.Proofs.YtanfdikglplkaaaGreatDoor
