/- Parts Eb, Ec: own lemmas and contracts of the code that the claim reaches. -/
import Derived.Test.YtanfdikglplkaaaGreatDoorM03
import Derived.Test.YtanfdikglplkaaaGreatDoorM13
import Derived.Test.YtanfdikglplkaaaGreatDoorM04
import Derived.Test.YtanfdikglplkaaaGreatDoorM06
set_option linter.unusedSimpArgs false
set_option linter.unusedVariables false
set_option maxRecDepth 100000
namespace Go.Proofs.YtanfdikglplkaaaGreatDoor
open Go Go.Proofs Sp
theorem of1_ok {R : List HP} {H G : HP} {id : Int} {b : Nat} {pl : Pl} :
    Ok Tryz.prog 157 [(.agg #[(.bool pl.h), (.int .i64 pl.id), (.int .i64 pl.mem)]), (.pointer (some ⟨b, 0, none⟩))] (H :: G :: (Blk b [(.int .i64 id)] 3) :: R)
      (fun v M => v = .bool (pl.h && decide (pl.id = id)) ∧ M = H :: G :: Blk b [.int .i64 id] 3 :: R) := by
 refine ok_of (N := 12) Tryz.func157 rfl rfl rfl (fun W => ?_)
 refine c_seq (fun K1 hK1 => c_region ?_)
 refine tm rfl (mv_box rfl rfl) ?_
 rintro _ _ ⟨b1, rfl, rfl⟩
 refine tp rfl (lv_assign rfl) (t_done (q_then_n (hK1 _ _ (c_seq (fun K2 hK2 => c_region (tp rfl (lv_fieldAddr (o' := 0) Tryz.underlying117 rfl Tryz.sizeOf4 rfl rfl) (tp rfl (lv_load Tryz.isAgg4 rfl (gives_blk (.head _) rfl)) (tp rfl (lv_move rfl) ?_))))))))
 rcases hb2 : pl.h with _ | _
 · refine t_skip rfl rfl rfl ?_
   refine t_skip rfl rfl rfl ?_
   refine t_skip rfl rfl rfl ?_
   refine t_skip rfl rfl rfl ?_
   refine tp rfl (lv_pick_f rfl rfl) (tp rfl (lv_assign rfl) (t_done (q_then_n (hK2 _ _ (c_ret (t_drop ?_))))))
   refine q_ret rfl rfl ?_
   exact ⟨by first | (simp_all; done) | (simp_all; rfl), rfl⟩
 · refine t_guard rfl rfl ?_
   refine tp rfl (lv_fieldAddr (o' := 1) Tryz.underlying117 rfl Tryz.sizeOf3 rfl rfl) ?_
   refine t_guard rfl rfl ?_
   refine tp rfl (lv_load Tryz.isAgg3 rfl (gives_blk (.head _) rfl)) ?_
   refine t_guard rfl rfl ?_
   refine tp rfl (lv_load Tryz.isAgg3 rfl (gives_blk (.tail _ (.tail _ (.tail _ (.head _)))) rfl)) ?_
   refine t_guard rfl rfl ?_
   refine tp rfl (lv_eql rfl rfl rfl) (tp rfl (lv_pick_t rfl rfl) (tp rfl (lv_assign rfl) (t_done (q_then_n (hK2 _ _ (c_ret (t_drop ?_)))))))
   refine q_ret rfl rfl ?_
   exact ⟨by first | (simp_all; done) | (simp_all; rfl), rfl⟩
theorem free1_ok {R : List HP} {H G : HP} {pl : Pl} :
    Ok Tryz.prog 147 [(.agg #[(.bool pl.h), (.int .i64 pl.id), (.int .i64 pl.mem)])] (H :: G :: R)
      (fun v M => v = .bool (!pl.h) ∧ M = H :: G :: R) := by
 refine ok_of (N := 6) Tryz.func147 rfl rfl rfl (fun W => ?_)
 refine c_seq (fun K1 hK1 => c_region ?_)
 refine tm rfl (mv_box rfl rfl) ?_
 rintro _ _ ⟨b1, rfl, rfl⟩
 refine tp rfl (lv_assign rfl) (t_done (q_then_n (hK1 _ _ (c_seq (fun K2 hK2 => c_region (tp rfl (lv_fieldAddr (o' := 0) Tryz.underlying117 rfl Tryz.sizeOf4 rfl rfl) (tp rfl (lv_load Tryz.isAgg4 rfl (gives_blk (.head _) rfl)) (tp rfl (lv_not (c := !pl.h) rfl rfl) (tp rfl (lv_assign rfl) (t_done ?_))))))))))
 refine q_then_n (hK2 _ _ (c_ret (t_drop ?_)))
 refine q_ret rfl rfl ?_
 exact ⟨rfl, rfl⟩
theorem lof1_ok {R : List HP} (id : Int) :
    Ok Tryz.prog 130 [(.int .i64 id)] R
      (fun v M => ∃ b, v = .func (.func 157) #[] #[.pointer (some ⟨b, 0, none⟩)] ∧ M = Blk b [.int .i64 id] 3 :: R) := by
 refine ok_of (N := 4) Tryz.func130 rfl rfl rfl (fun W => ?_)
 refine c_seq (fun K1 hK1 => c_region ?_)
 refine tm rfl (mv_box rfl rfl) ?_
 rintro _ _ ⟨b1, rfl, rfl⟩
 refine tp rfl (lv_assign rfl) (t_done (q_then_n (hK1 _ _ (c_seq (fun K2 hK2 => c_region (tp rfl (lv_makeFunc rfl) (tp rfl (lv_assign rfl) (t_done (q_then_n (hK2 _ _ (c_ret ?_)))))))))))
 refine q_ret rfl rfl ?_
 exact ⟨_, rfl, rfl⟩
set_option maxHeartbeats 4000000 in
theorem lfind_ok {R : List HP} {l : Nat} {d : Led} {p : Nat → Bool} {f : Nat} {caps : List Value} (hlm : d.many ≤ 16) (hf : (∀ args w, (callFunc f args).run Tryz.prog w = .ok (.enter f args) w) ∧ ∀ (H : HP) (k : Nat), k < d.many → Ok Tryz.prog f ([(.agg #[(.bool ((d.ps.getD k Pl.z).h)), (.int .i64 ((d.ps.getD k Pl.z).id)), (.int .i64 ((d.ps.getD k Pl.z).mem))])] ++ caps) (H :: LedW l d :: R) (fun v M => v = .bool (p k) ∧ M = H :: LedW l d :: R)) :
    Ok Tryz.prog 129 [(.pointer (some ⟨l, 0, none⟩)), (.func (.func f) #[] caps.toArray)] ((LedW l d) :: R)
      (fun v M => v = .int .i64 (idxN p d.many) ∧ M = LedW l d :: R) := by
 obtain ⟨hcall, hf⟩ := hf
 refine ok_of (N := 26) Tryz.func129 rfl rfl rfl (fun W => ?_)
 refine c_seq (fun K1 hK1 => c_region (tp rfl (lv_assign rfl) (t_done (q_then_n (hK1 _ _ (c_seq (fun K2 hK2 => c_seq (fun K3 hK3 => ?_))))))))
 refine c_draw (γ := Unit) (n := 10) Tryz.mixed rfl rfl (fun _ S => True) (fun _ => [(0, 7, (vP l 0)), (1, 8, (vP l 0)), (2, 9, (vP l 2)), (3, 10, (vP l 0)), (4, 11, (vP l 0)), (5, 12, (vP l 1)), (6, 13, (vN d.many)), (7, 14, (.slice (some ⟨l, 2, none⟩) d.many 16)), (8, 15, (vN d.many)), (9, 16, (.int .i64 0))]) (fun _ S => (LedW l d) :: R) (()) trivial (fun _ h => h) (fun _ _ h => h) ?_ ?_
 · refine ⟨?_, ?_, ?_, ?_, ?_, ?_, ?_, ?_, ?_, ?_, trivial⟩
   · intro _ S h s D p K k; exact d_lv1 (look_b (t := 0) rfl rfl) (lv_move rfl) 0 rfl rfl s (k () h)
   · intro _ S h s D p K k; exact d_lv1 (lkr p 0 rfl rfl) (lv_nilCheck rfl) 1 rfl rfl s (k () h)
   · intro _ S h s D p K k; exact d_lv1 (lkr p 1 rfl rfl) (lv_fieldAddr (o' := 2) Tryz.underlying120 rfl Tryz.sizeOf118 rfl rfl) 2 rfl rfl s (k () h)
   · intro _ S h s D p K k; exact d_lv1 (look_b (t := 0) rfl rfl) (lv_move rfl) 3 rfl rfl s (k () h)
   · intro _ S h s D p K k; exact d_lv1 (lkr p 3 rfl rfl) (lv_nilCheck rfl) 4 rfl rfl s (k () h)
   · intro _ S h s D p K k; exact d_lv1 (lkr p 4 rfl rfl) (lv_fieldAddr (o' := 1) Tryz.underlying120 rfl Tryz.sizeOf3 rfl rfl) 5 rfl rfl s (k () h)
   · intro _ S h s D p K k; exact d_lv1 (lkr p 5 rfl rfl) (lv_load Tryz.isAgg3 rfl (gives_led1 (.head _) )) 6 rfl rfl s (k () h)
   · rintro _ S hF hS D hp K hK; try dsimp only
     exact d_lv2 (lkr hp 2 rfl rfl) (lkr hp 6 rfl rfl) (lv_sliceArr (h := d.many) Tryz.underlying118 Tryz.sizeOf117 rfl rfl (by omega) (by omega) (by first | rfl | omega)) 7 rfl rfl hS (hK () hF)
   · intro _ S h s D p K k; exact d_lv1 (lkr p 7 rfl rfl) (lv_len Tryz.underlying188 rfl rfl) 8 rfl rfl s (k () h)
   · intro _ S h s D p K k; exact d_lv0 (lv_move rfl) 9 rfl rfl s (k () h)
 · rintro _ hF
   try dsimp only at hF ⊢
   refine t_weak (E' := [(0, (vP l 0)), (1, (.func (.func f) #[] caps.toArray)), (4, (.int .i64 0)), (14, (.slice (some ⟨l, 2, none⟩) d.many 16)), (15, (vN d.many)), (16, (.int .i64 0))]) ⟨rfl, rfl, rfl, rfl, rfl, rfl, trivial⟩ ?_
   refine q_then_n (hK3 _ _ (c_block ?_))
   refine c_loop (γ := (Nat)) (fun (k : Nat) => k ≤ d.many ∧ (∀ j, j < k → p j = false)) (fun (k : Nat) => [(0, (vP l 0)), (1, (.func (.func f) #[] caps.toArray)), (14, (.slice (some ⟨l, 2, none⟩) d.many 16)), (15, (vN d.many)), (16, (vN k))]) (fun (k : Nat) => (LedW l d) :: R) (fun (k : Nat) => d.many - k) (0) ⟨by omega, fun j hj => by omega⟩ ⟨rfl, rfl, rfl, rfl, rfl, trivial⟩ (fun _ h => h) ?_
   rintro k K4 hF hK4
   try dsimp only at hF hK4 ⊢
   obtain ⟨hk, hall⟩ := hF
   refine c_seq (fun K5 hK5 => c_region ?_)
   by_cases h1 : ((k : Nat) : Int) < ((d.many : Nat) : Int)
   · refine tp rfl (lv_lss rfl rfl (decide_eq_true h1)) (t_done (q_then_n (hK5 _ _ (c_seq (fun K6 hK6 => c_true rfl (c_skip (q_then_n (hK6 _ _ (c_seq (fun K7 hK7 => c_block (c_seq (fun K8 hK8 => ?_))))))))))))
     refine c_region (tp rfl (lv_move rfl) (tp rfl (lv_indexAddr (k' := k * 3) Tryz.underlying188 Tryz.sizeOf117 rfl rfl (fun _ => ⟨_, _, rfl⟩) (by omega) (by omega) (by omega)) ?_))
     refine tp rfl (lv_loadAgg_ad (cs := [(.bool ((d.ps.getD k Pl.z).h)), (.int .i64 ((d.ps.getD k Pl.z).id)), (.int .i64 ((d.ps.getD k Pl.z).mem))]) Tryz.isAgg117 Tryz.sizeOf117 rfl (gives_all3 (gives_ledp (j := 0) (.head _) (by omega) (by decide) rfl) (gives_ledp (j := 1) (.head _) (by omega) (by decide) rfl) (gives_ledp (j := 2) (.head _) (by omega) (by decide) rfl))) ?_
     refine tm rfl (mv_alloc Tryz.zeroValue117 rfl) ?_
     rintro _ _ ⟨b2, rfl, rfl⟩
     refine tp rfl (lv_assign rfl) ?_
     refine ts (sv_blkAgg (news := [(.bool ((d.ps.getD k Pl.z).h)), (.int .i64 ((d.ps.getD k Pl.z).id)), (.int .i64 ((d.ps.getD k Pl.z).mem))]) Tryz.sizeOf117 rfl rfl rfl rfl (Nat.le_of_ble_eq_true rfl) rfl) ?_
     refine t_done (q_then_n (hK8 _ _ (c_seq (fun K9 hK9 => c_region (tp rfl (lv_move rfl) (tp rfl (lv_loadAgg (cs := [(.bool ((d.ps.getD k Pl.z).h)), (.int .i64 ((d.ps.getD k Pl.z).id)), (.int .i64 ((d.ps.getD k Pl.z).mem))]) Tryz.isAgg117 Tryz.sizeOf117 rfl (gives_all3 (gives_blk (.head _) rfl) (gives_blk (.head _) rfl) (gives_blk (.head _) rfl))) (t_f1 (t_f1 ?_))))))))
     refine tc rfl (en_clo hcall rfl rfl) (hf _ k (by omega)) ?_
     rintro _ _ ⟨rfl, rfl⟩
     refine t_done (q_then_n (hK9 _ _ ?_))
     refine c_split rfl (fun c3 => ?_) (fun c3 => ?_)
     · skip
       refine c_seq (fun K10 hK10 => c_region (tp rfl (lv_move rfl) (tp rfl (lv_assign rfl) (t_done (q_then_n (hK10 _ _ (c_ret ?_)))))))
       refine q_in_r ?_
       refine q_then_r ?_
       refine q_then_r ?_
       refine q_in_r ?_
       refine q_then_r ?_
       refine t_drop ?_
       refine q_ret rfl rfl ?_
       exact ⟨by rw [idxN_at (k := k) (by omega) ‹_› hall], rfl⟩
     · skip
       refine c_skip (q_in_n (q_then_n (hK7 _ _ (c_region (tp rfl (lv_add (c := ((k + 1 : Nat) : Int)) rfl rfl (wr_i64_succ (by omega))) ?_)))))
       refine tp rfl (lv_move rfl) (t_done (q_then_n (t_drop ?_)))
       exact t_weak (by exact ⟨rfl, rfl, rfl, rfl, rfl, trivial⟩) ((hK4 (k + 1) ⟨by omega, all_succ hall ‹_›⟩ (by omega)))
   · refine tp rfl (lv_lss rfl rfl (decide_eq_false h1)) (t_done (q_then_n (hK5 _ _ (c_seq (fun K6 hK6 => c_false rfl (c_exit (q_then_x (q_then_x (q_in_x (q_then_n (hK2 _ _ ?_)))))))))))
     refine c_seq (fun K7 hK7 => c_region (tp rfl (lv_assign rfl) (t_done (q_then_n (hK7 _ _ (c_ret ?_))))))
     refine q_ret rfl rfl ?_
     exact ⟨by rw [idxN_none (fun j hj => hall j (by omega))], rfl⟩
theorem lslotw_ok {R : List HP} {l : Nat} {d : Led} (hlm : d.many ≤ 16) (id : Int) :
    Ok Tryz.prog 128 [(.pointer (some ⟨l, 0, none⟩)), (.int .i64 id)] ((LedW l d) :: R)
      (fun v M => v = .tuple #[.int .i64 (max (d.slot id) 0), .bool (decide (d.slot id ≥ 0))] ∧ M = LedW l d :: R) := by
 refine ok_of (N := 15) Tryz.func128 rfl rfl rfl (fun W => ?_)
 refine c_seq (fun K1 hK1 => c_region (tp rfl (lv_assign rfl) (tp rfl (lv_assign rfl) (t_done (q_then_n (hK1 _ _ (c_seq (fun K2 hK2 => c_region (tp rfl (lv_move rfl) (tp rfl (lv_move rfl) ?_))))))))))
 refine tc rfl (en_fn Tryz.call130 rfl) (lof1_ok id) ?_
 rintro _ _ ⟨b1, rfl, rfl⟩
 refine t_f1 ?_
 refine tc rfl (en_fn Tryz.call129 rfl) (lfind_ok (d := d) (caps := [(.pointer (some ⟨b1, 0, none⟩))]) (p := fun k => (d.ps.getD k Pl.z).h && decide ((d.ps.getD k Pl.z).id = id)) hlm ⟨Tryz.call157, fun H k hk => of1_ok⟩) ?_
 rintro _ _ ⟨rfl, rfl⟩
 rw [show idxN (fun k => (d.ps.getD k Pl.z).h && decide ((d.ps.getD k Pl.z).id = id)) d.many = d.slot id from rfl]
 refine tp rfl (lv_assign rfl) (t_done (q_then_n (hK2 _ _ (c_seq (fun K3 hK3 => c_region (tp rfl (lv_move rfl) (tp rfl (lv_max (c := max (d.slot id) 0) rfl rfl rfl) (tp rfl (lv_move rfl) (tp rfl (lv_geq rfl rfl rfl) (tp rfl (lv_assign rfl) ?_))))))))))
 refine tp rfl (lv_assign rfl) (t_done (q_then_n (hK3 _ _ (c_ret (t_f1 (t_drop ?_))))))
 refine q_ret2 rfl rfl rfl ?_
 exact ⟨rfl, rfl⟩
set_option maxHeartbeats 4000000 in
theorem lroomw_ok {R : List HP} {l : Nat} {d : Led} (hlm : d.many ≤ 16) (hu0 : 0 ≤ d.used) (hub : d.used ≤ d.bud) (hb1 : d.bud ≤ 1099511627776) :
    Ok Tryz.prog 95 [(.pointer (some ⟨l, 0, none⟩))] ((LedW l d) :: R)
      (fun v M => v = .int .i64 (d.bud - d.used) ∧ M = LedW l d :: R) := by
 refine ok_of (N := 12) Tryz.func95 rfl rfl rfl (fun W => ?_)
 refine c_seq (fun K1 hK1 => c_region (tp rfl (lv_assign rfl) (t_done (q_then_n (hK1 _ _ (c_seq (fun K2 hK2 => ?_)))))))
 refine c_draw (γ := Unit) (n := 10) Tryz.mixed rfl rfl (fun _ S => True) (fun _ => [(0, 3, (vP l 0)), (1, 4, (vP l 0)), (2, 5, (vP l 0)), (3, 6, (.int .i64 d.bud)), (4, 7, (vP l 0)), (5, 8, (vP l 0)), (6, 9, (vP l 50)), (7, 10, (.int .i64 d.used)), (8, 11, (.int .i64 (d.bud - d.used))), (9, 2, (.int .i64 (d.bud - d.used)))]) (fun _ S => (LedW l d) :: R) (()) trivial (fun _ h => h) (fun _ _ h => h) ?_ ?_
 · refine ⟨?_, ?_, ?_, ?_, ?_, ?_, ?_, ?_, ?_, ?_, trivial⟩
   · intro _ S h s D p K k; exact d_lv1 (look_b (t := 0) rfl rfl) (lv_move rfl) 0 rfl rfl s (k () h)
   · intro _ S h s D p K k; exact d_lv1 (lkr p 0 rfl rfl) (lv_nilCheck rfl) 1 rfl rfl s (k () h)
   · intro _ S h s D p K k; exact d_lv1 (lkr p 1 rfl rfl) (lv_fieldAddr (o' := 0) Tryz.underlying120 rfl Tryz.sizeOf3 rfl rfl) 2 rfl rfl s (k () h)
   · intro _ S h s D p K k; exact d_lv1 (lkr p 2 rfl rfl) (lv_load Tryz.isAgg3 rfl (gives_led0 (.head _) )) 3 rfl rfl s (k () h)
   · intro _ S h s D p K k; exact d_lv1 (look_b (t := 0) rfl rfl) (lv_move rfl) 4 rfl rfl s (k () h)
   · intro _ S h s D p K k; exact d_lv1 (lkr p 4 rfl rfl) (lv_nilCheck rfl) 5 rfl rfl s (k () h)
   · intro _ S h s D p K k; exact d_lv1 (lkr p 5 rfl rfl) (lv_fieldAddr (o' := 50) Tryz.underlying120 rfl Tryz.sizeOf3 rfl rfl) 6 rfl rfl s (k () h)
   · intro _ S h s D p K k; exact d_lv1 (lkr p 6 rfl rfl) (lv_load Tryz.isAgg3 rfl (gives_ledu (.head _) )) 7 rfl rfl s (k () h)
   · intro _ S h s D p K k; exact d_lv2 (lkr p 3 rfl rfl) (lkr p 7 rfl rfl) (lv_sub (c := d.bud - d.used) rfl rfl (wr_i64 (by omega) (by omega))) 8 rfl rfl s (k () h)
   · intro _ S h s D p K k; exact d_lv1 (lkr p 8 rfl rfl) (lv_assign rfl) 9 rfl rfl s (k () h)
 · rintro _ hF
   try dsimp only at hF ⊢
   refine t_weak (E' := [(0, (vP l 0)), (2, (.int .i64 (d.bud - d.used)))]) ⟨rfl, rfl, trivial⟩ ?_
   refine q_then_n (hK2 _ _ (c_ret ?_))
   refine q_ret rfl rfl ?_
   exact ⟨rfl, rfl⟩
theorem lslot_ok {R : List HP} {l : Nat} {d : Led} (id : Int) :
    Ok Tryz.prog 128 [(.pointer (some ⟨l, 0, none⟩)), (.int .i64 id)] ((LedO l d) :: R)
      (fun v M => v = .tuple #[.int .i64 (max (d.slot id) 0), .bool (decide (d.slot id ≥ 0))] ∧ M = LedO l d :: R) := by
 refine ok_of (N := 15) Tryz.func128 rfl rfl rfl (fun W => ?_)
 refine t_openL (fun hL => ?_)
 have hlm := hL.lm
 have hb0 := hL.b0
 have hb1 := hL.b1
 have hu0 := hL.u0
 have hub := hL.ub
 refine c_seq (fun K1 hK1 => c_region (tp rfl (lv_assign rfl) (tp rfl (lv_assign rfl) (t_done (q_then_n (hK1 _ _ (c_seq (fun K2 hK2 => c_region (tp rfl (lv_move rfl) (tp rfl (lv_move rfl) ?_))))))))))
 refine tc rfl (en_fn Tryz.call130 rfl) (lof1_ok id) ?_
 rintro _ _ ⟨b1, rfl, rfl⟩
 refine t_f1 ?_
 refine tc rfl (en_fn Tryz.call129 rfl) (lfind_ok (d := d) (caps := [(.pointer (some ⟨b1, 0, none⟩))]) (p := fun k => (d.ps.getD k Pl.z).h && decide ((d.ps.getD k Pl.z).id = id)) hlm ⟨Tryz.call157, fun H k hk => of1_ok⟩) ?_
 rintro _ _ ⟨rfl, rfl⟩
 rw [show idxN (fun k => (d.ps.getD k Pl.z).h && decide ((d.ps.getD k Pl.z).id = id)) d.many = d.slot id from rfl]
 refine tp rfl (lv_assign rfl) (t_done (q_then_n (hK2 _ _ (c_seq (fun K3 hK3 => c_region (tp rfl (lv_move rfl) (tp rfl (lv_max (c := max (d.slot id) 0) rfl rfl rfl) (tp rfl (lv_move rfl) (tp rfl (lv_geq rfl rfl rfl) (tp rfl (lv_assign rfl) ?_))))))))))
 refine tp rfl (lv_assign rfl) (t_done (q_then_n (hK3 _ _ (c_ret ?_))))
 refine t_shutL hL ?_
 refine t_f1 (t_drop ?_)
 refine q_ret2 rfl rfl rfl ?_
 exact ⟨rfl, rfl⟩
set_option maxHeartbeats 4000000 in
theorem lroom_ok {R : List HP} {l : Nat} {d : Led}  :
    Ok Tryz.prog 95 [(.pointer (some ⟨l, 0, none⟩))] ((LedO l d) :: R)
      (fun v M => v = .int .i64 (d.bud - d.used) ∧ M = LedO l d :: R) := by
 refine ok_of (N := 12) Tryz.func95 rfl rfl rfl (fun W => ?_)
 refine t_openL (fun hL => ?_)
 have hlm := hL.lm
 have hb0 := hL.b0
 have hb1 := hL.b1
 have hu0 := hL.u0
 have hub := hL.ub
 refine c_seq (fun K1 hK1 => c_region (tp rfl (lv_assign rfl) (t_done (q_then_n (hK1 _ _ (c_seq (fun K2 hK2 => ?_)))))))
 refine c_draw (γ := Unit) (n := 10) Tryz.mixed rfl rfl (fun _ S => True) (fun _ => [(0, 3, (vP l 0)), (1, 4, (vP l 0)), (2, 5, (vP l 0)), (3, 6, (.int .i64 d.bud)), (4, 7, (vP l 0)), (5, 8, (vP l 0)), (6, 9, (vP l 50)), (7, 10, (.int .i64 d.used)), (8, 11, (.int .i64 (d.bud - d.used))), (9, 2, (.int .i64 (d.bud - d.used)))]) (fun _ S => (LedW l d) :: R) (()) trivial (fun _ h => h) (fun _ _ h => h) ?_ ?_
 · refine ⟨?_, ?_, ?_, ?_, ?_, ?_, ?_, ?_, ?_, ?_, trivial⟩
   · intro _ S h s D p K k; exact d_lv1 (look_b (t := 0) rfl rfl) (lv_move rfl) 0 rfl rfl s (k () h)
   · intro _ S h s D p K k; exact d_lv1 (lkr p 0 rfl rfl) (lv_nilCheck rfl) 1 rfl rfl s (k () h)
   · intro _ S h s D p K k; exact d_lv1 (lkr p 1 rfl rfl) (lv_fieldAddr (o' := 0) Tryz.underlying120 rfl Tryz.sizeOf3 rfl rfl) 2 rfl rfl s (k () h)
   · intro _ S h s D p K k; exact d_lv1 (lkr p 2 rfl rfl) (lv_load Tryz.isAgg3 rfl (gives_led0 (.head _) )) 3 rfl rfl s (k () h)
   · intro _ S h s D p K k; exact d_lv1 (look_b (t := 0) rfl rfl) (lv_move rfl) 4 rfl rfl s (k () h)
   · intro _ S h s D p K k; exact d_lv1 (lkr p 4 rfl rfl) (lv_nilCheck rfl) 5 rfl rfl s (k () h)
   · intro _ S h s D p K k; exact d_lv1 (lkr p 5 rfl rfl) (lv_fieldAddr (o' := 50) Tryz.underlying120 rfl Tryz.sizeOf3 rfl rfl) 6 rfl rfl s (k () h)
   · intro _ S h s D p K k; exact d_lv1 (lkr p 6 rfl rfl) (lv_load Tryz.isAgg3 rfl (gives_ledu (.head _) )) 7 rfl rfl s (k () h)
   · intro _ S h s D p K k; exact d_lv2 (lkr p 3 rfl rfl) (lkr p 7 rfl rfl) (lv_sub (c := d.bud - d.used) rfl rfl (wr_i64 (by omega) (by omega))) 8 rfl rfl s (k () h)
   · intro _ S h s D p K k; exact d_lv1 (lkr p 8 rfl rfl) (lv_assign rfl) 9 rfl rfl s (k () h)
 · rintro _ hF
   try dsimp only at hF ⊢
   refine t_weak (E' := [(0, (vP l 0)), (2, (.int .i64 (d.bud - d.used)))]) ⟨rfl, rfl, trivial⟩ ?_
   refine q_then_n (hK2 _ _ (c_ret ?_))
   refine t_shutL hL ?_
   refine q_ret rfl rfl ?_
   exact ⟨rfl, rfl⟩
theorem lused_ok {R : List HP} {l : Nat} {d : Led}  :
    Ok Tryz.prog 32 [(.pointer (some ⟨l, 0, none⟩))] ((LedO l d) :: R)
      (fun v M => v = .int .i64 d.used ∧ M = LedO l d :: R) := by
 refine ok_of (N := 7) Tryz.func32 rfl rfl rfl (fun W => ?_)
 refine t_openL (fun hL => ?_)
 have hlm := hL.lm
 have hb0 := hL.b0
 have hb1 := hL.b1
 have hu0 := hL.u0
 have hub := hL.ub
 refine c_seq (fun K1 hK1 => c_region (tp rfl (lv_assign rfl) (t_done (q_then_n (hK1 _ _ (c_seq (fun K2 hK2 => c_region (tp rfl (lv_move rfl) (tp rfl (lv_nilCheck rfl) (tp rfl (lv_fieldAddr (o' := 50) Tryz.underlying120 rfl Tryz.sizeOf3 rfl rfl) ?_))))))))))
 refine tp rfl (lv_load Tryz.isAgg3 rfl (gives_ledu (.head _) )) (tp rfl (lv_assign rfl) (t_done (q_then_n (hK2 _ _ (c_ret ?_)))))
 refine t_shutL hL ?_
 refine q_ret rfl rfl ?_
 exact ⟨rfl, rfl⟩
set_option maxHeartbeats 4000000 in
theorem lslots_ok {R : List HP} {l : Nat} {d : Led}  :
    Ok Tryz.prog 96 [(.pointer (some ⟨l, 0, none⟩))] ((LedO l d) :: R)
      (fun v M => v = .int .i64 ((d.cnt d.many : Nat) : Int) ∧ M = LedO l d :: R) := by
 refine ok_of (N := 26) Tryz.func96 rfl rfl rfl (fun W => ?_)
 refine t_openL (fun hL => ?_)
 have hlm := hL.lm
 have hb0 := hL.b0
 have hb1 := hL.b1
 have hu0 := hL.u0
 have hub := hL.ub
 refine c_seq (fun K1 hK1 => c_region (tp rfl (lv_assign rfl) (t_done (q_then_n (hK1 _ _ (c_seq (fun K2 hK2 => c_region (tp rfl (lv_assign rfl) (t_done (q_then_n (hK2 _ _ ?_)))))))))))
 refine c_seq (fun K3 hK3 => c_seq (fun K4 hK4 => ?_))
 refine c_draw (γ := Unit) (n := 10) Tryz.mixed rfl rfl (fun _ S => True) (fun _ => [(0, 6, (vP l 0)), (1, 7, (vP l 0)), (2, 8, (vP l 2)), (3, 9, (vP l 0)), (4, 10, (vP l 0)), (5, 11, (vP l 1)), (6, 12, (vN d.many)), (7, 13, (.slice (some ⟨l, 2, none⟩) d.many 16)), (8, 14, (vN d.many)), (9, 15, (.int .i64 0))]) (fun _ S => (LedW l d) :: R) (()) trivial (fun _ h => h) (fun _ _ h => h) ?_ ?_
 · refine ⟨?_, ?_, ?_, ?_, ?_, ?_, ?_, ?_, ?_, ?_, trivial⟩
   · intro _ S h s D p K k; exact d_lv1 (look_b (t := 0) rfl rfl) (lv_move rfl) 0 rfl rfl s (k () h)
   · intro _ S h s D p K k; exact d_lv1 (lkr p 0 rfl rfl) (lv_nilCheck rfl) 1 rfl rfl s (k () h)
   · intro _ S h s D p K k; exact d_lv1 (lkr p 1 rfl rfl) (lv_fieldAddr (o' := 2) Tryz.underlying120 rfl Tryz.sizeOf118 rfl rfl) 2 rfl rfl s (k () h)
   · intro _ S h s D p K k; exact d_lv1 (look_b (t := 0) rfl rfl) (lv_move rfl) 3 rfl rfl s (k () h)
   · intro _ S h s D p K k; exact d_lv1 (lkr p 3 rfl rfl) (lv_nilCheck rfl) 4 rfl rfl s (k () h)
   · intro _ S h s D p K k; exact d_lv1 (lkr p 4 rfl rfl) (lv_fieldAddr (o' := 1) Tryz.underlying120 rfl Tryz.sizeOf3 rfl rfl) 5 rfl rfl s (k () h)
   · intro _ S h s D p K k; exact d_lv1 (lkr p 5 rfl rfl) (lv_load Tryz.isAgg3 rfl (gives_led1 (.head _) )) 6 rfl rfl s (k () h)
   · rintro _ S hF hS D hp K hK; try dsimp only
     exact d_lv2 (lkr hp 2 rfl rfl) (lkr hp 6 rfl rfl) (lv_sliceArr (h := d.many) Tryz.underlying118 Tryz.sizeOf117 rfl rfl (by omega) (by omega) (by first | rfl | omega)) 7 rfl rfl hS (hK () hF)
   · intro _ S h s D p K k; exact d_lv1 (lkr p 7 rfl rfl) (lv_len Tryz.underlying188 rfl rfl) 8 rfl rfl s (k () h)
   · intro _ S h s D p K k; exact d_lv0 (lv_move rfl) 9 rfl rfl s (k () h)
 · rintro _ hF
   try dsimp only at hF ⊢
   refine t_weak (E' := [(0, (vP l 0)), (2, (.int .i64 0)), (3, (.int .i64 0)), (13, (.slice (some ⟨l, 2, none⟩) d.many 16)), (14, (vN d.many)), (15, (.int .i64 0))]) ⟨rfl, rfl, rfl, rfl, rfl, rfl, trivial⟩ ?_
   refine q_then_n (hK4 _ _ (c_block ?_))
   refine c_loop (γ := (Nat)) (fun (k : Nat) => k ≤ d.many) (fun (k : Nat) => [(0, (vP l 0)), (2, (.int .i64 0)), (3, (.int .i64 ((d.cnt k : Nat) : Int))), (13, (.slice (some ⟨l, 2, none⟩) d.many 16)), (14, (vN d.many)), (15, (vN k))]) (fun (k : Nat) => (LedW l d) :: R) (fun (k : Nat) => d.many - k) (0) (Nat.zero_le _) ⟨rfl, rfl, rfl, rfl, rfl, rfl, trivial⟩ (fun _ h => h) ?_
   rintro k K5 hF hK5
   try dsimp only at hF hK5 ⊢
   have hck := d.cnt_le k
   refine c_seq (fun K6 hK6 => c_region ?_)
   by_cases h1 : ((k : Nat) : Int) < ((d.many : Nat) : Int)
   · refine tp rfl (lv_lss rfl rfl (decide_eq_true h1)) (t_done (q_then_n (hK6 _ _ (c_seq (fun K7 hK7 => c_true rfl (c_skip (q_then_n (hK7 _ _ (c_seq (fun K8 hK8 => c_block (c_seq (fun K9 hK9 => ?_))))))))))))
     refine c_region (tp rfl (lv_indexAddr (k' := k * 3) Tryz.underlying188 Tryz.sizeOf117 rfl rfl (fun _ => ⟨_, _, rfl⟩) (by omega) (by omega) (by omega)) ?_)
     refine tp rfl (lv_loadAgg_ad (cs := [(.bool ((d.ps.getD k Pl.z).h)), (.int .i64 ((d.ps.getD k Pl.z).id)), (.int .i64 ((d.ps.getD k Pl.z).mem))]) Tryz.isAgg117 Tryz.sizeOf117 rfl (gives_all3 (gives_ledp (j := 0) (.head _) (by omega) (by decide) rfl) (gives_ledp (j := 1) (.head _) (by omega) (by decide) rfl) (gives_ledp (j := 2) (.head _) (by omega) (by decide) rfl))) ?_
     refine tm rfl (mv_alloc Tryz.zeroValue117 rfl) ?_
     rintro _ _ ⟨b2, rfl, rfl⟩
     refine ts (sv_blkAgg (news := [(.bool ((d.ps.getD k Pl.z).h)), (.int .i64 ((d.ps.getD k Pl.z).id)), (.int .i64 ((d.ps.getD k Pl.z).mem))]) Tryz.sizeOf117 rfl rfl rfl rfl (Nat.le_of_ble_eq_true rfl) rfl) ?_
     refine t_done (q_then_n (hK9 _ _ (c_seq (fun K10 hK10 => c_region (tp rfl (lv_fieldAddr (o' := 0) Tryz.underlying117 rfl Tryz.sizeOf4 rfl rfl) (tp rfl (lv_load Tryz.isAgg4 rfl (gives_blk (.head _) rfl)) (tp rfl (lv_not (c := !((d.ps.getD k Pl.z).h)) rfl rfl) (t_done (q_then_n (hK10 _ _ ?_))))))))))
     refine c_split rfl (fun c3 => ?_) (fun c3 => ?_)
     · refine c_region (tp rfl (lv_move rfl) (tp rfl (lv_add (c := ((d.cnt k + 1 : Nat) : Int)) rfl rfl (wr_i64_succ (by omega))) ?_))
       refine tp rfl (lv_assign rfl) (t_done (q_in_n (q_then_n (hK8 _ _ (c_region (tp rfl (lv_add (c := ((k + 1 : Nat) : Int)) rfl rfl (wr_i64_succ (by omega))) ?_))))))
       refine tp rfl (lv_move rfl) (t_done (q_then_n (t_drop ?_)))
       exact t_weak (by exact ⟨rfl, rfl, (by show some _ = some _; congr 2; show _ = ((d.cnt k + (if (d.ps.getD k Pl.z).h = false then 1 else 0) : Nat) : Int); simp_all), rfl, rfl, rfl, trivial⟩) ((hK5 (k + 1) (by omega) (by omega)))
     · refine c_skip (q_in_n (q_then_n (hK8 _ _ (c_region (tp rfl (lv_add (c := ((k + 1 : Nat) : Int)) rfl rfl (wr_i64_succ (by omega))) ?_)))))
       refine tp rfl (lv_move rfl) (t_done (q_then_n (t_drop ?_)))
       exact t_weak (by exact ⟨rfl, rfl, (by show some _ = some _; congr 2; show _ = ((d.cnt k + (if (d.ps.getD k Pl.z).h = false then 1 else 0) : Nat) : Int); simp_all), rfl, rfl, rfl, trivial⟩) ((hK5 (k + 1) (by omega) (by omega)))
   · refine tp rfl (lv_lss rfl rfl (decide_eq_false h1)) (t_done (q_then_n (hK6 _ _ (c_seq (fun K7 hK7 => c_false rfl (c_exit (q_then_x (q_then_x (q_in_x (q_then_n (hK3 _ _ ?_)))))))))))
     refine c_seq (fun K8 hK8 => c_region (tp rfl (lv_move rfl) (tp rfl (lv_assign rfl) (t_done (q_then_n (hK8 _ _ (c_ret ?_)))))))
     refine t_shutL hL ?_
     refine q_ret rfl rfl ?_
     obtain rfl : k = d.many := by omega
     exact ⟨rfl, rfl⟩
set_option maxHeartbeats 4000000 in
theorem lat_ok {R : List HP} {l : Nat} {d : Led} (s : Int) :
    Ok Tryz.prog 61 [(.pointer (some ⟨l, 0, none⟩)), (.int .i64 s)] ((LedO l d) :: R)
      (fun v M => v = .tuple #[.int .i64 (d.atI s), .bool (d.atB s)] ∧ M = LedO l d :: R) := by
 refine ok_of (N := 27) Tryz.func61 rfl rfl rfl (fun W => ?_)
 refine t_openL (fun hL => ?_)
 have hlm := hL.lm
 have hb0 := hL.b0
 have hb1 := hL.b1
 have hu0 := hL.u0
 have hub := hL.ub
 refine c_seq (fun K1 hK1 => c_region (tp rfl (lv_assign rfl) (tp rfl (lv_assign rfl) (t_done (q_then_n (hK1 _ _ (c_seq (fun K2 hK2 => c_seq (fun K3 hK3 => c_region (tp rfl (lv_move rfl) ?_))))))))))
 by_cases h1 : s < 0
 · refine tp rfl (lv_lss rfl rfl (decide_eq_true h1)) (tp rfl (lv_move rfl) ?_)
   refine t_skip rfl rfl rfl ?_
   refine t_skip rfl rfl rfl ?_
   refine t_skip rfl rfl rfl ?_
   refine t_skip rfl rfl rfl ?_
   refine t_skip rfl rfl rfl ?_
   refine t_skip rfl rfl rfl ?_
   refine tp rfl (lv_pick_t rfl rfl) (t_done (q_then_n (hK3 _ _ (c_true rfl (c_seq (fun K4 hK4 => c_region (tp rfl (lv_assign rfl) (tp rfl (lv_assign rfl) (t_done (q_then_n (hK4 _ _ ?_)))))))))))
   refine c_ret ?_
   refine q_then_r ?_
   refine t_shutL hL ?_
   refine q_ret2 rfl rfl rfl ?_
   exact ⟨by unfold Led.atI Led.atB; rw [if_neg (by omega), decide_eq_false (by omega)]; rfl, rfl⟩
 · refine tp rfl (lv_lss rfl rfl (decide_eq_false h1)) (tp rfl (lv_move rfl) ?_)
   refine t_guard rfl rfl ?_
   refine tp rfl (lv_move rfl) ?_
   refine t_guard rfl rfl ?_
   refine tp rfl (lv_move rfl) ?_
   refine t_guard rfl rfl ?_
   refine tp rfl (lv_nilCheck rfl) ?_
   refine t_guard rfl rfl ?_
   refine tp rfl (lv_fieldAddr (o' := 1) Tryz.underlying120 rfl Tryz.sizeOf3 rfl rfl) ?_
   refine t_guard rfl rfl ?_
   refine tp rfl (lv_load Tryz.isAgg3 rfl (gives_led1 (.head _) )) ?_
   refine t_guard rfl rfl ?_
   by_cases h2 : s ≥ ((d.many : Nat) : Int)
   · refine tp rfl (lv_geq rfl rfl (decide_eq_true h2)) (tp rfl (lv_pick_f rfl rfl) (t_done (q_then_n (hK3 _ _ (c_true rfl (c_seq (fun K4 hK4 => c_region (tp rfl (lv_assign rfl) (tp rfl (lv_assign rfl) (t_done ?_))))))))))
     refine q_then_n (hK4 _ _ (c_ret ?_))
     refine q_then_r ?_
     refine t_shutL hL ?_
     refine q_ret2 rfl rfl rfl ?_
     exact ⟨by unfold Led.atI Led.atB; rw [if_neg (by omega), decide_eq_false (by omega)]; rfl, rfl⟩
   · refine tp rfl (lv_geq rfl rfl (decide_eq_false h2)) (tp rfl (lv_pick_f rfl rfl) (t_done (q_then_n (hK3 _ _ (c_false rfl (c_skip (q_then_n (hK2 _ _ (c_seq (fun K4 hK4 => c_region (tp rfl (lv_move rfl) ?_)))))))))))
     refine tp rfl (lv_move rfl) (tp rfl (lv_nilCheck rfl) (tp rfl (lv_fieldAddr (o' := 2) Tryz.underlying120 rfl Tryz.sizeOf118 rfl rfl) (tp rfl (lv_indexArr_pt (k' := s.toNat * 3) Tryz.underlying118 Tryz.sizeOf117 rfl rfl (by omega) (by omega) (by omega)) ?_)))
     refine tp rfl (lv_loadAgg_ad (cs := [(.bool ((d.ps.getD s.toNat Pl.z).h)), (.int .i64 ((d.ps.getD s.toNat Pl.z).id)), (.int .i64 ((d.ps.getD s.toNat Pl.z).mem))]) Tryz.isAgg117 Tryz.sizeOf117 rfl (gives_all3 (gives_ledp (j := 0) (.head _) (by omega) (by decide) rfl) (gives_ledp (j := 1) (.head _) (by omega) (by decide) rfl) (gives_ledp (j := 2) (.head _) (by omega) (by decide) rfl))) ?_
     refine tm rfl (mv_alloc Tryz.zeroValue117 rfl) ?_
     rintro _ _ ⟨b3, rfl, rfl⟩
     refine ts (sv_blkAgg (news := [(.bool ((d.ps.getD s.toNat Pl.z).h)), (.int .i64 ((d.ps.getD s.toNat Pl.z).id)), (.int .i64 ((d.ps.getD s.toNat Pl.z).mem))]) Tryz.sizeOf117 rfl rfl rfl rfl (Nat.le_of_ble_eq_true rfl) rfl) ?_
     refine t_done (q_then_n (hK4 _ _ (c_seq (fun K5 hK5 => ?_))))
     refine c_draw (γ := Unit) (n := 6) Tryz.mixed rfl rfl (fun _ S => True) (fun _ => [(0, 23, (vP b3 1)), (1, 24, (.int .i64 ((d.ps.getD s.toNat Pl.z).id))), (2, 25, (vP b3 0)), (3, 26, (.bool ((d.ps.getD s.toNat Pl.z).h))), (4, 4, (.int .i64 ((d.ps.getD s.toNat Pl.z).id))), (5, 5, (.bool ((d.ps.getD s.toNat Pl.z).h)))]) (fun _ S => (Blk b3 [(.bool ((d.ps.getD s.toNat Pl.z).h)), (.int .i64 ((d.ps.getD s.toNat Pl.z).id)), (.int .i64 ((d.ps.getD s.toNat Pl.z).mem))] 117) :: (LedW l d) :: R) (()) trivial (fun _ h => h) (fun _ _ h => h) ?_ ?_
     · refine ⟨?_, ?_, ?_, ?_, ?_, ?_, trivial⟩
       · intro _ S h s D p K k; exact d_lv1 (look_b (t := 6) rfl rfl) (lv_fieldAddr (o' := 1) Tryz.underlying117 rfl Tryz.sizeOf3 rfl rfl) 0 rfl rfl s (k () h)
       · intro _ S h s D p K k; exact d_lv1 (lkr p 0 rfl rfl) (lv_load Tryz.isAgg3 rfl (gives_blk (.head _) rfl)) 1 rfl rfl s (k () h)
       · intro _ S h s D p K k; exact d_lv1 (look_b (t := 6) rfl rfl) (lv_fieldAddr (o' := 0) Tryz.underlying117 rfl Tryz.sizeOf4 rfl rfl) 2 rfl rfl s (k () h)
       · intro _ S h s D p K k; exact d_lv1 (lkr p 2 rfl rfl) (lv_load Tryz.isAgg4 rfl (gives_blk (.head _) rfl)) 3 rfl rfl s (k () h)
       · intro _ S h s D p K k; exact d_lv1 (lkr p 1 rfl rfl) (lv_assign rfl) 4 rfl rfl s (k () h)
       · intro _ S h s D p K k; exact d_lv1 (lkr p 3 rfl rfl) (lv_assign rfl) 5 rfl rfl s (k () h)
     · rintro _ hF
       try dsimp only at hF ⊢
       refine t_weak (E' := [(0, (vP l 0)), (1, (.int .i64 s)), (4, (.int .i64 ((d.ps.getD s.toNat Pl.z).id))), (5, (.bool ((d.ps.getD s.toNat Pl.z).h))), (6, (vP b3 0)), (16, (.bool false))]) ⟨rfl, rfl, rfl, rfl, rfl, rfl, trivial⟩ ?_
       refine q_then_n (hK5 _ _ (c_ret (t_f1 ?_)))
       refine t_shutL hL ?_
       refine t_f1 (t_drop ?_)
       refine q_ret2 rfl rfl rfl ?_
       exact ⟨by unfold Led.atI Led.atB; rw [if_pos (by omega), decide_eq_true (by omega)]; rfl, rfl⟩
end Go.Proofs.YtanfdikglplkaaaGreatDoor
set_option maxRecDepth 100000
namespace Go.Proofs.YtanfdikglplkaaaGreatDoor
open Go Go.Proofs Sp
set_option maxHeartbeats 4000000 in
theorem ltake_ok {R : List HP} {l : Nat} {d : Led} (hz : ∀ i, (d.ps.getD i Pl.z).h = false → (d.ps.getD i Pl.z).mem = 0) (id mem : Int)  :
    Ok Tryz.prog 107 [(.pointer (some ⟨l, 0, none⟩)), (.int .i64 id), (.int .i64 mem)] ((LedO l d) :: R)
      (fun v M => v = .tuple #[.int .i64 (d.takeV id mem), .int .i64 (d.takeE id mem)] ∧ M = LedO l (d.take id mem) :: R) := by
 refine ok_of (N := 61) Tryz.func107 rfl rfl rfl (fun W => ?_)
 refine t_openL (fun hL => ?_)
 have hlm := hL.lm
 have hb0 := hL.b0
 have hb1 := hL.b1
 have hu0 := hL.u0
 have hub := hL.ub
 refine c_seq (fun K1 hK1 => c_region (tp rfl (lv_assign rfl) (tp rfl (lv_assign rfl) (t_done (q_then_n (hK1 _ _ (c_seq (fun K2 hK2 => c_region (tp rfl (lv_move rfl) ?_)))))))))
 refine tc rfl (en_fn Tryz.call129 rfl) (lfind_ok (d := d) (caps := []) (p := fun k => !(d.ps.getD k Pl.z).h) hlm ⟨Tryz.call147, fun H k hk => free1_ok⟩) ?_
 rintro _ _ ⟨rfl, rfl⟩
 rw [show idxN (fun k => !(d.ps.getD k Pl.z).h) d.many = d.free from rfl]
 refine tp rfl (lv_assign rfl) (t_done (q_then_n (hK2 _ _ (c_seq (fun K3 hK3 => c_region (tp rfl (lv_move rfl) (tp rfl (lv_move rfl) ?_)))))))
 refine tc rfl (en_fn Tryz.call128 rfl) (lslotw_ok (d := d) hlm id) ?_
 rintro _ _ ⟨rfl, rfl⟩
 refine tp rfl (lv_move rfl) (tp rfl (lv_extract rfl rfl) (tp rfl (lv_extract rfl rfl) (tp rfl (lv_assign rfl) (tp rfl (lv_assign rfl) (t_done (q_then_n (hK3 _ _ (c_seq (fun K4 hK4 => c_block (c_seq (fun K5 hK5 => ?_)))))))))))
 refine c_region ?_
 have hfr := d.free_rng
 have hsr := d.slot_rng id
 refine tp rfl (lv_move rfl) ?_
 by_cases h1 : id < 0
 · refine tp rfl (lv_lss rfl rfl (decide_eq_true h1)) (tp rfl (lv_move rfl) ?_)
   refine t_skip rfl rfl rfl ?_
   refine t_skip rfl rfl rfl ?_
   refine tp rfl (lv_pick_t rfl rfl) (tp rfl (lv_assign rfl) (t_done (q_then_n (hK5 _ _ (c_true rfl (c_seq (fun K6 hK6 => c_region (tp rfl (lv_assign rfl) (tp rfl (lv_assign rfl) (t_done ?_))))))))))
   refine q_then_n (hK6 _ _ (c_ret ?_))
   refine q_in_r ?_
   refine q_then_r ?_
   have hte : d.takeE id mem = 1 := by unfold Led.takeE; rw [if_pos (by omega)]
   have htk : d.take id mem = d := by unfold Led.take; rw [hte]; rfl
   have hok2 : LedOk (d) := by rw [← htk]; exact hL.take hz id mem
   refine t_shutL hok2 ?_
   rw [show LedO l d = LedO l (d.take id mem) from by rw [htk]]
   refine q_ret2 rfl rfl rfl ?_
   exact ⟨by unfold Led.takeV; rw [hte]; rfl, rfl⟩
 · refine tp rfl (lv_lss rfl rfl (decide_eq_false h1)) (tp rfl (lv_move rfl) ?_)
   refine t_guard rfl rfl ?_
   refine tp rfl (lv_move rfl) ?_
   refine t_guard rfl rfl ?_
   by_cases h2 : mem < 0
   · refine tp rfl (lv_lss rfl rfl (decide_eq_true h2)) (tp rfl (lv_pick_f rfl rfl) (tp rfl (lv_assign rfl) (t_done (q_then_n (hK5 _ _ (c_true rfl (c_seq (fun K6 hK6 => c_region (tp rfl (lv_assign rfl) (tp rfl (lv_assign rfl) ?_))))))))))
     refine t_done (q_then_n (hK6 _ _ (c_ret ?_)))
     refine q_in_r ?_
     refine q_then_r ?_
     have hte : d.takeE id mem = 1 := by unfold Led.takeE; rw [if_pos (by omega)]
     have htk : d.take id mem = d := by unfold Led.take; rw [hte]; rfl
     have hok2 : LedOk (d) := by rw [← htk]; exact hL.take hz id mem
     refine t_shutL hok2 ?_
     rw [show LedO l d = LedO l (d.take id mem) from by rw [htk]]
     refine q_ret2 rfl rfl rfl ?_
     exact ⟨by unfold Led.takeV; rw [hte]; rfl, rfl⟩
   · refine tp rfl (lv_lss rfl rfl (decide_eq_false h2)) (tp rfl (lv_pick_f rfl rfl) (tp rfl (lv_assign rfl) (t_done (q_then_n (hK5 _ _ (c_false rfl (c_seq (fun K6 hK6 => c_region (tp rfl (lv_move rfl) (tp rfl (lv_move rfl) ?_))))))))))
     refine tp rfl (lv_nilCheck rfl) (tp rfl (lv_fieldAddr (o' := 0) Tryz.underlying120 rfl Tryz.sizeOf3 rfl rfl) (tp rfl (lv_load Tryz.isAgg3 rfl (gives_led0 (.head _) )) ?_))
     by_cases h3 : mem > d.bud
     · refine tp rfl (lv_gtr rfl rfl (decide_eq_true h3)) (tp rfl (lv_assign rfl) (t_done (q_then_n (hK6 _ _ (c_true rfl (c_seq (fun K7 hK7 => c_region (tp rfl (lv_assign rfl) (tp rfl (lv_assign rfl) (t_done ?_))))))))))
       refine q_then_n (hK7 _ _ (c_ret ?_))
       refine q_in_r ?_
       refine q_then_r ?_
       have hte : d.takeE id mem = 5 := by unfold Led.takeE; rw [if_neg (by omega), if_pos (by omega)]
       have htk : d.take id mem = d := by unfold Led.take; rw [hte]; rfl
       have hok2 : LedOk (d) := by rw [← htk]; exact hL.take hz id mem
       refine t_shutL hok2 ?_
       rw [show LedO l d = LedO l (d.take id mem) from by rw [htk]]
       refine q_ret2 rfl rfl rfl ?_
       exact ⟨by unfold Led.takeV; rw [hte]; rfl, rfl⟩
     · refine tp rfl (lv_gtr rfl rfl (decide_eq_false h3)) (tp rfl (lv_assign rfl) (t_done (q_then_n (hK6 _ _ (c_false rfl (c_seq (fun K7 hK7 => c_region (tp rfl (lv_move rfl) (tp rfl (lv_assign rfl) (t_done ?_))))))))))
       refine q_then_n (hK7 _ _ ?_)
       refine c_split rfl (fun c4 => ?_) (fun c4 => ?_)
       · have hcs := of_decide_eq_true c4
         refine c_seq (fun K8 hK8 => c_region (tp rfl (lv_assign rfl) (tp rfl (lv_assign rfl) (t_done (q_then_n (hK8 _ _ (c_ret ?_)))))))
         refine q_in_r ?_
         refine q_then_r ?_
         have hte : d.takeE id mem = 8 := by unfold Led.takeE; rw [if_neg (by omega), if_neg (by omega), if_pos (by omega)]
         have htk : d.take id mem = d := by unfold Led.take; rw [hte]; rfl
         have hok2 : LedOk (d) := by rw [← htk]; exact hL.take hz id mem
         refine t_shutL hok2 ?_
         rw [show LedO l d = LedO l (d.take id mem) from by rw [htk]]
         refine q_ret2 rfl rfl rfl ?_
         exact ⟨by unfold Led.takeV; rw [hte]; rfl, rfl⟩
       · have hcs := of_decide_eq_false c4
         refine c_seq (fun K8 hK8 => c_region (tp rfl (lv_move rfl) ?_))
         by_cases h5 : d.free < 0
         · refine tp rfl (lv_lss rfl rfl (decide_eq_true h5)) (tp rfl (lv_move rfl) ?_)
           refine t_skip rfl rfl rfl ?_
           refine t_skip rfl rfl rfl ?_
           refine t_skip rfl rfl rfl ?_
           refine t_skip rfl rfl rfl ?_
           refine tp rfl (lv_pick_t rfl rfl) (tp rfl (lv_assign rfl) (t_done (q_then_n (hK8 _ _ (c_true rfl (c_seq (fun K9 hK9 => c_region (tp rfl (lv_assign rfl) (tp rfl (lv_assign rfl) (t_done ?_))))))))))
           refine q_then_n (hK9 _ _ (c_ret ?_))
           refine q_in_r ?_
           refine q_then_r ?_
           have hte : d.takeE id mem = 4 := by unfold Led.takeE; rw [if_neg (by omega), if_neg (by omega), if_neg (by omega), if_pos (by omega)]
           have htk : d.take id mem = d := by unfold Led.take; rw [hte]; rfl
           have hok2 : LedOk (d) := by rw [← htk]; exact hL.take hz id mem
           refine t_shutL hok2 ?_
           rw [show LedO l d = LedO l (d.take id mem) from by rw [htk]]
           refine q_ret2 rfl rfl rfl ?_
           exact ⟨by unfold Led.takeV; rw [hte]; rfl, rfl⟩
         · refine tp rfl (lv_lss rfl rfl (decide_eq_false h5)) (tp rfl (lv_move rfl) ?_)
           refine t_guard rfl rfl ?_
           refine tp rfl (lv_move rfl) ?_
           refine t_guard rfl rfl ?_
           refine tp rfl (lv_move rfl) ?_
           refine t_guard rfl rfl ?_
           refine tc rfl (en_fn Tryz.call95 rfl) (lroomw_ok (d := d) hlm hu0 hub hb1 ) ?_
           rintro _ _ ⟨rfl, rfl⟩
           refine t_guard rfl rfl ?_
           by_cases h6 : mem > (d.bud - d.used)
           · refine tp rfl (lv_gtr rfl rfl (decide_eq_true h6)) (tp rfl (lv_pick_f rfl rfl) (tp rfl (lv_assign rfl) (t_done (q_then_n (hK8 _ _ (c_true rfl (c_seq (fun K9 hK9 => c_region (tp rfl (lv_assign rfl) (tp rfl (lv_assign rfl) ?_))))))))))
             refine t_done (q_then_n (hK9 _ _ (c_ret ?_)))
             refine q_in_r ?_
             refine q_then_r ?_
             have hte : d.takeE id mem = 4 := by unfold Led.takeE; rw [if_neg (by omega), if_neg (by omega), if_neg (by omega), if_pos (by omega)]
             have htk : d.take id mem = d := by unfold Led.take; rw [hte]; rfl
             have hok2 : LedOk (d) := by rw [← htk]; exact hL.take hz id mem
             refine t_shutL hok2 ?_
             rw [show LedO l d = LedO l (d.take id mem) from by rw [htk]]
             refine q_ret2 rfl rfl rfl ?_
             exact ⟨by unfold Led.takeV; rw [hte]; rfl, rfl⟩
           · refine tp rfl (lv_gtr rfl rfl (decide_eq_false h6)) (tp rfl (lv_pick_f rfl rfl) (tp rfl (lv_assign rfl) (t_done (q_then_n (hK8 _ _ (c_false rfl (c_skip (q_in_n (q_then_n (hK4 _ _ (c_seq (fun K9 hK9 => ?_))))))))))))
             refine c_region (tp rfl (lv_move rfl) (tp rfl (lv_move rfl) (tp rfl (lv_move rfl) (tp rfl (lv_move rfl) (tp rfl (lv_build (cs := [(.bool true), (.int .i64 id), (.int .i64 mem)]) (pl := [(0, 1), (1, 1), (2, 1)]) Tryz.underlying117 Tryz.zeroValue117 (fun _ => by simp) rfl rfl) ?_)))))
             refine tp rfl (lv_nilCheck rfl) (tp rfl (lv_fieldAddr (o' := 2) Tryz.underlying120 rfl Tryz.sizeOf118 rfl rfl) (tp rfl (lv_indexArr_pt (k' := d.free.toNat * 3) Tryz.underlying118 Tryz.sizeOf117 rfl rfl (by omega) (by omega) (by omega)) ?_))
             refine ts (sv_ledp (i := d.free.toNat) (q := ⟨true, id, mem⟩) (by omega) Tryz.sizeOf117 rfl rfl) ?_
             refine t_done (q_then_n (hK9 _ _ (c_seq (fun K10 hK10 => c_region (tp rfl (lv_move rfl) (tp rfl (lv_nilCheck rfl) (tp rfl (lv_fieldAddr (o' := 50) Tryz.underlying120 rfl Tryz.sizeOf3 rfl rfl) (tp rfl (lv_load Tryz.isAgg3 rfl (gives_as (u := .int .i64 (d.put d.free.toNat ⟨true, id, mem⟩ d.used).used) (v := .int .i64 d.used) rfl (gives_ledu (.head _) ))) (tp rfl (lv_move rfl) (tp rfl (lv_add (c := d.used + mem) rfl rfl (wr_i64 (by omega) (by omega))) ?_))))))))))
             refine tp rfl (lv_nilCheck rfl) (tp rfl (lv_fieldAddr (o' := 50) Tryz.underlying120 rfl Tryz.sizeOf3 rfl rfl) ?_)
             refine ts (sv_ledu Tryz.sizeOf3 rfl rfl) ?_
             refine t_done (q_then_n (hK10 _ _ (c_seq (fun K11 hK11 => c_region (tp rfl (lv_move rfl) (tp rfl (lv_assign rfl) (tp rfl (lv_assign rfl) (t_done (q_then_n (hK11 _ _ (c_ret ?_)))))))))))
             have hte : d.takeE id mem = 0 := by unfold Led.takeE; rw [if_neg (by omega), if_neg (by omega), if_neg (by omega), if_neg (by omega)]
             have htk : d.take id mem = (d.put d.free.toNat ⟨true, id, mem⟩ d.used).setU (d.used + mem) := by unfold Led.take; rw [hte]; rfl
             have hok2 : LedOk ((d.put d.free.toNat ⟨true, id, mem⟩ d.used).setU (d.used + mem)) := by rw [← htk]; exact hL.take hz id mem
             refine t_shutL hok2 ?_
             rw [show LedO l ((d.put d.free.toNat ⟨true, id, mem⟩ d.used).setU (d.used + mem)) = LedO l (d.take id mem) from by rw [htk]]
             refine q_ret2 rfl rfl rfl ?_
             exact ⟨by unfold Led.takeV; rw [hte]; rfl, rfl⟩
set_option maxHeartbeats 4000000 in
theorem lfree_ok {R : List HP} {l : Nat} {d : Led} (id : Int)  :
    Ok Tryz.prog 83 [(.pointer (some ⟨l, 0, none⟩)), (.int .i64 id)] ((LedO l d) :: R)
      (fun v M => v = .int .i64 (if d.slot id < 0 then 6 else 0) ∧ M = LedO l (d.drop id) :: R) := by
 refine ok_of (N := 32) Tryz.func83 rfl rfl rfl (fun W => ?_)
 refine t_openL (fun hL => ?_)
 have hlm := hL.lm
 have hb0 := hL.b0
 have hb1 := hL.b1
 have hu0 := hL.u0
 have hub := hL.ub
 refine c_seq (fun K1 hK1 => c_region (tp rfl (lv_assign rfl) (t_done (q_then_n (hK1 _ _ (c_seq (fun K2 hK2 => c_region (tp rfl (lv_move rfl) (tp rfl (lv_move rfl) ?_)))))))))
 refine tc rfl (en_fn Tryz.call130 rfl) (lof1_ok id) ?_
 rintro _ _ ⟨b1, rfl, rfl⟩
 refine t_f1 ?_
 refine tc rfl (en_fn Tryz.call129 rfl) (lfind_ok (d := d) (caps := [(.pointer (some ⟨b1, 0, none⟩))]) (p := fun k => (d.ps.getD k Pl.z).h && decide ((d.ps.getD k Pl.z).id = id)) hlm ⟨Tryz.call157, fun H k hk => of1_ok⟩) ?_
 rintro _ _ ⟨rfl, rfl⟩
 rw [show idxN (fun k => (d.ps.getD k Pl.z).h && decide ((d.ps.getD k Pl.z).id = id)) d.many = d.slot id from rfl]
 refine tp rfl (lv_assign rfl) (t_done (q_then_n (hK2 _ _ (c_seq (fun K3 hK3 => c_seq (fun K4 hK4 => c_region ?_))))))
 have hsr := d.slot_rng id
 refine tp rfl (lv_move rfl) ?_
 by_cases h2 : (d.slot id) < 0
 · refine tp rfl (lv_lss rfl rfl (decide_eq_true h2)) (t_done (q_then_n (hK4 _ _ (c_true rfl (c_seq (fun K5 hK5 => c_region (tp rfl (lv_assign rfl) (t_done (q_then_n (hK5 _ _ (c_ret ?_)))))))))))
   refine q_then_r ?_
   have htk : d.drop id = d := by unfold Led.drop; rw [if_pos (by omega)]
   have hok2 : LedOk (d) := by rw [← htk]; exact hL.drop id
   refine t_shutL hok2 ?_
   rw [show LedO l d = LedO l (d.drop id) from by rw [htk]]
   refine t_f1 (t_drop ?_)
   refine q_ret rfl rfl ?_
   exact ⟨by rw [if_pos (by omega)], rfl⟩
 · refine tp rfl (lv_lss rfl rfl (decide_eq_false h2)) (t_done (q_then_n (hK4 _ _ (c_false rfl (c_skip (q_then_n (hK3 _ _ (c_seq (fun K5 hK5 => ?_)))))))))
   have hmu := hL.mu (d.slot id).toNat
   have hm0 := hL.m0 (d.slot id).toNat
   refine c_draw (γ := Unit) (n := 15) Tryz.mixed rfl rfl (fun _ S => True) (fun _ => [(0, 12, (vP l 0)), (1, 13, (vP l 0)), (2, 14, (vP l 50)), (3, 15, (.int .i64 d.used)), (4, 16, (vP l 0)), (5, 17, (.int .i64 (d.slot id))), (6, 18, (vP l 0)), (7, 19, (vP l 2)), (8, 20, (.pointer (some (ad (some ⟨l, 2, none⟩) (((d.slot id).toNat) * 3))))), (9, 21, (.pointer (some (ad (some ⟨l, 2, none⟩) (((d.slot id).toNat) * 3 + 2))))), (10, 22, (.int .i64 ((d.ps.getD ((d.slot id).toNat) Pl.z).mem))), (11, 23, (.int .i64 (d.used - ((d.ps.getD ((d.slot id).toNat) Pl.z).mem)))), (12, 24, (vP l 0)), (13, 25, (vP l 50))]) (fun _ S => (bif S 14 then (LedW l (d.setU (d.used - ((d.ps.getD ((d.slot id).toNat) Pl.z).mem)))) else (LedW l d)) :: (Blk b1 [(.int .i64 id)] 3) :: R) (()) trivial (fun _ h => h) (fun _ _ h => h) ?_ ?_
   · refine ⟨?_, ?_, ?_, ?_, ?_, ?_, ?_, ?_, ?_, ?_, ?_, ?_, ?_, ?_, ?_, trivial⟩
     · intro _ S h s D p K k; exact d_lv1 (look_b (t := 0) rfl rfl) (lv_move rfl) 0 rfl rfl s (k () h)
     · intro _ S h s D p K k; exact d_lv1 (lkr p 0 rfl rfl) (lv_nilCheck rfl) 1 rfl rfl s (k () h)
     · intro _ S h s D p K k; exact d_lv1 (lkr p 1 rfl rfl) (lv_fieldAddr (o' := 50) Tryz.underlying120 rfl Tryz.sizeOf3 rfl rfl) 2 rfl rfl s (k () h)
     · rintro _ S hF hS D hp K hK; try dsimp only
       exact d_lv1 (lkr hp 2 rfl rfl) (lv_load Tryz.isAgg3 rfl (gives_ledu (mem_cF (nf hS D (k := 14) (i := 3) rfl) (.head _)) )) 3 rfl rfl hS (hK () hF)
     · intro _ S h s D p K k; exact d_lv1 (look_b (t := 0) rfl rfl) (lv_move rfl) 4 rfl rfl s (k () h)
     · intro _ S h s D p K k; exact d_lv1 (look_b (t := 5) rfl rfl) (lv_move rfl) 5 rfl rfl s (k () h)
     · intro _ S h s D p K k; exact d_lv1 (lkr p 4 rfl rfl) (lv_nilCheck rfl) 6 rfl rfl s (k () h)
     · intro _ S h s D p K k; exact d_lv1 (lkr p 6 rfl rfl) (lv_fieldAddr (o' := 2) Tryz.underlying120 rfl Tryz.sizeOf118 rfl rfl) 7 rfl rfl s (k () h)
     · rintro _ S hF hS D hp K hK; try dsimp only
       exact d_lv2 (lkr hp 5 rfl rfl) (lkr hp 7 rfl rfl) (lv_indexArr_pt (k' := ((d.slot id).toNat) * 3) Tryz.underlying118 Tryz.sizeOf117 rfl rfl (by omega) (by omega) (by omega)) 8 rfl rfl hS (hK () hF)
     · intro _ S h s D p K k; exact d_lv1 (lkr p 8 rfl rfl) (lv_fieldAddr_ad (o' := ((d.slot id).toNat) * 3 + 2) Tryz.underlying117 rfl Tryz.sizeOf3 rfl rfl) 9 rfl rfl s (k () h)
     · rintro _ S hF hS D hp K hK; try dsimp only
       exact d_lv1 (lkr hp 9 rfl rfl) (lv_load Tryz.isAgg3 rfl (gives_ledp (j := 2) (mem_cF (nf hS D (k := 14) (i := 10) rfl) (.head _)) (by omega) (by decide) rfl)) 10 rfl rfl hS (hK () hF)
     · intro _ S h s D p K k; exact d_lv2 (lkr p 3 rfl rfl) (lkr p 10 rfl rfl) (lv_sub (c := d.used - ((d.ps.getD ((d.slot id).toNat) Pl.z).mem)) rfl rfl (wr_i64 (by omega) (by omega))) 11 rfl rfl s (k () h)
     · intro _ S h s D p K k; exact d_lv1 (lkr p 0 rfl rfl) (lv_nilCheck rfl) 12 rfl rfl s (k () h)
     · intro _ S h s D p K k; exact d_lv1 (lkr p 12 rfl rfl) (lv_fieldAddr (o' := 50) Tryz.underlying120 rfl Tryz.sizeOf3 rfl rfl) 13 rfl rfl s (k () h)
     · rintro _ S hF hS D hp K hK
       try dsimp only at hF ⊢
       have s11 := hp 11 rfl
       have s13 := hp 13 rfl
       refine d_need (small := [(23, (.int .i64 (d.used - ((d.ps.getD ((d.slot id).toNat) Pl.z).mem)))), (25, (vP l 50))]) ⟨look_row rfl 11 rfl s11, look_row rfl 13 rfl s13, trivial⟩ ?_
       refine t_cF hS ?_
       refine ts (sv_ledu Tryz.sizeOf3 rfl rfl) ?_
       exact d_closes0 ⟨look_row rfl 11 rfl s11, look_row rfl 13 rfl s13, trivial⟩ rfl (t_sat (fun _ h => h) (hK () trivial))
   · rintro _ hF
     try dsimp only at hF ⊢
     refine t_weak (E' := [(0, (vP l 0)), (1, (.int .i64 id)), (4, (.int .i64 0)), (5, (.int .i64 (d.slot id))), (11, (.bool false))]) ⟨rfl, rfl, rfl, rfl, rfl, trivial⟩ ?_
     refine q_then_n (hK5 _ _ (c_seq (fun K6 hK6 => c_region (tp rfl (lv_move rfl) (tp rfl (lv_move rfl) (tp rfl (lv_build (cs := [(.bool false), (.int .i64 0), (.int .i64 0)]) (pl := [(0, 1), (1, 1), (2, 1)]) Tryz.underlying117 Tryz.zeroValue117 (fun _ => by simp) rfl rfl) ?_))))))
     refine tp rfl (lv_nilCheck rfl) (tp rfl (lv_fieldAddr (o' := 2) Tryz.underlying120 rfl Tryz.sizeOf118 rfl rfl) (tp rfl (lv_indexArr_pt (k' := ((d.slot id).toNat) * 3) Tryz.underlying118 Tryz.sizeOf117 rfl rfl (by omega) (by omega) (by omega)) ?_))
     refine ts (sv_ledp (i := ((d.slot id).toNat)) (q := ⟨false, 0, 0⟩) (by omega) Tryz.sizeOf117 rfl rfl) ?_
     refine t_done (q_then_n (hK6 _ _ (c_seq (fun K7 hK7 => c_region (tp rfl (lv_assign rfl) (t_done (q_then_n (hK7 _ _ (c_ret ?_)))))))))
     have htk : d.drop id = (d.setU (d.used - ((d.ps.getD ((d.slot id).toNat) Pl.z).mem))).put ((d.slot id).toNat) ⟨false, 0, 0⟩ (d.setU (d.used - ((d.ps.getD ((d.slot id).toNat) Pl.z).mem))).used := by unfold Led.drop; rw [if_neg (by omega)]; rfl
     have hok2 : LedOk ((d.setU (d.used - ((d.ps.getD ((d.slot id).toNat) Pl.z).mem))).put ((d.slot id).toNat) ⟨false, 0, 0⟩ (d.setU (d.used - ((d.ps.getD ((d.slot id).toNat) Pl.z).mem))).used) := by rw [← htk]; exact hL.drop id
     refine t_shutL hok2 ?_
     rw [show LedO l ((d.setU (d.used - ((d.ps.getD ((d.slot id).toNat) Pl.z).mem))).put ((d.slot id).toNat) ⟨false, 0, 0⟩ (d.setU (d.used - ((d.ps.getD ((d.slot id).toNat) Pl.z).mem))).used) = LedO l (d.drop id) from by rw [htk]]
     refine t_f1 (t_drop ?_)
     refine q_ret rfl rfl ?_
     exact ⟨by rw [if_neg (by omega)], rfl⟩
theorem lnew_ok {R : List HP} (x y : Int) (hx : x ≤ 1099511627776) :
    Ok Tryz.prog 37 [(.int .i64 x), (.int .i64 y)] R
      (fun v M => ∃ p, v = .pointer (some ⟨p, 0, none⟩) ∧ M = LedO p ⟨max x 0, (min (max y 0) 16).toNat, List.replicate 16 Pl.z, 0⟩ :: R) := by
 refine ok_of (N := 12) Tryz.func37 rfl rfl rfl (fun W => ?_)
 refine c_seq (fun K1 hK1 => c_region (tp rfl (lv_assign rfl) (t_done (q_then_n (hK1 _ _ (c_seq (fun K2 hK2 => c_region (tp rfl (lv_move rfl) (tp rfl (lv_max (c := max x 0) rfl rfl rfl) (tp rfl (lv_move rfl) ?_))))))))))
 refine tp rfl (lv_max (c := max y 0) rfl rfl rfl) (tp rfl (lv_min (c := min (max y 0) 16) rfl rfl rfl) (tp rfl (lv_build (cs := [(.int .i64 (max x 0)), (.int .i64 (min (max y 0) 16)), (.bool false), (.int .i64 0), (.int .i64 0), (.bool false), (.int .i64 0), (.int .i64 0), (.bool false), (.int .i64 0), (.int .i64 0), (.bool false), (.int .i64 0), (.int .i64 0), (.bool false), (.int .i64 0), (.int .i64 0), (.bool false), (.int .i64 0), (.int .i64 0), (.bool false), (.int .i64 0), (.int .i64 0), (.bool false), (.int .i64 0), (.int .i64 0), (.bool false), (.int .i64 0), (.int .i64 0), (.bool false), (.int .i64 0), (.int .i64 0), (.bool false), (.int .i64 0), (.int .i64 0), (.bool false), (.int .i64 0), (.int .i64 0), (.bool false), (.int .i64 0), (.int .i64 0), (.bool false), (.int .i64 0), (.int .i64 0), (.bool false), (.int .i64 0), (.int .i64 0), (.bool false), (.int .i64 0), (.int .i64 0), (.int .i64 0)]) (pl := [(0, 1), (1, 1), (2, 48), (50, 1)]) Tryz.underlying120 Tryz.zeroValue120 (fun _ => by simp) rfl rfl) ?_))
 refine tm rfl (mv_box rfl rfl) ?_
 rintro _ _ ⟨b1, rfl, rfl⟩
 refine tp rfl (lv_assign rfl) (t_done (q_then_n (hK2 _ _ (c_ret ?_))))
 refine t_newL (b := max x 0) (m := min (max y 0) 16) (by unfold ledC; simp only [Int.toNat_of_nonneg (show 0 ≤ min (max y 0) 16 by omega)]; rfl) (by omega) (by omega) (by omega) ?_
 refine q_ret rfl rfl ?_
 exact ⟨_, rfl, rfl⟩
end Go.Proofs.YtanfdikglplkaaaGreatDoor
