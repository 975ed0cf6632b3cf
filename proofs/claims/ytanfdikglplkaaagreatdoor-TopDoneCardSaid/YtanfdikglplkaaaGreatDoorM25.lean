/- Parts Tc: own lemmas and contracts of the code that the claim reaches. -/
import Derived.Test.YtanfdikglplkaaaGreatDoorM03
import Derived.Test.YtanfdikglplkaaaGreatDoorM17
set_option linter.unusedSimpArgs false
set_option linter.unusedVariables false
set_option maxRecDepth 100000
namespace Go.Proofs.YtanfdikglplkaaaGreatDoor
open Go Go.Proofs Sp
set_option maxHeartbeats 4000000 in
theorem take_ok {R : List HP} {p a : Nat} {q : Int} {ms : List M3} (ws : List (Int × Int)) {bl : Option Addr} {cl : Nat} (hw : Rd R bl (pairs ws)) (okl : SlOk bl ws.length) (lw : ws.length ≤ 1000000) (hb : ms.length ≤ 50000) (hany : anyPos (costsL ms ws) = true) :
    Ok Tryz.prog 57 [(.pointer (some ⟨p, 0, none⟩)), (.slice bl ws.length cl)] ((TurnsO p q ms a) :: R)
      (fun v M => ∃ (tm : List M3) (ta : Nat), TakeR q (costsL ms ws) (ms, a) (tm, ta) ∧ v = .tuple #[.int .i64 (tm.getD ta M3.z).id, .bool true] ∧ M = TurnsO p q (setC tm ta ((tm.getD ta M3.z).c - (costsL ms ws).getD ta 0)) ta :: R) := by
 obtain ⟨cs, hcs⟩ : ∃ x, costsL ms ws = x := ⟨_, rfl⟩
 rw [hcs]
 refine ok_of (N := 125) Tryz.func57 rfl rfl rfl (fun W => ?_)
 refine t_openT (fun ba ca ps hT => ?_)
 have hTlp := hT.lp
 have hTat := hT.at_
 have hTq1 := hT.q1
 have hTq2 := hT.q2
 have hcb : ∀ i, 0 ≤ cs.getD i 0 ∧ cs.getD i 0 ≤ 1048576 := fun i => by rw [← hcs]; exact costsL_bd ms ws i
 have hcl : cs.length = ms.length := by rw [← hcs]; exact costsL_len ms ws
 have hany2 : ∃ j, j < ms.length ∧ 0 < cs.getD j 0 := by have := anyPos_iff.1 (hcs ▸ hany); rw [hcl] at this; exact this
 have hal0 : a < ms.length := by obtain ⟨j, hj, _⟩ := hany2; rcases hTat with h | ⟨_, h⟩; exact h; subst h; simp at hj
 refine c_seq (fun K1 hK1 => c_region (tp rfl (lv_assign rfl) (tp rfl (lv_assign rfl) (t_done (q_then_n (hK1 _ _ ?_))))))
 refine c_scope (γ := (Option Addr) × (Nat) × (List M3) × (Nat) × (Nat)) (c := _) 0 (fun (bs, cp, mx, ax, k) => TInv q cs ms a mx ax k ∧ SlOk bs ms.length) (fun (bs, cp, mx, ax, k) => [(0, (.pointer (some ⟨p, 0, none⟩))), (6, (.slice bs ms.length cp)), (8, (.int .i64 ((k : Nat) : Int)))]) (fun (bs, cp, mx, ax, k) => (SlV 3 1 (.slice bs ms.length cp) ms.length (ints .i64 cs)) :: (Blk p [(.int .i64 q), (.slice ba ms.length ca), (.int .i64 ((ax : Nat) : Int))] 139) :: (SlV 159 1 (.slice ba ms.length ca) ms.length (recs ptrF ps)) :: (Join (mems ps mx)) :: R) (fun (bs, cp, mx, ax, k) => 2 * ms.length - k) rfl ?_ ?_
 · rintro ⟨bs, cp, mx, ax, k⟩ K2 hF hK2
   try dsimp only at hF hK2 ⊢
   obtain ⟨hI, hbs⟩ := hF
   have hal := hI.al
   have hlx := hI.len
   have hcr := hI.cr ax hal
   rw [if_pos rfl] at hcr
   have hga := hI.gn ax hal
   have hsx := hI.same ax hal
   have hca := hcb ax
   have hk2 := hI.k2
   refine c_seq (fun K3 hK3 => ?_)
   refine c_draw (γ := Unit) (n := 19) Tryz.mixed rfl rfl (fun _ S => True) (fun _ => [(0, 19, (vP p 0)), (1, 20, (vP p 0)), (2, 21, (vP p 1)), (3, 22, (.slice ba ms.length ca)), (4, 23, (vP p 0)), (5, 24, (vP p 0)), (6, 25, (vP p 2)), (7, 26, (vN ax)), (8, 27, (.pointer (some (ad ba ax)))), (9, 28, (vP (ps.getD ax 0) 0)), (10, 29, (.slice bs ms.length cp)), (11, 30, (vP p 0)), (12, 31, (vP p 0)), (13, 32, (vP p 2)), (14, 33, (vN ax)), (15, 34, (.pointer (some (ad bs ax)))), (16, 35, (.int .i64 ((cs).getD ax 0))), (17, 9, (vP (ps.getD ax 0) 0)), (18, 10, (.int .i64 ((cs).getD ax 0)))]) (fun _ S => (SlV 3 1 (.slice bs ms.length cp) ms.length (ints .i64 cs)) :: (Blk p [(.int .i64 q), (.slice ba ms.length ca), (vN ax)] 139) :: (SlV 159 1 (.slice ba ms.length ca) ms.length (recs ptrF ps)) :: (Join (mems ps mx)) :: R) (()) trivial (fun _ h => h) (fun _ _ h => h) ?_ ?_
   · refine ⟨?_, ?_, ?_, ?_, ?_, ?_, ?_, ?_, ?_, ?_, ?_, ?_, ?_, ?_, ?_, ?_, ?_, ?_, ?_, trivial⟩
     · intro _ S h s D p K k; exact d_lv1 (look_b (t := 0) rfl rfl) (lv_move rfl) 0 rfl rfl s (k () h)
     · intro _ S h s D p K k; exact d_lv1 (lkr p 0 rfl rfl) (lv_nilCheck rfl) 1 rfl rfl s (k () h)
     · intro _ S h s D p K k; exact d_lv1 (lkr p 1 rfl rfl) (lv_fieldAddr (o' := 1) Tryz.underlying139 rfl Tryz.sizeOf137 rfl rfl) 2 rfl rfl s (k () h)
     · intro _ S h s D p K k; exact d_lv1 (lkr p 2 rfl rfl) (lv_load Tryz.isAgg137 rfl (gives_blk (.tail _ (.head _)) rfl)) 3 rfl rfl s (k () h)
     · intro _ S h s D p K k; exact d_lv1 (look_b (t := 0) rfl rfl) (lv_move rfl) 4 rfl rfl s (k () h)
     · intro _ S h s D p K k; exact d_lv1 (lkr p 4 rfl rfl) (lv_nilCheck rfl) 5 rfl rfl s (k () h)
     · intro _ S h s D p K k; exact d_lv1 (lkr p 5 rfl rfl) (lv_fieldAddr (o' := 2) Tryz.underlying139 rfl Tryz.sizeOf3 rfl rfl) 6 rfl rfl s (k () h)
     · intro _ S h s D p K k; exact d_lv1 (lkr p 6 rfl rfl) (lv_load Tryz.isAgg3 rfl (gives_blk (.tail _ (.head _)) rfl)) 7 rfl rfl s (k () h)
     · rintro _ S hF hS D hp K hK; try dsimp only
       exact d_lv2 (lkr hp 3 rfl rfl) (lkr hp 7 rfl rfl) (lv_indexAddr (k' := ax) Tryz.underlying137 Tryz.sizeOf159 rfl rfl hT.ok (by omega) (by omega) (by omega)) 8 rfl rfl hS (hK () hF)
     · intro _ S h s D p K k; exact d_lv1 (lkr p 8 rfl rfl) (lv_load Tryz.isAgg159 rfl (gives_sl (.tail _ (.tail _ (.head _))) (ptrs_get (by first | omega | (simp; omega))))) 9 rfl rfl s (k () h)
     · intro _ S h s D p K k; exact d_lv1 (look_b (t := 6) rfl rfl) (lv_move rfl) 10 rfl rfl s (k () h)
     · intro _ S h s D p K k; exact d_lv1 (look_b (t := 0) rfl rfl) (lv_move rfl) 11 rfl rfl s (k () h)
     · intro _ S h s D p K k; exact d_lv1 (lkr p 11 rfl rfl) (lv_nilCheck rfl) 12 rfl rfl s (k () h)
     · intro _ S h s D p K k; exact d_lv1 (lkr p 12 rfl rfl) (lv_fieldAddr (o' := 2) Tryz.underlying139 rfl Tryz.sizeOf3 rfl rfl) 13 rfl rfl s (k () h)
     · intro _ S h s D p K k; exact d_lv1 (lkr p 13 rfl rfl) (lv_load Tryz.isAgg3 rfl (gives_blk (.tail _ (.head _)) rfl)) 14 rfl rfl s (k () h)
     · rintro _ S hF hS D hp K hK; try dsimp only
       exact d_lv2 (lkr hp 10 rfl rfl) (lkr hp 14 rfl rfl) (lv_indexAddr (k' := ax) Tryz.underlying34 Tryz.sizeOf3 rfl rfl hbs (by omega) (by omega) (by omega)) 15 rfl rfl hS (hK () hF)
     · intro _ S h s D p K k; exact d_lv1 (lkr p 15 rfl rfl) (lv_load Tryz.isAgg3 rfl (gives_sl (.head _) (ints_get (by first | omega | (simp; omega))))) 16 rfl rfl s (k () h)
     · intro _ S h s D p K k; exact d_lv1 (lkr p 9 rfl rfl) (lv_assign rfl) 17 rfl rfl s (k () h)
     · intro _ S h s D p K k; exact d_lv1 (lkr p 16 rfl rfl) (lv_assign rfl) 18 rfl rfl s (k () h)
   · rintro _ hF
     try dsimp only at hF ⊢
     refine t_weak (E' := [(0, (vP p 0)), (6, (.slice bs ms.length cp)), (8, (vN k)), (9, (vP (ps.getD ax 0) 0)), (10, (.int .i64 ((cs).getD ax 0)))]) ⟨rfl, rfl, rfl, rfl, rfl, trivial⟩ ?_
     refine q_then_n (hK3 _ _ (c_seq (fun K4 hK4 => c_seq (fun K5 hK5 => t_f3 ?_))))
     refine t_takeM (i := ax) (by omega) (by omega) ?_
     refine c_region ?_
     by_cases hc1 : ((cs).getD ax 0) > 0 ∧ ((mx.getD ax M3.z).c) ≥ ((cs).getD ax 0)
     · have hc1a := hc1.1
       have hc1b := hc1.2
       refine tp rfl (lv_move rfl) (tp rfl (lv_gtr rfl rfl (decide_eq_true hc1.1)) (tp rfl (lv_move rfl) ?_))
       refine t_guard rfl rfl ?_
       refine tp rfl (lv_move rfl) ?_
       refine t_guard rfl rfl ?_
       refine tp rfl (lv_nilCheck rfl) ?_
       refine t_guard rfl rfl ?_
       refine tp rfl (lv_fieldAddr (o' := 2) Tryz.underlying161 rfl Tryz.sizeOf3 rfl rfl) ?_
       refine t_guard rfl rfl ?_
       refine tp rfl (lv_load Tryz.isAgg3 rfl (gives_blk (.head _) rfl)) ?_
       refine t_guard rfl rfl ?_
       refine tp rfl (lv_move rfl) ?_
       refine t_guard rfl rfl ?_
       refine tp rfl (lv_geq rfl rfl (decide_eq_true hc1.2)) (tp rfl (lv_pick_t rfl rfl) (t_done (q_then_n (hK5 _ _ (c_true rfl (c_seq (fun K6 hK6 => c_region (tp rfl (lv_move rfl) (tp rfl (lv_nilCheck rfl) (tp rfl (lv_fieldAddr (o' := 2) Tryz.underlying161 rfl Tryz.sizeOf3 rfl rfl) ?_))))))))))
       refine tp rfl (lv_load Tryz.isAgg3 rfl (gives_blk (.head _) rfl)) (tp rfl (lv_move rfl) (tp rfl (lv_sub (c := ((mx.getD ax M3.z).c) - ((cs).getD ax 0)) rfl rfl (wr_i64 (by omega) (by omega))) ?_))
       refine tp rfl (lv_nilCheck rfl) (tp rfl (lv_fieldAddr (o' := 2) Tryz.underlying161 rfl Tryz.sizeOf3 rfl rfl) ?_)
       refine ts (sv_blk Tryz.sizeOf3 rfl rfl rfl (Nat.le_of_ble_eq_true rfl) rfl) ?_
       refine t_done (q_then_n (hK6 _ _ (c_seq (fun K7 hK7 => c_region (tp rfl (lv_move rfl) (tp rfl (lv_nilCheck rfl) (tp rfl (lv_fieldAddr (o' := 0) Tryz.underlying161 rfl Tryz.sizeOf3 rfl rfl) (tp rfl (lv_load Tryz.isAgg3 rfl (gives_blk (.head _) rfl)) (tp rfl (lv_assign rfl) (tp rfl (lv_assign rfl) ?_))))))))))
       refine t_done (q_then_n (hK7 _ _ (c_ret ?_)))
       refine q_then_r ?_
       refine q_jump_r ?_
       have hr : rdyT cs (mx, ax) = true := rdyT_true.2 ⟨by show 0 < cs.getD ax 0; omega, by show cs.getD ax 0 ≤ (mx.getD ax M3.z).c; omega⟩
       refine t_f1 (t_f1 ?_)
       refine t_putM (c := ((mx.getD ax M3.z).c) - ((cs).getD ax 0)) (by omega) (by omega) ?_
       refine t_f3 (t_f3 ?_)
       refine t_shutTn (by rw [setC_len]; exact hlx) ((hT.of_inv hI).took (by omega) hr) ?_
       refine t_f1 (t_drop ?_)
       refine q_ret2 rfl rfl rfl ?_
       exact ⟨mx, ax, hI.red _ (.here hr), rfl, rfl⟩
     · refine t_cut0 (E' := [(0, (.pointer (some ⟨p, 0, none⟩))), (6, (.slice bs ms.length cp)), (8, (.int .i64 ((k : Nat) : Int))), (9, (.pointer (some ⟨(ps.getD ax 0), 0, none⟩))), (10, (.int .i64 ((cs).getD ax 0))), (45, (.bool false))]) ?_ (fun KK hKK => ?_)
       ·
        refine q_then_n (hK5 _ _ (c_false rfl (c_skip (q_then_n (hK4 _ _ (c_seq (fun K6 hK6 => c_seq (fun K7 hK7 => c_region ?_))))))))
        have hr : rdyT cs (mx, ax) = false := rdyT_false.2 (fun hw => by have hw2 : 0 < cs.getD ax 0 := hw; show (mx.getD ax M3.z).c < cs.getD ax 0; omega)
        have hz := hI.zfacts
        refine tp rfl (lv_move rfl) ?_
        by_cases h2 : ((cs).getD ax 0) = 0
        · refine tp rfl (lv_eql rfl rfl (beq_iff_eq.2 h2)) (t_done (q_then_n (hK7 _ _ (c_true rfl (c_region (tp rfl (lv_move rfl) (tp rfl (lv_nilCheck rfl) (tp rfl (lv_fieldAddr (o' := 2) Tryz.underlying161 rfl Tryz.sizeOf3 rfl rfl) ?_))))))))
          refine ts (sv_blk Tryz.sizeOf3 rfl rfl rfl (Nat.le_of_ble_eq_true rfl) rfl) ?_
          refine t_done (q_then_n (hK6 _ _ (c_seq (fun K8 hK8 => c_seq (fun K9 hK9 => c_region (t_f1 (t_f1 ?_)))))))
          refine t_putM (c := 0) (by omega) (by omega) ?_
          rw [show setC mx ax 0 = zeroT cs mx ax from by unfold zeroT; first | rw [if_pos (by omega)] | rw [if_neg (by omega)]]
          have hzl : (zeroT cs mx ax).length = ms.length := by rw [zeroT_len]; exact hlx
          refine tp rfl (lv_move rfl) (tp rfl (lv_add (c := ((k + 1 : Nat) : Int)) rfl rfl (wr_i64_succ (by omega))) ?_)
          refine tp rfl (lv_assign rfl) (t_done (q_then_n (hK9 _ _ (c_seq (fun K10 hK10 => c_region (tp rfl (lv_move rfl) (tp rfl (lv_move rfl) (tp rfl (lv_nilCheck rfl) (tp rfl (lv_fieldAddr (o' := 1) Tryz.underlying139 rfl Tryz.sizeOf137 rfl rfl) (tp rfl (lv_load Tryz.isAgg137 rfl (gives_blk (.tail _ (.tail _ (.head _))) rfl)) ?_))))))))))
          refine tp rfl (lv_len Tryz.underlying137 rfl rfl) ?_
          by_cases h3 : ((k + 1 : Nat) : Int) = ((ms.length : Nat) : Int)
          · refine tp rfl (lv_eql rfl rfl (beq_iff_eq.2 h3)) (t_done (q_then_n (hK10 _ _ (c_true rfl (c_region (tp rfl (lv_move rfl) (tp rfl (lv_move rfl) (t_f3 (t_f3 (t_f3 ?_))))))))))
            refine tc rfl (en_fn Tryz.call105 rfl) (skip_ok hTlp hzl hT.ok (by omega) hbs hcl (by omega) (fun i h1 h2 => (hI.low hr (by omega) i (by omega)).2.1 h2) hz hcb hany2) ?_
            rintro _ _ ⟨r, hub, hex, rfl, rfl⟩
            refine t_done (q_then_n (hK8 _ _ (c_seq (fun K11 hK11 => ?_))))
            have hnl := nxt_lt hal
            refine c_draw (γ := Unit) (n := 15) Tryz.mixed rfl rfl (fun _ S => True) (fun _ => [(0, 75, (vP p 0)), (1, 76, (vP p 0)), (2, 77, (vP p 0)), (3, 78, (vP p 2)), (4, 79, (vN ax)), (5, 80, (.int .i64 ((ax + 1 : Nat) : Int))), (6, 81, (vP p 0)), (7, 82, (vP p 0)), (8, 83, (vP p 1)), (9, 84, (.slice ba ms.length ca)), (10, 85, (vN ms.length)), (11, 86, (.int .i64 ((nxt ax ms.length : Nat) : Int))), (12, 87, (vP p 0)), (13, 88, (vP p 2))]) (fun _ S => (SlV 3 1 (.slice bs ms.length cp) ms.length (ints .i64 cs)) :: (bif S 14 then (Blk p [(.int .i64 q), (.slice ba ms.length ca), (.int .i64 ((nxt ax ms.length : Nat) : Int))] 139) else (Blk p [(.int .i64 q), (.slice ba ms.length ca), (vN ax)] 139)) :: (SlV 159 1 (.slice ba ms.length ca) ms.length (recs ptrF ps)) :: (Join (mems ps (bumpF q cs (fun _ => ((r : Nat) : Int)) (zeroT cs mx ax)))) :: R) (()) trivial (fun _ h => h) (fun _ _ h => h) ?_ ?_
            · refine ⟨?_, ?_, ?_, ?_, ?_, ?_, ?_, ?_, ?_, ?_, ?_, ?_, ?_, ?_, ?_, trivial⟩
              · intro _ S h s D p K k; exact d_lv1 (look_b (t := 0) rfl rfl) (lv_move rfl) 0 rfl rfl s (k () h)
              · intro _ S h s D p K k; exact d_lv1 (look_b (t := 0) rfl rfl) (lv_move rfl) 1 rfl rfl s (k () h)
              · intro _ S h s D p K k; exact d_lv1 (lkr p 1 rfl rfl) (lv_nilCheck rfl) 2 rfl rfl s (k () h)
              · intro _ S h s D p K k; exact d_lv1 (lkr p 2 rfl rfl) (lv_fieldAddr (o' := 2) Tryz.underlying139 rfl Tryz.sizeOf3 rfl rfl) 3 rfl rfl s (k () h)
              · rintro _ S hF hS D hp K hK; try dsimp only
                exact d_lv1 (lkr hp 3 rfl rfl) (lv_load Tryz.isAgg3 rfl (gives_blk (mem_cF (nf hS D (k := 14) (i := 4) rfl) (.tail _ (.head _))) rfl)) 4 rfl rfl hS (hK () hF)
              · intro _ S h s D p K k; exact d_lv1 (lkr p 4 rfl rfl) (lv_add (c := ((ax + 1 : Nat) : Int)) rfl rfl (wr_i64_succ (by omega))) 5 rfl rfl s (k () h)
              · intro _ S h s D p K k; exact d_lv1 (look_b (t := 0) rfl rfl) (lv_move rfl) 6 rfl rfl s (k () h)
              · intro _ S h s D p K k; exact d_lv1 (lkr p 6 rfl rfl) (lv_nilCheck rfl) 7 rfl rfl s (k () h)
              · intro _ S h s D p K k; exact d_lv1 (lkr p 7 rfl rfl) (lv_fieldAddr (o' := 1) Tryz.underlying139 rfl Tryz.sizeOf137 rfl rfl) 8 rfl rfl s (k () h)
              · rintro _ S hF hS D hp K hK; try dsimp only
                exact d_lv1 (lkr hp 8 rfl rfl) (lv_load Tryz.isAgg137 rfl (gives_blk (mem_cF (nf hS D (k := 14) (i := 9) rfl) (.tail _ (.head _))) rfl)) 9 rfl rfl hS (hK () hF)
              · intro _ S h s D p K k; exact d_lv1 (lkr p 9 rfl rfl) (lv_len Tryz.underlying137 rfl rfl) 10 rfl rfl s (k () h)
              · intro _ S h s D p K k; exact d_lv2 (lkr p 5 rfl rfl) (lkr p 10 rfl rfl) (lv_rem (c := ((nxt ax ms.length : Nat) : Int)) rfl rfl (by omega) (nxt_mod hal)) 11 rfl rfl s (k () h)
              · intro _ S h s D p K k; exact d_lv1 (lkr p 0 rfl rfl) (lv_nilCheck rfl) 12 rfl rfl s (k () h)
              · intro _ S h s D p K k; exact d_lv1 (lkr p 12 rfl rfl) (lv_fieldAddr (o' := 2) Tryz.underlying139 rfl Tryz.sizeOf3 rfl rfl) 13 rfl rfl s (k () h)
              · rintro _ S hF hS D hp K hK
                try dsimp only at hF ⊢
                have s11 := hp 11 rfl
                have s13 := hp 13 rfl
                refine d_need (small := [(86, (.int .i64 ((nxt ax ms.length : Nat) : Int))), (88, (vP p 2))]) ⟨look_row rfl 11 rfl s11, look_row rfl 13 rfl s13, trivial⟩ ?_
                refine t_f1 ?_
                refine t_cF hS ?_
                refine ts (sv_blk Tryz.sizeOf3 rfl rfl rfl (Nat.le_of_ble_eq_true rfl) rfl) ?_
                refine t_f1 ?_
                exact d_closes0 ⟨look_row rfl 11 rfl s11, look_row rfl 13 rfl s13, trivial⟩ rfl (t_sat (fun _ h => h) (hK () trivial))
            · rintro _ hF
              try dsimp only at hF ⊢
              refine t_weak (E' := [(0, (vP p 0)), (6, (.slice bs ms.length cp)), (8, (.int .i64 ((k + 1 : Nat) : Int))), (9, (vP (ps.getD ax 0) 0)), (10, (.int .i64 ((cs).getD ax 0))), (45, (.bool false)), (59, (.bool true)), (71, (.bool true))]) ⟨rfl, rfl, rfl, rfl, rfl, rfl, rfl, rfl, trivial⟩ ?_
              refine q_then_n (hK11 _ _ (c_seq (fun K12 hK12 => c_seq (fun K13 hK13 => c_region (tp rfl (lv_move rfl) (tp rfl (lv_move rfl) (tp rfl (lv_nilCheck rfl) (tp rfl (lv_fieldAddr (o' := 2) Tryz.underlying139 rfl Tryz.sizeOf3 rfl rfl) (tp rfl (lv_load Tryz.isAgg3 rfl (gives_blk (.tail _ (.head _)) rfl)) (tp rfl (lv_indexAddr (k' := nxt ax ms.length) Tryz.underlying34 Tryz.sizeOf3 rfl rfl hbs (by omega) (by omega) (by omega)) ?_))))))))))
              refine tp rfl (lv_load Tryz.isAgg3 rfl (gives_sl (.head _) (ints_get (by first | omega | (simp; omega))))) ?_
              by_cases h4 : ((cs).getD (nxt ax ms.length) 0) > 0
              · refine tp rfl (lv_gtr rfl rfl (decide_eq_true h4)) (t_done (q_then_n (hK13 _ _ (c_true rfl ?_))))
                have hbl : (bumpF q cs (fun _ => ((r : Nat) : Int)) (zeroT cs mx ax)).length = ms.length := by rw [bumpF_len]; exact hzl
                have hzj := hz (nxt ax ms.length) hnl
                have hubj := hub (nxt ax ms.length) hnl (by omega)
                have hcbj := hcb (nxt ax ms.length)
                have hrg : 0 ≤ ((r : Nat) : Int) * (q * ((zeroT cs mx ax).getD (nxt ax ms.length) M3.z).w) := Int.mul_nonneg (by omega) (by omega)
                have hgj : (bumpF q cs (fun _ => ((r : Nat) : Int)) (zeroT cs mx ax)).getD (nxt ax ms.length) M3.z = ⟨((zeroT cs mx ax).getD (nxt ax ms.length) M3.z).id, ((zeroT cs mx ax).getD (nxt ax ms.length) M3.z).w, ((zeroT cs mx ax).getD (nxt ax ms.length) M3.z).c + ((r : Nat) : Int) * (q * ((zeroT cs mx ax).getD (nxt ax ms.length) M3.z).w)⟩ := by rw [bumpF_get (by omega), if_pos (by omega)]
                have hw1 : 0 ≤ q * ((bumpF q cs (fun _ => ((r : Nat) : Int)) (zeroT cs mx ax)).getD (nxt ax ms.length) M3.z).w ∧ q * ((bumpF q cs (fun _ => ((r : Nat) : Int)) (zeroT cs mx ax)).getD (nxt ax ms.length) M3.z).w ≤ 104857600 ∧ 0 ≤ ((bumpF q cs (fun _ => ((r : Nat) : Int)) (zeroT cs mx ax)).getD (nxt ax ms.length) M3.z).c ∧ ((bumpF q cs (fun _ => ((r : Nat) : Int)) (zeroT cs mx ax)).getD (nxt ax ms.length) M3.z).c ≤ 1048576 := by rw [hgj]; dsimp only; omega
                refine t_f3 ?_
                refine t_takeM (i := (nxt ax ms.length)) (by omega) (by omega) ?_
                refine c_draw (γ := Unit) (n := 29) Tryz.mixed rfl rfl (fun _ S => True) (fun _ => [(0, 97, (vP p 0)), (1, 98, (vP p 0)), (2, 99, (vP p 1)), (3, 100, (.slice ba ms.length ca)), (4, 101, (vP p 0)), (5, 102, (vP p 0)), (6, 103, (vP p 2)), (7, 104, (.int .i64 ((nxt ax ms.length : Nat) : Int))), (8, 105, (.pointer (some (ad ba (nxt ax ms.length))))), (9, 106, (vP (ps.getD (nxt ax ms.length) 0) 0)), (10, 107, (vP (ps.getD (nxt ax ms.length) 0) 0)), (11, 108, (vP (ps.getD (nxt ax ms.length) 0) 2)), (12, 109, (.int .i64 (((bumpF q cs (fun _ => ((r : Nat) : Int)) (zeroT cs mx ax)).getD (nxt ax ms.length) M3.z).c))), (13, 110, (vP p 0)), (14, 111, (vP p 0)), (15, 112, (vP p 0)), (16, 113, (vP p 1)), (17, 114, (.slice ba ms.length ca)), (18, 115, (vP p 0)), (19, 116, (vP p 0)), (20, 117, (vP p 2)), (21, 118, (.int .i64 ((nxt ax ms.length : Nat) : Int))), (22, 119, (.pointer (some (ad ba (nxt ax ms.length))))), (23, 120, (vP (ps.getD (nxt ax ms.length) 0) 0)), (24, 121, (.int .i64 (q * (((bumpF q cs (fun _ => ((r : Nat) : Int)) (zeroT cs mx ax)).getD (nxt ax ms.length) M3.z).w)))), (25, 122, (.int .i64 ((((bumpF q cs (fun _ => ((r : Nat) : Int)) (zeroT cs mx ax)).getD (nxt ax ms.length) M3.z).c) + (q * (((bumpF q cs (fun _ => ((r : Nat) : Int)) (zeroT cs mx ax)).getD (nxt ax ms.length) M3.z).w))))), (26, 123, (vP (ps.getD (nxt ax ms.length) 0) 0)), (27, 124, (vP (ps.getD (nxt ax ms.length) 0) 2))]) (fun _ S => (bif S 28 then (Blk (ps.getD (nxt ax ms.length) 0) [(.int .i64 (((bumpF q cs (fun _ => ((r : Nat) : Int)) (zeroT cs mx ax)).getD (nxt ax ms.length) M3.z).id)), (.int .i64 (((bumpF q cs (fun _ => ((r : Nat) : Int)) (zeroT cs mx ax)).getD (nxt ax ms.length) M3.z).w)), (.int .i64 ((((bumpF q cs (fun _ => ((r : Nat) : Int)) (zeroT cs mx ax)).getD (nxt ax ms.length) M3.z).c) + (q * (((bumpF q cs (fun _ => ((r : Nat) : Int)) (zeroT cs mx ax)).getD (nxt ax ms.length) M3.z).w))))] 161) else (Blk (ps.getD (nxt ax ms.length) 0) [(.int .i64 (((bumpF q cs (fun _ => ((r : Nat) : Int)) (zeroT cs mx ax)).getD (nxt ax ms.length) M3.z).id)), (.int .i64 (((bumpF q cs (fun _ => ((r : Nat) : Int)) (zeroT cs mx ax)).getD (nxt ax ms.length) M3.z).w)), (.int .i64 (((bumpF q cs (fun _ => ((r : Nat) : Int)) (zeroT cs mx ax)).getD (nxt ax ms.length) M3.z).c))] 161)) :: (Join (mems (ps.eraseIdx (nxt ax ms.length)) ((bumpF q cs (fun _ => ((r : Nat) : Int)) (zeroT cs mx ax)).eraseIdx (nxt ax ms.length)))) :: (SlV 3 1 (.slice bs ms.length cp) ms.length (ints .i64 cs)) :: (Blk p [(.int .i64 q), (.slice ba ms.length ca), (.int .i64 ((nxt ax ms.length : Nat) : Int))] 139) :: (SlV 159 1 (.slice ba ms.length ca) ms.length (recs ptrF ps)) :: R) (()) trivial (fun _ h => h) (fun _ _ h => h) ?_ ?_
                · refine ⟨?_, ?_, ?_, ?_, ?_, ?_, ?_, ?_, ?_, ?_, ?_, ?_, ?_, ?_, ?_, ?_, ?_, ?_, ?_, ?_, ?_, ?_, ?_, ?_, ?_, ?_, ?_, ?_, ?_, trivial⟩
                  · intro _ S h s D p K k; exact d_lv1 (look_b (t := 0) rfl rfl) (lv_move rfl) 0 rfl rfl s (k () h)
                  · intro _ S h s D p K k; exact d_lv1 (lkr p 0 rfl rfl) (lv_nilCheck rfl) 1 rfl rfl s (k () h)
                  · intro _ S h s D p K k; exact d_lv1 (lkr p 1 rfl rfl) (lv_fieldAddr (o' := 1) Tryz.underlying139 rfl Tryz.sizeOf137 rfl rfl) 2 rfl rfl s (k () h)
                  · intro _ S h s D p K k; exact d_lv1 (lkr p 2 rfl rfl) (lv_load Tryz.isAgg137 rfl (gives_blk (.tail _ (.tail _ (.tail _ (.head _)))) rfl)) 3 rfl rfl s (k () h)
                  · intro _ S h s D p K k; exact d_lv1 (look_b (t := 0) rfl rfl) (lv_move rfl) 4 rfl rfl s (k () h)
                  · intro _ S h s D p K k; exact d_lv1 (lkr p 4 rfl rfl) (lv_nilCheck rfl) 5 rfl rfl s (k () h)
                  · intro _ S h s D p K k; exact d_lv1 (lkr p 5 rfl rfl) (lv_fieldAddr (o' := 2) Tryz.underlying139 rfl Tryz.sizeOf3 rfl rfl) 6 rfl rfl s (k () h)
                  · intro _ S h s D p K k; exact d_lv1 (lkr p 6 rfl rfl) (lv_load Tryz.isAgg3 rfl (gives_blk (.tail _ (.tail _ (.tail _ (.head _)))) rfl)) 7 rfl rfl s (k () h)
                  · rintro _ S hF hS D hp K hK; try dsimp only
                    exact d_lv2 (lkr hp 3 rfl rfl) (lkr hp 7 rfl rfl) (lv_indexAddr (k' := nxt ax ms.length) Tryz.underlying137 Tryz.sizeOf159 rfl rfl hT.ok (by omega) (by omega) (by omega)) 8 rfl rfl hS (hK () hF)
                  · intro _ S h s D p K k; exact d_lv1 (lkr p 8 rfl rfl) (lv_load Tryz.isAgg159 rfl (gives_sl (.tail _ (.tail _ (.tail _ (.tail _ (.head _))))) (ptrs_get (by first | omega | (simp; omega))))) 9 rfl rfl s (k () h)
                  · intro _ S h s D p K k; exact d_lv1 (lkr p 9 rfl rfl) (lv_nilCheck rfl) 10 rfl rfl s (k () h)
                  · intro _ S h s D p K k; exact d_lv1 (lkr p 10 rfl rfl) (lv_fieldAddr (o' := 2) Tryz.underlying161 rfl Tryz.sizeOf3 rfl rfl) 11 rfl rfl s (k () h)
                  · rintro _ S hF hS D hp K hK; try dsimp only
                    exact d_lv1 (lkr hp 11 rfl rfl) (lv_load Tryz.isAgg3 rfl (gives_blk (mem_cF (nf hS D (k := 28) (i := 12) rfl) (.head _)) rfl)) 12 rfl rfl hS (hK () hF)
                  · intro _ S h s D p K k; exact d_lv1 (look_b (t := 0) rfl rfl) (lv_move rfl) 13 rfl rfl s (k () h)
                  · intro _ S h s D p K k; exact d_lv1 (look_b (t := 0) rfl rfl) (lv_move rfl) 14 rfl rfl s (k () h)
                  · intro _ S h s D p K k; exact d_lv1 (lkr p 14 rfl rfl) (lv_nilCheck rfl) 15 rfl rfl s (k () h)
                  · intro _ S h s D p K k; exact d_lv1 (lkr p 15 rfl rfl) (lv_fieldAddr (o' := 1) Tryz.underlying139 rfl Tryz.sizeOf137 rfl rfl) 16 rfl rfl s (k () h)
                  · intro _ S h s D p K k; exact d_lv1 (lkr p 16 rfl rfl) (lv_load Tryz.isAgg137 rfl (gives_blk (.tail _ (.tail _ (.tail _ (.head _)))) rfl)) 17 rfl rfl s (k () h)
                  · intro _ S h s D p K k; exact d_lv1 (look_b (t := 0) rfl rfl) (lv_move rfl) 18 rfl rfl s (k () h)
                  · intro _ S h s D p K k; exact d_lv1 (lkr p 18 rfl rfl) (lv_nilCheck rfl) 19 rfl rfl s (k () h)
                  · intro _ S h s D p K k; exact d_lv1 (lkr p 19 rfl rfl) (lv_fieldAddr (o' := 2) Tryz.underlying139 rfl Tryz.sizeOf3 rfl rfl) 20 rfl rfl s (k () h)
                  · intro _ S h s D p K k; exact d_lv1 (lkr p 20 rfl rfl) (lv_load Tryz.isAgg3 rfl (gives_blk (.tail _ (.tail _ (.tail _ (.head _)))) rfl)) 21 rfl rfl s (k () h)
                  · rintro _ S hF hS D hp K hK; try dsimp only
                    exact d_lv2 (lkr hp 17 rfl rfl) (lkr hp 21 rfl rfl) (lv_indexAddr (k' := nxt ax ms.length) Tryz.underlying137 Tryz.sizeOf159 rfl rfl hT.ok (by omega) (by omega) (by omega)) 22 rfl rfl hS (hK () hF)
                  · intro _ S h s D p K k; exact d_lv1 (lkr p 22 rfl rfl) (lv_load Tryz.isAgg159 rfl (gives_sl (.tail _ (.tail _ (.tail _ (.tail _ (.head _))))) (ptrs_get (by first | omega | (simp; omega))))) 23 rfl rfl s (k () h)
                  · rintro _ S hF hS D hp K hK
                    try dsimp only at hF ⊢
                    have s13 := hp 13 rfl
                    have s23 := hp 23 rfl
                    refine d_need (small := [(110, (vP p 0)), (120, (vP (ps.getD (nxt ax ms.length) 0) 0))]) ⟨look_row rfl 13 rfl s13, look_row rfl 23 rfl s23, trivial⟩ ?_
                    refine t_cF (nf hS D (k := 28) (i := 24) rfl) ?_
                    refine t_f3 ?_
                    refine tc rfl (en_fn Tryz.call106 rfl) (gain_ok (by omega)) ?_
                    rintro _ _ ⟨rfl, rfl⟩
                    refine t_f1 ?_
                    refine t_wF (A := (Blk (ps.getD (nxt ax ms.length) 0) [(.int .i64 (((bumpF q cs (fun _ => ((r : Nat) : Int)) (zeroT cs mx ax)).getD (nxt ax ms.length) M3.z).id)), (.int .i64 (((bumpF q cs (fun _ => ((r : Nat) : Int)) (zeroT cs mx ax)).getD (nxt ax ms.length) M3.z).w)), (.int .i64 ((((bumpF q cs (fun _ => ((r : Nat) : Int)) (zeroT cs mx ax)).getD (nxt ax ms.length) M3.z).c) + (q * (((bumpF q cs (fun _ => ((r : Nat) : Int)) (zeroT cs mx ax)).getD (nxt ax ms.length) M3.z).w))))] 161)) (nf hS D (k := 28) (i := 24) rfl) ?_
                    refine t_f1 (t_f3 (t_f3 (t_f3 ?_)))
                    exact d_closes ⟨look_row rfl 13 rfl s13, look_row rfl 23 rfl s23, trivial⟩ 24 rfl rfl rfl hS (AgreeR.refl _) (t_sat (fun _ h => h) (hK () trivial))
                  · intro _ S h s D p K k; exact d_lv2 (lkr p 12 rfl rfl) (lkr p 24 rfl rfl) (lv_add (c := (((bumpF q cs (fun _ => ((r : Nat) : Int)) (zeroT cs mx ax)).getD (nxt ax ms.length) M3.z).c) + (q * (((bumpF q cs (fun _ => ((r : Nat) : Int)) (zeroT cs mx ax)).getD (nxt ax ms.length) M3.z).w))) rfl rfl (wr_i64 (by omega) (by omega))) 25 rfl rfl s (k () h)
                  · intro _ S h s D p K k; exact d_lv1 (lkr p 9 rfl rfl) (lv_nilCheck rfl) 26 rfl rfl s (k () h)
                  · intro _ S h s D p K k; exact d_lv1 (lkr p 26 rfl rfl) (lv_fieldAddr (o' := 2) Tryz.underlying161 rfl Tryz.sizeOf3 rfl rfl) 27 rfl rfl s (k () h)
                  · rintro _ S hF hS D hp K hK
                    try dsimp only at hF ⊢
                    have s25 := hp 25 rfl
                    have s27 := hp 27 rfl
                    refine d_need (small := [(122, (.int .i64 ((((bumpF q cs (fun _ => ((r : Nat) : Int)) (zeroT cs mx ax)).getD (nxt ax ms.length) M3.z).c) + (q * (((bumpF q cs (fun _ => ((r : Nat) : Int)) (zeroT cs mx ax)).getD (nxt ax ms.length) M3.z).w))))), (124, (vP (ps.getD (nxt ax ms.length) 0) 2))]) ⟨look_row rfl 25 rfl s25, look_row rfl 27 rfl s27, trivial⟩ ?_
                    refine t_cF hS ?_
                    refine ts (sv_blk Tryz.sizeOf3 rfl rfl rfl (Nat.le_of_ble_eq_true rfl) rfl) ?_
                    exact d_closes0 ⟨look_row rfl 25 rfl s25, look_row rfl 27 rfl s27, trivial⟩ rfl (t_sat (fun _ h => h) (hK () trivial))
                · rintro _ hF
                  try dsimp only at hF ⊢
                  refine t_weak (E' := [(0, (vP p 0)), (6, (.slice bs ms.length cp)), (8, (.int .i64 ((k + 1 : Nat) : Int))), (9, (vP (ps.getD ax 0) 0)), (10, (.int .i64 ((cs).getD ax 0))), (45, (.bool false)), (59, (.bool true)), (71, (.bool true)), (96, (.bool true))]) ⟨rfl, rfl, rfl, rfl, rfl, rfl, rfl, rfl, rfl, trivial⟩ ?_
                  refine q_then_n (hK12 _ _ ?_)
                  refine c_goto ?_
                  refine q_jump_g ?_
                  refine t_f1 (t_f1 ?_)
                  refine t_putM (c := (((bumpF q cs (fun _ => ((r : Nat) : Int)) (zeroT cs mx ax)).getD (nxt ax ms.length) M3.z).c) + (q * (((bumpF q cs (fun _ => ((r : Nat) : Int)) (zeroT cs mx ax)).getD (nxt ax ms.length) M3.z).w))) (by omega) (by omega) ?_
                  rw [show setC (bumpF q cs (fun _ => ((r : Nat) : Int)) (zeroT cs mx ax)) (nxt ax ms.length) ((((bumpF q cs (fun _ => ((r : Nat) : Int)) (zeroT cs mx ax)).getD (nxt ax ms.length) M3.z).c) + (q * (((bumpF q cs (fun _ => ((r : Nat) : Int)) (zeroT cs mx ax)).getD (nxt ax ms.length) M3.z).w))) = gainT q cs (bumpF q cs (fun _ => ((r : Nat) : Int)) (zeroT cs mx ax)) (nxt ax ms.length) from by unfold gainT; rw [if_pos (by omega)]]
                  refine t_f3 (t_f3 (t_f3 ?_))
                  exact t_weak (by exact ⟨rfl, rfl, rfl, trivial⟩) (hK2 (bs, cp, gainT q cs (bumpF q cs (fun _ => ((r : Nat) : Int)) (zeroT cs mx ax)) (nxt ax ms.length), nxt ax ms.length, k + 1) ⟨hI.skip hr (by omega) r hub hex, hbs⟩ (by dsimp only; have := hI.k2; omega))
              · refine tp rfl (lv_gtr rfl rfl (decide_eq_false h4)) (t_done (q_then_n (hK13 _ _ (c_false rfl (c_skip (q_then_n (hK12 _ _ ?_)))))))
                refine c_goto ?_
                refine q_jump_g ?_
                rw [show bumpF q cs (fun _ => ((r : Nat) : Int)) (zeroT cs mx ax) = gainT q cs (bumpF q cs (fun _ => ((r : Nat) : Int)) (zeroT cs mx ax)) (nxt ax ms.length) from by unfold gainT; rw [if_neg (by omega)]]
                exact t_weak (by exact ⟨rfl, rfl, rfl, trivial⟩) (hK2 (bs, cp, gainT q cs (bumpF q cs (fun _ => ((r : Nat) : Int)) (zeroT cs mx ax)) (nxt ax ms.length), nxt ax ms.length, k + 1) ⟨hI.skip hr (by omega) r hub hex, hbs⟩ (by dsimp only; have := hI.k2; omega))
          · refine tp rfl (lv_eql rfl rfl (beq_eq_false_iff_ne.2 h3)) (t_done (q_then_n (hK10 _ _ (c_false rfl (c_skip (q_then_n (hK8 _ _ (c_seq (fun K11 hK11 => ?_)))))))))
            have hnl := nxt_lt hal
            refine c_draw (γ := Unit) (n := 15) Tryz.mixed rfl rfl (fun _ S => True) (fun _ => [(0, 75, (vP p 0)), (1, 76, (vP p 0)), (2, 77, (vP p 0)), (3, 78, (vP p 2)), (4, 79, (vN ax)), (5, 80, (.int .i64 ((ax + 1 : Nat) : Int))), (6, 81, (vP p 0)), (7, 82, (vP p 0)), (8, 83, (vP p 1)), (9, 84, (.slice ba ms.length ca)), (10, 85, (vN ms.length)), (11, 86, (.int .i64 ((nxt ax ms.length : Nat) : Int))), (12, 87, (vP p 0)), (13, 88, (vP p 2))]) (fun _ S => (Join (mems ps (zeroT cs mx ax))) :: (SlV 3 1 (.slice bs ms.length cp) ms.length (ints .i64 cs)) :: (bif S 14 then (Blk p [(.int .i64 q), (.slice ba ms.length ca), (.int .i64 ((nxt ax ms.length : Nat) : Int))] 139) else (Blk p [(.int .i64 q), (.slice ba ms.length ca), (vN ax)] 139)) :: (SlV 159 1 (.slice ba ms.length ca) ms.length (recs ptrF ps)) :: R) (()) trivial (fun _ h => h) (fun _ _ h => h) ?_ ?_
            · refine ⟨?_, ?_, ?_, ?_, ?_, ?_, ?_, ?_, ?_, ?_, ?_, ?_, ?_, ?_, ?_, trivial⟩
              · intro _ S h s D p K k; exact d_lv1 (look_b (t := 0) rfl rfl) (lv_move rfl) 0 rfl rfl s (k () h)
              · intro _ S h s D p K k; exact d_lv1 (look_b (t := 0) rfl rfl) (lv_move rfl) 1 rfl rfl s (k () h)
              · intro _ S h s D p K k; exact d_lv1 (lkr p 1 rfl rfl) (lv_nilCheck rfl) 2 rfl rfl s (k () h)
              · intro _ S h s D p K k; exact d_lv1 (lkr p 2 rfl rfl) (lv_fieldAddr (o' := 2) Tryz.underlying139 rfl Tryz.sizeOf3 rfl rfl) 3 rfl rfl s (k () h)
              · rintro _ S hF hS D hp K hK; try dsimp only
                exact d_lv1 (lkr hp 3 rfl rfl) (lv_load Tryz.isAgg3 rfl (gives_blk (mem_cF (nf hS D (k := 14) (i := 4) rfl) (.tail _ (.tail _ (.head _)))) rfl)) 4 rfl rfl hS (hK () hF)
              · intro _ S h s D p K k; exact d_lv1 (lkr p 4 rfl rfl) (lv_add (c := ((ax + 1 : Nat) : Int)) rfl rfl (wr_i64_succ (by omega))) 5 rfl rfl s (k () h)
              · intro _ S h s D p K k; exact d_lv1 (look_b (t := 0) rfl rfl) (lv_move rfl) 6 rfl rfl s (k () h)
              · intro _ S h s D p K k; exact d_lv1 (lkr p 6 rfl rfl) (lv_nilCheck rfl) 7 rfl rfl s (k () h)
              · intro _ S h s D p K k; exact d_lv1 (lkr p 7 rfl rfl) (lv_fieldAddr (o' := 1) Tryz.underlying139 rfl Tryz.sizeOf137 rfl rfl) 8 rfl rfl s (k () h)
              · rintro _ S hF hS D hp K hK; try dsimp only
                exact d_lv1 (lkr hp 8 rfl rfl) (lv_load Tryz.isAgg137 rfl (gives_blk (mem_cF (nf hS D (k := 14) (i := 9) rfl) (.tail _ (.tail _ (.head _)))) rfl)) 9 rfl rfl hS (hK () hF)
              · intro _ S h s D p K k; exact d_lv1 (lkr p 9 rfl rfl) (lv_len Tryz.underlying137 rfl rfl) 10 rfl rfl s (k () h)
              · intro _ S h s D p K k; exact d_lv2 (lkr p 5 rfl rfl) (lkr p 10 rfl rfl) (lv_rem (c := ((nxt ax ms.length : Nat) : Int)) rfl rfl (by omega) (nxt_mod hal)) 11 rfl rfl s (k () h)
              · intro _ S h s D p K k; exact d_lv1 (lkr p 0 rfl rfl) (lv_nilCheck rfl) 12 rfl rfl s (k () h)
              · intro _ S h s D p K k; exact d_lv1 (lkr p 12 rfl rfl) (lv_fieldAddr (o' := 2) Tryz.underlying139 rfl Tryz.sizeOf3 rfl rfl) 13 rfl rfl s (k () h)
              · rintro _ S hF hS D hp K hK
                try dsimp only at hF ⊢
                have s11 := hp 11 rfl
                have s13 := hp 13 rfl
                refine d_need (small := [(86, (.int .i64 ((nxt ax ms.length : Nat) : Int))), (88, (vP p 2))]) ⟨look_row rfl 11 rfl s11, look_row rfl 13 rfl s13, trivial⟩ ?_
                refine t_f2 ?_
                refine t_cF hS ?_
                refine ts (sv_blk Tryz.sizeOf3 rfl rfl rfl (Nat.le_of_ble_eq_true rfl) rfl) ?_
                refine t_f2 (t_f2 ?_)
                exact d_closes0 ⟨look_row rfl 11 rfl s11, look_row rfl 13 rfl s13, trivial⟩ rfl (t_sat (fun _ h => h) (hK () trivial))
            · rintro _ hF
              try dsimp only at hF ⊢
              refine t_weak (E' := [(0, (vP p 0)), (6, (.slice bs ms.length cp)), (8, (.int .i64 ((k + 1 : Nat) : Int))), (9, (vP (ps.getD ax 0) 0)), (10, (.int .i64 ((cs).getD ax 0))), (45, (.bool false)), (59, (.bool true)), (71, (.bool false))]) ⟨rfl, rfl, rfl, rfl, rfl, rfl, rfl, rfl, trivial⟩ ?_
              refine q_then_n (hK11 _ _ (c_seq (fun K12 hK12 => c_seq (fun K13 hK13 => c_region (tp rfl (lv_move rfl) (tp rfl (lv_move rfl) (tp rfl (lv_nilCheck rfl) (tp rfl (lv_fieldAddr (o' := 2) Tryz.underlying139 rfl Tryz.sizeOf3 rfl rfl) (tp rfl (lv_load Tryz.isAgg3 rfl (gives_blk (.tail _ (.tail _ (.head _))) rfl)) (tp rfl (lv_indexAddr (k' := nxt ax ms.length) Tryz.underlying34 Tryz.sizeOf3 rfl rfl hbs (by omega) (by omega) (by omega)) ?_))))))))))
              refine tp rfl (lv_load Tryz.isAgg3 rfl (gives_sl (.tail _ (.head _)) (ints_get (by first | omega | (simp; omega))))) ?_
              by_cases h5 : ((cs).getD (nxt ax ms.length) 0) > 0
              · refine tp rfl (lv_gtr rfl rfl (decide_eq_true h5)) (t_done (q_then_n (hK13 _ _ (c_true rfl ?_))))
                have hw1 := hz (nxt ax ms.length) hnl
                refine t_takeM (i := (nxt ax ms.length)) (by omega) (by omega) ?_
                refine c_draw (γ := Unit) (n := 29) Tryz.mixed rfl rfl (fun _ S => True) (fun _ => [(0, 97, (vP p 0)), (1, 98, (vP p 0)), (2, 99, (vP p 1)), (3, 100, (.slice ba ms.length ca)), (4, 101, (vP p 0)), (5, 102, (vP p 0)), (6, 103, (vP p 2)), (7, 104, (.int .i64 ((nxt ax ms.length : Nat) : Int))), (8, 105, (.pointer (some (ad ba (nxt ax ms.length))))), (9, 106, (vP (ps.getD (nxt ax ms.length) 0) 0)), (10, 107, (vP (ps.getD (nxt ax ms.length) 0) 0)), (11, 108, (vP (ps.getD (nxt ax ms.length) 0) 2)), (12, 109, (.int .i64 (((zeroT cs mx ax).getD (nxt ax ms.length) M3.z).c))), (13, 110, (vP p 0)), (14, 111, (vP p 0)), (15, 112, (vP p 0)), (16, 113, (vP p 1)), (17, 114, (.slice ba ms.length ca)), (18, 115, (vP p 0)), (19, 116, (vP p 0)), (20, 117, (vP p 2)), (21, 118, (.int .i64 ((nxt ax ms.length : Nat) : Int))), (22, 119, (.pointer (some (ad ba (nxt ax ms.length))))), (23, 120, (vP (ps.getD (nxt ax ms.length) 0) 0)), (24, 121, (.int .i64 (q * (((zeroT cs mx ax).getD (nxt ax ms.length) M3.z).w)))), (25, 122, (.int .i64 ((((zeroT cs mx ax).getD (nxt ax ms.length) M3.z).c) + (q * (((zeroT cs mx ax).getD (nxt ax ms.length) M3.z).w))))), (26, 123, (vP (ps.getD (nxt ax ms.length) 0) 0)), (27, 124, (vP (ps.getD (nxt ax ms.length) 0) 2))]) (fun _ S => (bif S 28 then (Blk (ps.getD (nxt ax ms.length) 0) [(.int .i64 (((zeroT cs mx ax).getD (nxt ax ms.length) M3.z).id)), (.int .i64 (((zeroT cs mx ax).getD (nxt ax ms.length) M3.z).w)), (.int .i64 ((((zeroT cs mx ax).getD (nxt ax ms.length) M3.z).c) + (q * (((zeroT cs mx ax).getD (nxt ax ms.length) M3.z).w))))] 161) else (Blk (ps.getD (nxt ax ms.length) 0) [(.int .i64 (((zeroT cs mx ax).getD (nxt ax ms.length) M3.z).id)), (.int .i64 (((zeroT cs mx ax).getD (nxt ax ms.length) M3.z).w)), (.int .i64 (((zeroT cs mx ax).getD (nxt ax ms.length) M3.z).c))] 161)) :: (Join (mems (ps.eraseIdx (nxt ax ms.length)) ((zeroT cs mx ax).eraseIdx (nxt ax ms.length)))) :: (SlV 3 1 (.slice bs ms.length cp) ms.length (ints .i64 cs)) :: (Blk p [(.int .i64 q), (.slice ba ms.length ca), (.int .i64 ((nxt ax ms.length : Nat) : Int))] 139) :: (SlV 159 1 (.slice ba ms.length ca) ms.length (recs ptrF ps)) :: R) (()) trivial (fun _ h => h) (fun _ _ h => h) ?_ ?_
                · refine ⟨?_, ?_, ?_, ?_, ?_, ?_, ?_, ?_, ?_, ?_, ?_, ?_, ?_, ?_, ?_, ?_, ?_, ?_, ?_, ?_, ?_, ?_, ?_, ?_, ?_, ?_, ?_, ?_, ?_, trivial⟩
                  · intro _ S h s D p K k; exact d_lv1 (look_b (t := 0) rfl rfl) (lv_move rfl) 0 rfl rfl s (k () h)
                  · intro _ S h s D p K k; exact d_lv1 (lkr p 0 rfl rfl) (lv_nilCheck rfl) 1 rfl rfl s (k () h)
                  · intro _ S h s D p K k; exact d_lv1 (lkr p 1 rfl rfl) (lv_fieldAddr (o' := 1) Tryz.underlying139 rfl Tryz.sizeOf137 rfl rfl) 2 rfl rfl s (k () h)
                  · intro _ S h s D p K k; exact d_lv1 (lkr p 2 rfl rfl) (lv_load Tryz.isAgg137 rfl (gives_blk (.tail _ (.tail _ (.tail _ (.head _)))) rfl)) 3 rfl rfl s (k () h)
                  · intro _ S h s D p K k; exact d_lv1 (look_b (t := 0) rfl rfl) (lv_move rfl) 4 rfl rfl s (k () h)
                  · intro _ S h s D p K k; exact d_lv1 (lkr p 4 rfl rfl) (lv_nilCheck rfl) 5 rfl rfl s (k () h)
                  · intro _ S h s D p K k; exact d_lv1 (lkr p 5 rfl rfl) (lv_fieldAddr (o' := 2) Tryz.underlying139 rfl Tryz.sizeOf3 rfl rfl) 6 rfl rfl s (k () h)
                  · intro _ S h s D p K k; exact d_lv1 (lkr p 6 rfl rfl) (lv_load Tryz.isAgg3 rfl (gives_blk (.tail _ (.tail _ (.tail _ (.head _)))) rfl)) 7 rfl rfl s (k () h)
                  · rintro _ S hF hS D hp K hK; try dsimp only
                    exact d_lv2 (lkr hp 3 rfl rfl) (lkr hp 7 rfl rfl) (lv_indexAddr (k' := nxt ax ms.length) Tryz.underlying137 Tryz.sizeOf159 rfl rfl hT.ok (by omega) (by omega) (by omega)) 8 rfl rfl hS (hK () hF)
                  · intro _ S h s D p K k; exact d_lv1 (lkr p 8 rfl rfl) (lv_load Tryz.isAgg159 rfl (gives_sl (.tail _ (.tail _ (.tail _ (.tail _ (.head _))))) (ptrs_get (by first | omega | (simp; omega))))) 9 rfl rfl s (k () h)
                  · intro _ S h s D p K k; exact d_lv1 (lkr p 9 rfl rfl) (lv_nilCheck rfl) 10 rfl rfl s (k () h)
                  · intro _ S h s D p K k; exact d_lv1 (lkr p 10 rfl rfl) (lv_fieldAddr (o' := 2) Tryz.underlying161 rfl Tryz.sizeOf3 rfl rfl) 11 rfl rfl s (k () h)
                  · rintro _ S hF hS D hp K hK; try dsimp only
                    exact d_lv1 (lkr hp 11 rfl rfl) (lv_load Tryz.isAgg3 rfl (gives_blk (mem_cF (nf hS D (k := 28) (i := 12) rfl) (.head _)) rfl)) 12 rfl rfl hS (hK () hF)
                  · intro _ S h s D p K k; exact d_lv1 (look_b (t := 0) rfl rfl) (lv_move rfl) 13 rfl rfl s (k () h)
                  · intro _ S h s D p K k; exact d_lv1 (look_b (t := 0) rfl rfl) (lv_move rfl) 14 rfl rfl s (k () h)
                  · intro _ S h s D p K k; exact d_lv1 (lkr p 14 rfl rfl) (lv_nilCheck rfl) 15 rfl rfl s (k () h)
                  · intro _ S h s D p K k; exact d_lv1 (lkr p 15 rfl rfl) (lv_fieldAddr (o' := 1) Tryz.underlying139 rfl Tryz.sizeOf137 rfl rfl) 16 rfl rfl s (k () h)
                  · intro _ S h s D p K k; exact d_lv1 (lkr p 16 rfl rfl) (lv_load Tryz.isAgg137 rfl (gives_blk (.tail _ (.tail _ (.tail _ (.head _)))) rfl)) 17 rfl rfl s (k () h)
                  · intro _ S h s D p K k; exact d_lv1 (look_b (t := 0) rfl rfl) (lv_move rfl) 18 rfl rfl s (k () h)
                  · intro _ S h s D p K k; exact d_lv1 (lkr p 18 rfl rfl) (lv_nilCheck rfl) 19 rfl rfl s (k () h)
                  · intro _ S h s D p K k; exact d_lv1 (lkr p 19 rfl rfl) (lv_fieldAddr (o' := 2) Tryz.underlying139 rfl Tryz.sizeOf3 rfl rfl) 20 rfl rfl s (k () h)
                  · intro _ S h s D p K k; exact d_lv1 (lkr p 20 rfl rfl) (lv_load Tryz.isAgg3 rfl (gives_blk (.tail _ (.tail _ (.tail _ (.head _)))) rfl)) 21 rfl rfl s (k () h)
                  · rintro _ S hF hS D hp K hK; try dsimp only
                    exact d_lv2 (lkr hp 17 rfl rfl) (lkr hp 21 rfl rfl) (lv_indexAddr (k' := nxt ax ms.length) Tryz.underlying137 Tryz.sizeOf159 rfl rfl hT.ok (by omega) (by omega) (by omega)) 22 rfl rfl hS (hK () hF)
                  · intro _ S h s D p K k; exact d_lv1 (lkr p 22 rfl rfl) (lv_load Tryz.isAgg159 rfl (gives_sl (.tail _ (.tail _ (.tail _ (.tail _ (.head _))))) (ptrs_get (by first | omega | (simp; omega))))) 23 rfl rfl s (k () h)
                  · rintro _ S hF hS D hp K hK
                    try dsimp only at hF ⊢
                    have s13 := hp 13 rfl
                    have s23 := hp 23 rfl
                    refine d_need (small := [(110, (vP p 0)), (120, (vP (ps.getD (nxt ax ms.length) 0) 0))]) ⟨look_row rfl 13 rfl s13, look_row rfl 23 rfl s23, trivial⟩ ?_
                    refine t_cF (nf hS D (k := 28) (i := 24) rfl) ?_
                    refine t_f3 ?_
                    refine tc rfl (en_fn Tryz.call106 rfl) (gain_ok (by omega)) ?_
                    rintro _ _ ⟨rfl, rfl⟩
                    refine t_f1 ?_
                    refine t_wF (A := (Blk (ps.getD (nxt ax ms.length) 0) [(.int .i64 (((zeroT cs mx ax).getD (nxt ax ms.length) M3.z).id)), (.int .i64 (((zeroT cs mx ax).getD (nxt ax ms.length) M3.z).w)), (.int .i64 ((((zeroT cs mx ax).getD (nxt ax ms.length) M3.z).c) + (q * (((zeroT cs mx ax).getD (nxt ax ms.length) M3.z).w))))] 161)) (nf hS D (k := 28) (i := 24) rfl) ?_
                    refine t_f1 (t_f3 (t_f3 (t_f3 ?_)))
                    exact d_closes ⟨look_row rfl 13 rfl s13, look_row rfl 23 rfl s23, trivial⟩ 24 rfl rfl rfl hS (AgreeR.refl _) (t_sat (fun _ h => h) (hK () trivial))
                  · intro _ S h s D p K k; exact d_lv2 (lkr p 12 rfl rfl) (lkr p 24 rfl rfl) (lv_add (c := (((zeroT cs mx ax).getD (nxt ax ms.length) M3.z).c) + (q * (((zeroT cs mx ax).getD (nxt ax ms.length) M3.z).w))) rfl rfl (wr_i64 (by omega) (by omega))) 25 rfl rfl s (k () h)
                  · intro _ S h s D p K k; exact d_lv1 (lkr p 9 rfl rfl) (lv_nilCheck rfl) 26 rfl rfl s (k () h)
                  · intro _ S h s D p K k; exact d_lv1 (lkr p 26 rfl rfl) (lv_fieldAddr (o' := 2) Tryz.underlying161 rfl Tryz.sizeOf3 rfl rfl) 27 rfl rfl s (k () h)
                  · rintro _ S hF hS D hp K hK
                    try dsimp only at hF ⊢
                    have s25 := hp 25 rfl
                    have s27 := hp 27 rfl
                    refine d_need (small := [(122, (.int .i64 ((((zeroT cs mx ax).getD (nxt ax ms.length) M3.z).c) + (q * (((zeroT cs mx ax).getD (nxt ax ms.length) M3.z).w))))), (124, (vP (ps.getD (nxt ax ms.length) 0) 2))]) ⟨look_row rfl 25 rfl s25, look_row rfl 27 rfl s27, trivial⟩ ?_
                    refine t_cF hS ?_
                    refine ts (sv_blk Tryz.sizeOf3 rfl rfl rfl (Nat.le_of_ble_eq_true rfl) rfl) ?_
                    exact d_closes0 ⟨look_row rfl 25 rfl s25, look_row rfl 27 rfl s27, trivial⟩ rfl (t_sat (fun _ h => h) (hK () trivial))
                · rintro _ hF
                  try dsimp only at hF ⊢
                  refine t_weak (E' := [(0, (vP p 0)), (6, (.slice bs ms.length cp)), (8, (.int .i64 ((k + 1 : Nat) : Int))), (9, (vP (ps.getD ax 0) 0)), (10, (.int .i64 ((cs).getD ax 0))), (45, (.bool false)), (59, (.bool true)), (71, (.bool false)), (96, (.bool true))]) ⟨rfl, rfl, rfl, rfl, rfl, rfl, rfl, rfl, rfl, trivial⟩ ?_
                  refine q_then_n (hK12 _ _ ?_)
                  refine c_goto ?_
                  refine q_jump_g ?_
                  refine t_f1 (t_f1 ?_)
                  refine t_putM (c := (((zeroT cs mx ax).getD (nxt ax ms.length) M3.z).c) + (q * (((zeroT cs mx ax).getD (nxt ax ms.length) M3.z).w))) (by omega) (by omega) ?_
                  rw [show setC (zeroT cs mx ax) (nxt ax ms.length) ((((zeroT cs mx ax).getD (nxt ax ms.length) M3.z).c) + (q * (((zeroT cs mx ax).getD (nxt ax ms.length) M3.z).w))) = gainT q cs (zeroT cs mx ax) (nxt ax ms.length) from by unfold gainT; rw [if_pos (by omega)]]
                  refine t_f3 (t_f3 (t_f3 ?_))
                  exact t_weak (by exact ⟨rfl, rfl, rfl, trivial⟩) (hK2 (bs, cp, gainT q cs (zeroT cs mx ax) (nxt ax ms.length), nxt ax ms.length, k + 1) ⟨hI.step' hr (by omega), hbs⟩ (by dsimp only; have := hI.k2; omega))
              · refine tp rfl (lv_gtr rfl rfl (decide_eq_false h5)) (t_done (q_then_n (hK13 _ _ (c_false rfl (c_skip (q_then_n (hK12 _ _ ?_)))))))
                refine c_goto ?_
                refine q_jump_g ?_
                rw [show zeroT cs mx ax = gainT q cs (zeroT cs mx ax) (nxt ax ms.length) from by unfold gainT; rw [if_neg (by omega)]]
                refine t_f3 (t_f3 (t_f3 ?_))
                exact t_weak (by exact ⟨rfl, rfl, rfl, trivial⟩) (hK2 (bs, cp, gainT q cs (zeroT cs mx ax) (nxt ax ms.length), nxt ax ms.length, k + 1) ⟨hI.step' hr (by omega), hbs⟩ (by dsimp only; have := hI.k2; omega))
        · refine tp rfl (lv_eql rfl rfl (beq_eq_false_iff_ne.2 h2)) (t_done (q_then_n (hK7 _ _ (c_false rfl (c_skip (q_then_n (hK6 _ _ (c_seq (fun K8 hK8 => c_seq (fun K9 hK9 => c_region (t_f1 ?_)))))))))))
          refine t_f1 ?_
          refine t_putM0 (by omega) (by omega) ?_
          rw [show mx = zeroT cs mx ax from by unfold zeroT; first | rw [if_pos (by omega)] | rw [if_neg (by omega)]]
          have hzl : (zeroT cs mx ax).length = ms.length := by rw [zeroT_len]; exact hlx
          refine tp rfl (lv_move rfl) (tp rfl (lv_add (c := ((k + 1 : Nat) : Int)) rfl rfl (wr_i64_succ (by omega))) ?_)
          refine tp rfl (lv_assign rfl) (t_done (q_then_n (hK9 _ _ (c_seq (fun K10 hK10 => c_region (tp rfl (lv_move rfl) (tp rfl (lv_move rfl) (tp rfl (lv_nilCheck rfl) (tp rfl (lv_fieldAddr (o' := 1) Tryz.underlying139 rfl Tryz.sizeOf137 rfl rfl) (tp rfl (lv_load Tryz.isAgg137 rfl (gives_blk (.tail _ (.tail _ (.head _))) rfl)) ?_))))))))))
          refine tp rfl (lv_len Tryz.underlying137 rfl rfl) ?_
          by_cases h6 : ((k + 1 : Nat) : Int) = ((ms.length : Nat) : Int)
          · refine tp rfl (lv_eql rfl rfl (beq_iff_eq.2 h6)) (t_done (q_then_n (hK10 _ _ (c_true rfl (c_region (tp rfl (lv_move rfl) (tp rfl (lv_move rfl) (t_f3 (t_f3 (t_f3 ?_))))))))))
            refine tc rfl (en_fn Tryz.call105 rfl) (skip_ok hTlp hzl hT.ok (by omega) hbs hcl (by omega) (fun i h1 h2 => (hI.low hr (by omega) i (by omega)).2.1 h2) hz hcb hany2) ?_
            rintro _ _ ⟨r, hub, hex, rfl, rfl⟩
            refine t_done (q_then_n (hK8 _ _ (c_seq (fun K11 hK11 => ?_))))
            have hnl := nxt_lt hal
            refine c_draw (γ := Unit) (n := 15) Tryz.mixed rfl rfl (fun _ S => True) (fun _ => [(0, 75, (vP p 0)), (1, 76, (vP p 0)), (2, 77, (vP p 0)), (3, 78, (vP p 2)), (4, 79, (vN ax)), (5, 80, (.int .i64 ((ax + 1 : Nat) : Int))), (6, 81, (vP p 0)), (7, 82, (vP p 0)), (8, 83, (vP p 1)), (9, 84, (.slice ba ms.length ca)), (10, 85, (vN ms.length)), (11, 86, (.int .i64 ((nxt ax ms.length : Nat) : Int))), (12, 87, (vP p 0)), (13, 88, (vP p 2))]) (fun _ S => (SlV 3 1 (.slice bs ms.length cp) ms.length (ints .i64 cs)) :: (bif S 14 then (Blk p [(.int .i64 q), (.slice ba ms.length ca), (.int .i64 ((nxt ax ms.length : Nat) : Int))] 139) else (Blk p [(.int .i64 q), (.slice ba ms.length ca), (vN ax)] 139)) :: (SlV 159 1 (.slice ba ms.length ca) ms.length (recs ptrF ps)) :: (Join (mems ps (bumpF q cs (fun _ => ((r : Nat) : Int)) (zeroT cs mx ax)))) :: R) (()) trivial (fun _ h => h) (fun _ _ h => h) ?_ ?_
            · refine ⟨?_, ?_, ?_, ?_, ?_, ?_, ?_, ?_, ?_, ?_, ?_, ?_, ?_, ?_, ?_, trivial⟩
              · intro _ S h s D p K k; exact d_lv1 (look_b (t := 0) rfl rfl) (lv_move rfl) 0 rfl rfl s (k () h)
              · intro _ S h s D p K k; exact d_lv1 (look_b (t := 0) rfl rfl) (lv_move rfl) 1 rfl rfl s (k () h)
              · intro _ S h s D p K k; exact d_lv1 (lkr p 1 rfl rfl) (lv_nilCheck rfl) 2 rfl rfl s (k () h)
              · intro _ S h s D p K k; exact d_lv1 (lkr p 2 rfl rfl) (lv_fieldAddr (o' := 2) Tryz.underlying139 rfl Tryz.sizeOf3 rfl rfl) 3 rfl rfl s (k () h)
              · rintro _ S hF hS D hp K hK; try dsimp only
                exact d_lv1 (lkr hp 3 rfl rfl) (lv_load Tryz.isAgg3 rfl (gives_blk (mem_cF (nf hS D (k := 14) (i := 4) rfl) (.tail _ (.head _))) rfl)) 4 rfl rfl hS (hK () hF)
              · intro _ S h s D p K k; exact d_lv1 (lkr p 4 rfl rfl) (lv_add (c := ((ax + 1 : Nat) : Int)) rfl rfl (wr_i64_succ (by omega))) 5 rfl rfl s (k () h)
              · intro _ S h s D p K k; exact d_lv1 (look_b (t := 0) rfl rfl) (lv_move rfl) 6 rfl rfl s (k () h)
              · intro _ S h s D p K k; exact d_lv1 (lkr p 6 rfl rfl) (lv_nilCheck rfl) 7 rfl rfl s (k () h)
              · intro _ S h s D p K k; exact d_lv1 (lkr p 7 rfl rfl) (lv_fieldAddr (o' := 1) Tryz.underlying139 rfl Tryz.sizeOf137 rfl rfl) 8 rfl rfl s (k () h)
              · rintro _ S hF hS D hp K hK; try dsimp only
                exact d_lv1 (lkr hp 8 rfl rfl) (lv_load Tryz.isAgg137 rfl (gives_blk (mem_cF (nf hS D (k := 14) (i := 9) rfl) (.tail _ (.head _))) rfl)) 9 rfl rfl hS (hK () hF)
              · intro _ S h s D p K k; exact d_lv1 (lkr p 9 rfl rfl) (lv_len Tryz.underlying137 rfl rfl) 10 rfl rfl s (k () h)
              · intro _ S h s D p K k; exact d_lv2 (lkr p 5 rfl rfl) (lkr p 10 rfl rfl) (lv_rem (c := ((nxt ax ms.length : Nat) : Int)) rfl rfl (by omega) (nxt_mod hal)) 11 rfl rfl s (k () h)
              · intro _ S h s D p K k; exact d_lv1 (lkr p 0 rfl rfl) (lv_nilCheck rfl) 12 rfl rfl s (k () h)
              · intro _ S h s D p K k; exact d_lv1 (lkr p 12 rfl rfl) (lv_fieldAddr (o' := 2) Tryz.underlying139 rfl Tryz.sizeOf3 rfl rfl) 13 rfl rfl s (k () h)
              · rintro _ S hF hS D hp K hK
                try dsimp only at hF ⊢
                have s11 := hp 11 rfl
                have s13 := hp 13 rfl
                refine d_need (small := [(86, (.int .i64 ((nxt ax ms.length : Nat) : Int))), (88, (vP p 2))]) ⟨look_row rfl 11 rfl s11, look_row rfl 13 rfl s13, trivial⟩ ?_
                refine t_f1 ?_
                refine t_cF hS ?_
                refine ts (sv_blk Tryz.sizeOf3 rfl rfl rfl (Nat.le_of_ble_eq_true rfl) rfl) ?_
                refine t_f1 ?_
                exact d_closes0 ⟨look_row rfl 11 rfl s11, look_row rfl 13 rfl s13, trivial⟩ rfl (t_sat (fun _ h => h) (hK () trivial))
            · rintro _ hF
              try dsimp only at hF ⊢
              refine t_weak (E' := [(0, (vP p 0)), (6, (.slice bs ms.length cp)), (8, (.int .i64 ((k + 1 : Nat) : Int))), (9, (vP (ps.getD ax 0) 0)), (10, (.int .i64 ((cs).getD ax 0))), (45, (.bool false)), (59, (.bool false)), (71, (.bool true))]) ⟨rfl, rfl, rfl, rfl, rfl, rfl, rfl, rfl, trivial⟩ ?_
              refine q_then_n (hK11 _ _ (c_seq (fun K12 hK12 => c_seq (fun K13 hK13 => c_region (tp rfl (lv_move rfl) (tp rfl (lv_move rfl) (tp rfl (lv_nilCheck rfl) (tp rfl (lv_fieldAddr (o' := 2) Tryz.underlying139 rfl Tryz.sizeOf3 rfl rfl) (tp rfl (lv_load Tryz.isAgg3 rfl (gives_blk (.tail _ (.head _)) rfl)) (tp rfl (lv_indexAddr (k' := nxt ax ms.length) Tryz.underlying34 Tryz.sizeOf3 rfl rfl hbs (by omega) (by omega) (by omega)) ?_))))))))))
              refine tp rfl (lv_load Tryz.isAgg3 rfl (gives_sl (.head _) (ints_get (by first | omega | (simp; omega))))) ?_
              by_cases h7 : ((cs).getD (nxt ax ms.length) 0) > 0
              · refine tp rfl (lv_gtr rfl rfl (decide_eq_true h7)) (t_done (q_then_n (hK13 _ _ (c_true rfl ?_))))
                have hbl : (bumpF q cs (fun _ => ((r : Nat) : Int)) (zeroT cs mx ax)).length = ms.length := by rw [bumpF_len]; exact hzl
                have hzj := hz (nxt ax ms.length) hnl
                have hubj := hub (nxt ax ms.length) hnl (by omega)
                have hcbj := hcb (nxt ax ms.length)
                have hrg : 0 ≤ ((r : Nat) : Int) * (q * ((zeroT cs mx ax).getD (nxt ax ms.length) M3.z).w) := Int.mul_nonneg (by omega) (by omega)
                have hgj : (bumpF q cs (fun _ => ((r : Nat) : Int)) (zeroT cs mx ax)).getD (nxt ax ms.length) M3.z = ⟨((zeroT cs mx ax).getD (nxt ax ms.length) M3.z).id, ((zeroT cs mx ax).getD (nxt ax ms.length) M3.z).w, ((zeroT cs mx ax).getD (nxt ax ms.length) M3.z).c + ((r : Nat) : Int) * (q * ((zeroT cs mx ax).getD (nxt ax ms.length) M3.z).w)⟩ := by rw [bumpF_get (by omega), if_pos (by omega)]
                have hw1 : 0 ≤ q * ((bumpF q cs (fun _ => ((r : Nat) : Int)) (zeroT cs mx ax)).getD (nxt ax ms.length) M3.z).w ∧ q * ((bumpF q cs (fun _ => ((r : Nat) : Int)) (zeroT cs mx ax)).getD (nxt ax ms.length) M3.z).w ≤ 104857600 ∧ 0 ≤ ((bumpF q cs (fun _ => ((r : Nat) : Int)) (zeroT cs mx ax)).getD (nxt ax ms.length) M3.z).c ∧ ((bumpF q cs (fun _ => ((r : Nat) : Int)) (zeroT cs mx ax)).getD (nxt ax ms.length) M3.z).c ≤ 1048576 := by rw [hgj]; dsimp only; omega
                refine t_f3 ?_
                refine t_takeM (i := (nxt ax ms.length)) (by omega) (by omega) ?_
                refine c_draw (γ := Unit) (n := 29) Tryz.mixed rfl rfl (fun _ S => True) (fun _ => [(0, 97, (vP p 0)), (1, 98, (vP p 0)), (2, 99, (vP p 1)), (3, 100, (.slice ba ms.length ca)), (4, 101, (vP p 0)), (5, 102, (vP p 0)), (6, 103, (vP p 2)), (7, 104, (.int .i64 ((nxt ax ms.length : Nat) : Int))), (8, 105, (.pointer (some (ad ba (nxt ax ms.length))))), (9, 106, (vP (ps.getD (nxt ax ms.length) 0) 0)), (10, 107, (vP (ps.getD (nxt ax ms.length) 0) 0)), (11, 108, (vP (ps.getD (nxt ax ms.length) 0) 2)), (12, 109, (.int .i64 (((bumpF q cs (fun _ => ((r : Nat) : Int)) (zeroT cs mx ax)).getD (nxt ax ms.length) M3.z).c))), (13, 110, (vP p 0)), (14, 111, (vP p 0)), (15, 112, (vP p 0)), (16, 113, (vP p 1)), (17, 114, (.slice ba ms.length ca)), (18, 115, (vP p 0)), (19, 116, (vP p 0)), (20, 117, (vP p 2)), (21, 118, (.int .i64 ((nxt ax ms.length : Nat) : Int))), (22, 119, (.pointer (some (ad ba (nxt ax ms.length))))), (23, 120, (vP (ps.getD (nxt ax ms.length) 0) 0)), (24, 121, (.int .i64 (q * (((bumpF q cs (fun _ => ((r : Nat) : Int)) (zeroT cs mx ax)).getD (nxt ax ms.length) M3.z).w)))), (25, 122, (.int .i64 ((((bumpF q cs (fun _ => ((r : Nat) : Int)) (zeroT cs mx ax)).getD (nxt ax ms.length) M3.z).c) + (q * (((bumpF q cs (fun _ => ((r : Nat) : Int)) (zeroT cs mx ax)).getD (nxt ax ms.length) M3.z).w))))), (26, 123, (vP (ps.getD (nxt ax ms.length) 0) 0)), (27, 124, (vP (ps.getD (nxt ax ms.length) 0) 2))]) (fun _ S => (bif S 28 then (Blk (ps.getD (nxt ax ms.length) 0) [(.int .i64 (((bumpF q cs (fun _ => ((r : Nat) : Int)) (zeroT cs mx ax)).getD (nxt ax ms.length) M3.z).id)), (.int .i64 (((bumpF q cs (fun _ => ((r : Nat) : Int)) (zeroT cs mx ax)).getD (nxt ax ms.length) M3.z).w)), (.int .i64 ((((bumpF q cs (fun _ => ((r : Nat) : Int)) (zeroT cs mx ax)).getD (nxt ax ms.length) M3.z).c) + (q * (((bumpF q cs (fun _ => ((r : Nat) : Int)) (zeroT cs mx ax)).getD (nxt ax ms.length) M3.z).w))))] 161) else (Blk (ps.getD (nxt ax ms.length) 0) [(.int .i64 (((bumpF q cs (fun _ => ((r : Nat) : Int)) (zeroT cs mx ax)).getD (nxt ax ms.length) M3.z).id)), (.int .i64 (((bumpF q cs (fun _ => ((r : Nat) : Int)) (zeroT cs mx ax)).getD (nxt ax ms.length) M3.z).w)), (.int .i64 (((bumpF q cs (fun _ => ((r : Nat) : Int)) (zeroT cs mx ax)).getD (nxt ax ms.length) M3.z).c))] 161)) :: (Join (mems (ps.eraseIdx (nxt ax ms.length)) ((bumpF q cs (fun _ => ((r : Nat) : Int)) (zeroT cs mx ax)).eraseIdx (nxt ax ms.length)))) :: (SlV 3 1 (.slice bs ms.length cp) ms.length (ints .i64 cs)) :: (Blk p [(.int .i64 q), (.slice ba ms.length ca), (.int .i64 ((nxt ax ms.length : Nat) : Int))] 139) :: (SlV 159 1 (.slice ba ms.length ca) ms.length (recs ptrF ps)) :: R) (()) trivial (fun _ h => h) (fun _ _ h => h) ?_ ?_
                · refine ⟨?_, ?_, ?_, ?_, ?_, ?_, ?_, ?_, ?_, ?_, ?_, ?_, ?_, ?_, ?_, ?_, ?_, ?_, ?_, ?_, ?_, ?_, ?_, ?_, ?_, ?_, ?_, ?_, ?_, trivial⟩
                  · intro _ S h s D p K k; exact d_lv1 (look_b (t := 0) rfl rfl) (lv_move rfl) 0 rfl rfl s (k () h)
                  · intro _ S h s D p K k; exact d_lv1 (lkr p 0 rfl rfl) (lv_nilCheck rfl) 1 rfl rfl s (k () h)
                  · intro _ S h s D p K k; exact d_lv1 (lkr p 1 rfl rfl) (lv_fieldAddr (o' := 1) Tryz.underlying139 rfl Tryz.sizeOf137 rfl rfl) 2 rfl rfl s (k () h)
                  · intro _ S h s D p K k; exact d_lv1 (lkr p 2 rfl rfl) (lv_load Tryz.isAgg137 rfl (gives_blk (.tail _ (.tail _ (.tail _ (.head _)))) rfl)) 3 rfl rfl s (k () h)
                  · intro _ S h s D p K k; exact d_lv1 (look_b (t := 0) rfl rfl) (lv_move rfl) 4 rfl rfl s (k () h)
                  · intro _ S h s D p K k; exact d_lv1 (lkr p 4 rfl rfl) (lv_nilCheck rfl) 5 rfl rfl s (k () h)
                  · intro _ S h s D p K k; exact d_lv1 (lkr p 5 rfl rfl) (lv_fieldAddr (o' := 2) Tryz.underlying139 rfl Tryz.sizeOf3 rfl rfl) 6 rfl rfl s (k () h)
                  · intro _ S h s D p K k; exact d_lv1 (lkr p 6 rfl rfl) (lv_load Tryz.isAgg3 rfl (gives_blk (.tail _ (.tail _ (.tail _ (.head _)))) rfl)) 7 rfl rfl s (k () h)
                  · rintro _ S hF hS D hp K hK; try dsimp only
                    exact d_lv2 (lkr hp 3 rfl rfl) (lkr hp 7 rfl rfl) (lv_indexAddr (k' := nxt ax ms.length) Tryz.underlying137 Tryz.sizeOf159 rfl rfl hT.ok (by omega) (by omega) (by omega)) 8 rfl rfl hS (hK () hF)
                  · intro _ S h s D p K k; exact d_lv1 (lkr p 8 rfl rfl) (lv_load Tryz.isAgg159 rfl (gives_sl (.tail _ (.tail _ (.tail _ (.tail _ (.head _))))) (ptrs_get (by first | omega | (simp; omega))))) 9 rfl rfl s (k () h)
                  · intro _ S h s D p K k; exact d_lv1 (lkr p 9 rfl rfl) (lv_nilCheck rfl) 10 rfl rfl s (k () h)
                  · intro _ S h s D p K k; exact d_lv1 (lkr p 10 rfl rfl) (lv_fieldAddr (o' := 2) Tryz.underlying161 rfl Tryz.sizeOf3 rfl rfl) 11 rfl rfl s (k () h)
                  · rintro _ S hF hS D hp K hK; try dsimp only
                    exact d_lv1 (lkr hp 11 rfl rfl) (lv_load Tryz.isAgg3 rfl (gives_blk (mem_cF (nf hS D (k := 28) (i := 12) rfl) (.head _)) rfl)) 12 rfl rfl hS (hK () hF)
                  · intro _ S h s D p K k; exact d_lv1 (look_b (t := 0) rfl rfl) (lv_move rfl) 13 rfl rfl s (k () h)
                  · intro _ S h s D p K k; exact d_lv1 (look_b (t := 0) rfl rfl) (lv_move rfl) 14 rfl rfl s (k () h)
                  · intro _ S h s D p K k; exact d_lv1 (lkr p 14 rfl rfl) (lv_nilCheck rfl) 15 rfl rfl s (k () h)
                  · intro _ S h s D p K k; exact d_lv1 (lkr p 15 rfl rfl) (lv_fieldAddr (o' := 1) Tryz.underlying139 rfl Tryz.sizeOf137 rfl rfl) 16 rfl rfl s (k () h)
                  · intro _ S h s D p K k; exact d_lv1 (lkr p 16 rfl rfl) (lv_load Tryz.isAgg137 rfl (gives_blk (.tail _ (.tail _ (.tail _ (.head _)))) rfl)) 17 rfl rfl s (k () h)
                  · intro _ S h s D p K k; exact d_lv1 (look_b (t := 0) rfl rfl) (lv_move rfl) 18 rfl rfl s (k () h)
                  · intro _ S h s D p K k; exact d_lv1 (lkr p 18 rfl rfl) (lv_nilCheck rfl) 19 rfl rfl s (k () h)
                  · intro _ S h s D p K k; exact d_lv1 (lkr p 19 rfl rfl) (lv_fieldAddr (o' := 2) Tryz.underlying139 rfl Tryz.sizeOf3 rfl rfl) 20 rfl rfl s (k () h)
                  · intro _ S h s D p K k; exact d_lv1 (lkr p 20 rfl rfl) (lv_load Tryz.isAgg3 rfl (gives_blk (.tail _ (.tail _ (.tail _ (.head _)))) rfl)) 21 rfl rfl s (k () h)
                  · rintro _ S hF hS D hp K hK; try dsimp only
                    exact d_lv2 (lkr hp 17 rfl rfl) (lkr hp 21 rfl rfl) (lv_indexAddr (k' := nxt ax ms.length) Tryz.underlying137 Tryz.sizeOf159 rfl rfl hT.ok (by omega) (by omega) (by omega)) 22 rfl rfl hS (hK () hF)
                  · intro _ S h s D p K k; exact d_lv1 (lkr p 22 rfl rfl) (lv_load Tryz.isAgg159 rfl (gives_sl (.tail _ (.tail _ (.tail _ (.tail _ (.head _))))) (ptrs_get (by first | omega | (simp; omega))))) 23 rfl rfl s (k () h)
                  · rintro _ S hF hS D hp K hK
                    try dsimp only at hF ⊢
                    have s13 := hp 13 rfl
                    have s23 := hp 23 rfl
                    refine d_need (small := [(110, (vP p 0)), (120, (vP (ps.getD (nxt ax ms.length) 0) 0))]) ⟨look_row rfl 13 rfl s13, look_row rfl 23 rfl s23, trivial⟩ ?_
                    refine t_cF (nf hS D (k := 28) (i := 24) rfl) ?_
                    refine t_f3 ?_
                    refine tc rfl (en_fn Tryz.call106 rfl) (gain_ok (by omega)) ?_
                    rintro _ _ ⟨rfl, rfl⟩
                    refine t_f1 ?_
                    refine t_wF (A := (Blk (ps.getD (nxt ax ms.length) 0) [(.int .i64 (((bumpF q cs (fun _ => ((r : Nat) : Int)) (zeroT cs mx ax)).getD (nxt ax ms.length) M3.z).id)), (.int .i64 (((bumpF q cs (fun _ => ((r : Nat) : Int)) (zeroT cs mx ax)).getD (nxt ax ms.length) M3.z).w)), (.int .i64 ((((bumpF q cs (fun _ => ((r : Nat) : Int)) (zeroT cs mx ax)).getD (nxt ax ms.length) M3.z).c) + (q * (((bumpF q cs (fun _ => ((r : Nat) : Int)) (zeroT cs mx ax)).getD (nxt ax ms.length) M3.z).w))))] 161)) (nf hS D (k := 28) (i := 24) rfl) ?_
                    refine t_f1 (t_f3 (t_f3 (t_f3 ?_)))
                    exact d_closes ⟨look_row rfl 13 rfl s13, look_row rfl 23 rfl s23, trivial⟩ 24 rfl rfl rfl hS (AgreeR.refl _) (t_sat (fun _ h => h) (hK () trivial))
                  · intro _ S h s D p K k; exact d_lv2 (lkr p 12 rfl rfl) (lkr p 24 rfl rfl) (lv_add (c := (((bumpF q cs (fun _ => ((r : Nat) : Int)) (zeroT cs mx ax)).getD (nxt ax ms.length) M3.z).c) + (q * (((bumpF q cs (fun _ => ((r : Nat) : Int)) (zeroT cs mx ax)).getD (nxt ax ms.length) M3.z).w))) rfl rfl (wr_i64 (by omega) (by omega))) 25 rfl rfl s (k () h)
                  · intro _ S h s D p K k; exact d_lv1 (lkr p 9 rfl rfl) (lv_nilCheck rfl) 26 rfl rfl s (k () h)
                  · intro _ S h s D p K k; exact d_lv1 (lkr p 26 rfl rfl) (lv_fieldAddr (o' := 2) Tryz.underlying161 rfl Tryz.sizeOf3 rfl rfl) 27 rfl rfl s (k () h)
                  · rintro _ S hF hS D hp K hK
                    try dsimp only at hF ⊢
                    have s25 := hp 25 rfl
                    have s27 := hp 27 rfl
                    refine d_need (small := [(122, (.int .i64 ((((bumpF q cs (fun _ => ((r : Nat) : Int)) (zeroT cs mx ax)).getD (nxt ax ms.length) M3.z).c) + (q * (((bumpF q cs (fun _ => ((r : Nat) : Int)) (zeroT cs mx ax)).getD (nxt ax ms.length) M3.z).w))))), (124, (vP (ps.getD (nxt ax ms.length) 0) 2))]) ⟨look_row rfl 25 rfl s25, look_row rfl 27 rfl s27, trivial⟩ ?_
                    refine t_cF hS ?_
                    refine ts (sv_blk Tryz.sizeOf3 rfl rfl rfl (Nat.le_of_ble_eq_true rfl) rfl) ?_
                    exact d_closes0 ⟨look_row rfl 25 rfl s25, look_row rfl 27 rfl s27, trivial⟩ rfl (t_sat (fun _ h => h) (hK () trivial))
                · rintro _ hF
                  try dsimp only at hF ⊢
                  refine t_weak (E' := [(0, (vP p 0)), (6, (.slice bs ms.length cp)), (8, (.int .i64 ((k + 1 : Nat) : Int))), (9, (vP (ps.getD ax 0) 0)), (10, (.int .i64 ((cs).getD ax 0))), (45, (.bool false)), (59, (.bool false)), (71, (.bool true)), (96, (.bool true))]) ⟨rfl, rfl, rfl, rfl, rfl, rfl, rfl, rfl, rfl, trivial⟩ ?_
                  refine q_then_n (hK12 _ _ ?_)
                  refine c_goto ?_
                  refine q_jump_g ?_
                  refine t_f1 (t_f1 ?_)
                  refine t_putM (c := (((bumpF q cs (fun _ => ((r : Nat) : Int)) (zeroT cs mx ax)).getD (nxt ax ms.length) M3.z).c) + (q * (((bumpF q cs (fun _ => ((r : Nat) : Int)) (zeroT cs mx ax)).getD (nxt ax ms.length) M3.z).w))) (by omega) (by omega) ?_
                  rw [show setC (bumpF q cs (fun _ => ((r : Nat) : Int)) (zeroT cs mx ax)) (nxt ax ms.length) ((((bumpF q cs (fun _ => ((r : Nat) : Int)) (zeroT cs mx ax)).getD (nxt ax ms.length) M3.z).c) + (q * (((bumpF q cs (fun _ => ((r : Nat) : Int)) (zeroT cs mx ax)).getD (nxt ax ms.length) M3.z).w))) = gainT q cs (bumpF q cs (fun _ => ((r : Nat) : Int)) (zeroT cs mx ax)) (nxt ax ms.length) from by unfold gainT; rw [if_pos (by omega)]]
                  refine t_f3 (t_f3 (t_f3 ?_))
                  exact t_weak (by exact ⟨rfl, rfl, rfl, trivial⟩) (hK2 (bs, cp, gainT q cs (bumpF q cs (fun _ => ((r : Nat) : Int)) (zeroT cs mx ax)) (nxt ax ms.length), nxt ax ms.length, k + 1) ⟨hI.skip hr (by omega) r hub hex, hbs⟩ (by dsimp only; have := hI.k2; omega))
              · refine tp rfl (lv_gtr rfl rfl (decide_eq_false h7)) (t_done (q_then_n (hK13 _ _ (c_false rfl (c_skip (q_then_n (hK12 _ _ ?_)))))))
                refine c_goto ?_
                refine q_jump_g ?_
                rw [show bumpF q cs (fun _ => ((r : Nat) : Int)) (zeroT cs mx ax) = gainT q cs (bumpF q cs (fun _ => ((r : Nat) : Int)) (zeroT cs mx ax)) (nxt ax ms.length) from by unfold gainT; rw [if_neg (by omega)]]
                exact t_weak (by exact ⟨rfl, rfl, rfl, trivial⟩) (hK2 (bs, cp, gainT q cs (bumpF q cs (fun _ => ((r : Nat) : Int)) (zeroT cs mx ax)) (nxt ax ms.length), nxt ax ms.length, k + 1) ⟨hI.skip hr (by omega) r hub hex, hbs⟩ (by dsimp only; have := hI.k2; omega))
          · refine tp rfl (lv_eql rfl rfl (beq_eq_false_iff_ne.2 h6)) (t_done (q_then_n (hK10 _ _ (c_false rfl (c_skip (q_then_n (hK8 _ _ (c_seq (fun K11 hK11 => ?_)))))))))
            have hnl := nxt_lt hal
            refine c_draw (γ := Unit) (n := 15) Tryz.mixed rfl rfl (fun _ S => True) (fun _ => [(0, 75, (vP p 0)), (1, 76, (vP p 0)), (2, 77, (vP p 0)), (3, 78, (vP p 2)), (4, 79, (vN ax)), (5, 80, (.int .i64 ((ax + 1 : Nat) : Int))), (6, 81, (vP p 0)), (7, 82, (vP p 0)), (8, 83, (vP p 1)), (9, 84, (.slice ba ms.length ca)), (10, 85, (vN ms.length)), (11, 86, (.int .i64 ((nxt ax ms.length : Nat) : Int))), (12, 87, (vP p 0)), (13, 88, (vP p 2))]) (fun _ S => (Join (mems ps (zeroT cs mx ax))) :: (SlV 3 1 (.slice bs ms.length cp) ms.length (ints .i64 cs)) :: (bif S 14 then (Blk p [(.int .i64 q), (.slice ba ms.length ca), (.int .i64 ((nxt ax ms.length : Nat) : Int))] 139) else (Blk p [(.int .i64 q), (.slice ba ms.length ca), (vN ax)] 139)) :: (SlV 159 1 (.slice ba ms.length ca) ms.length (recs ptrF ps)) :: R) (()) trivial (fun _ h => h) (fun _ _ h => h) ?_ ?_
            · refine ⟨?_, ?_, ?_, ?_, ?_, ?_, ?_, ?_, ?_, ?_, ?_, ?_, ?_, ?_, ?_, trivial⟩
              · intro _ S h s D p K k; exact d_lv1 (look_b (t := 0) rfl rfl) (lv_move rfl) 0 rfl rfl s (k () h)
              · intro _ S h s D p K k; exact d_lv1 (look_b (t := 0) rfl rfl) (lv_move rfl) 1 rfl rfl s (k () h)
              · intro _ S h s D p K k; exact d_lv1 (lkr p 1 rfl rfl) (lv_nilCheck rfl) 2 rfl rfl s (k () h)
              · intro _ S h s D p K k; exact d_lv1 (lkr p 2 rfl rfl) (lv_fieldAddr (o' := 2) Tryz.underlying139 rfl Tryz.sizeOf3 rfl rfl) 3 rfl rfl s (k () h)
              · rintro _ S hF hS D hp K hK; try dsimp only
                exact d_lv1 (lkr hp 3 rfl rfl) (lv_load Tryz.isAgg3 rfl (gives_blk (mem_cF (nf hS D (k := 14) (i := 4) rfl) (.tail _ (.tail _ (.head _)))) rfl)) 4 rfl rfl hS (hK () hF)
              · intro _ S h s D p K k; exact d_lv1 (lkr p 4 rfl rfl) (lv_add (c := ((ax + 1 : Nat) : Int)) rfl rfl (wr_i64_succ (by omega))) 5 rfl rfl s (k () h)
              · intro _ S h s D p K k; exact d_lv1 (look_b (t := 0) rfl rfl) (lv_move rfl) 6 rfl rfl s (k () h)
              · intro _ S h s D p K k; exact d_lv1 (lkr p 6 rfl rfl) (lv_nilCheck rfl) 7 rfl rfl s (k () h)
              · intro _ S h s D p K k; exact d_lv1 (lkr p 7 rfl rfl) (lv_fieldAddr (o' := 1) Tryz.underlying139 rfl Tryz.sizeOf137 rfl rfl) 8 rfl rfl s (k () h)
              · rintro _ S hF hS D hp K hK; try dsimp only
                exact d_lv1 (lkr hp 8 rfl rfl) (lv_load Tryz.isAgg137 rfl (gives_blk (mem_cF (nf hS D (k := 14) (i := 9) rfl) (.tail _ (.tail _ (.head _)))) rfl)) 9 rfl rfl hS (hK () hF)
              · intro _ S h s D p K k; exact d_lv1 (lkr p 9 rfl rfl) (lv_len Tryz.underlying137 rfl rfl) 10 rfl rfl s (k () h)
              · intro _ S h s D p K k; exact d_lv2 (lkr p 5 rfl rfl) (lkr p 10 rfl rfl) (lv_rem (c := ((nxt ax ms.length : Nat) : Int)) rfl rfl (by omega) (nxt_mod hal)) 11 rfl rfl s (k () h)
              · intro _ S h s D p K k; exact d_lv1 (lkr p 0 rfl rfl) (lv_nilCheck rfl) 12 rfl rfl s (k () h)
              · intro _ S h s D p K k; exact d_lv1 (lkr p 12 rfl rfl) (lv_fieldAddr (o' := 2) Tryz.underlying139 rfl Tryz.sizeOf3 rfl rfl) 13 rfl rfl s (k () h)
              · rintro _ S hF hS D hp K hK
                try dsimp only at hF ⊢
                have s11 := hp 11 rfl
                have s13 := hp 13 rfl
                refine d_need (small := [(86, (.int .i64 ((nxt ax ms.length : Nat) : Int))), (88, (vP p 2))]) ⟨look_row rfl 11 rfl s11, look_row rfl 13 rfl s13, trivial⟩ ?_
                refine t_f2 ?_
                refine t_cF hS ?_
                refine ts (sv_blk Tryz.sizeOf3 rfl rfl rfl (Nat.le_of_ble_eq_true rfl) rfl) ?_
                refine t_f2 (t_f2 ?_)
                exact d_closes0 ⟨look_row rfl 11 rfl s11, look_row rfl 13 rfl s13, trivial⟩ rfl (t_sat (fun _ h => h) (hK () trivial))
            · rintro _ hF
              try dsimp only at hF ⊢
              refine t_weak (E' := [(0, (vP p 0)), (6, (.slice bs ms.length cp)), (8, (.int .i64 ((k + 1 : Nat) : Int))), (9, (vP (ps.getD ax 0) 0)), (10, (.int .i64 ((cs).getD ax 0))), (45, (.bool false)), (59, (.bool false)), (71, (.bool false))]) ⟨rfl, rfl, rfl, rfl, rfl, rfl, rfl, rfl, trivial⟩ ?_
              refine q_then_n (hK11 _ _ (c_seq (fun K12 hK12 => c_seq (fun K13 hK13 => c_region (tp rfl (lv_move rfl) (tp rfl (lv_move rfl) (tp rfl (lv_nilCheck rfl) (tp rfl (lv_fieldAddr (o' := 2) Tryz.underlying139 rfl Tryz.sizeOf3 rfl rfl) (tp rfl (lv_load Tryz.isAgg3 rfl (gives_blk (.tail _ (.tail _ (.head _))) rfl)) (tp rfl (lv_indexAddr (k' := nxt ax ms.length) Tryz.underlying34 Tryz.sizeOf3 rfl rfl hbs (by omega) (by omega) (by omega)) ?_))))))))))
              refine tp rfl (lv_load Tryz.isAgg3 rfl (gives_sl (.tail _ (.head _)) (ints_get (by first | omega | (simp; omega))))) ?_
              by_cases h8 : ((cs).getD (nxt ax ms.length) 0) > 0
              · refine tp rfl (lv_gtr rfl rfl (decide_eq_true h8)) (t_done (q_then_n (hK13 _ _ (c_true rfl ?_))))
                have hw1 := hz (nxt ax ms.length) hnl
                refine t_takeM (i := (nxt ax ms.length)) (by omega) (by omega) ?_
                refine c_draw (γ := Unit) (n := 29) Tryz.mixed rfl rfl (fun _ S => True) (fun _ => [(0, 97, (vP p 0)), (1, 98, (vP p 0)), (2, 99, (vP p 1)), (3, 100, (.slice ba ms.length ca)), (4, 101, (vP p 0)), (5, 102, (vP p 0)), (6, 103, (vP p 2)), (7, 104, (.int .i64 ((nxt ax ms.length : Nat) : Int))), (8, 105, (.pointer (some (ad ba (nxt ax ms.length))))), (9, 106, (vP (ps.getD (nxt ax ms.length) 0) 0)), (10, 107, (vP (ps.getD (nxt ax ms.length) 0) 0)), (11, 108, (vP (ps.getD (nxt ax ms.length) 0) 2)), (12, 109, (.int .i64 (((zeroT cs mx ax).getD (nxt ax ms.length) M3.z).c))), (13, 110, (vP p 0)), (14, 111, (vP p 0)), (15, 112, (vP p 0)), (16, 113, (vP p 1)), (17, 114, (.slice ba ms.length ca)), (18, 115, (vP p 0)), (19, 116, (vP p 0)), (20, 117, (vP p 2)), (21, 118, (.int .i64 ((nxt ax ms.length : Nat) : Int))), (22, 119, (.pointer (some (ad ba (nxt ax ms.length))))), (23, 120, (vP (ps.getD (nxt ax ms.length) 0) 0)), (24, 121, (.int .i64 (q * (((zeroT cs mx ax).getD (nxt ax ms.length) M3.z).w)))), (25, 122, (.int .i64 ((((zeroT cs mx ax).getD (nxt ax ms.length) M3.z).c) + (q * (((zeroT cs mx ax).getD (nxt ax ms.length) M3.z).w))))), (26, 123, (vP (ps.getD (nxt ax ms.length) 0) 0)), (27, 124, (vP (ps.getD (nxt ax ms.length) 0) 2))]) (fun _ S => (bif S 28 then (Blk (ps.getD (nxt ax ms.length) 0) [(.int .i64 (((zeroT cs mx ax).getD (nxt ax ms.length) M3.z).id)), (.int .i64 (((zeroT cs mx ax).getD (nxt ax ms.length) M3.z).w)), (.int .i64 ((((zeroT cs mx ax).getD (nxt ax ms.length) M3.z).c) + (q * (((zeroT cs mx ax).getD (nxt ax ms.length) M3.z).w))))] 161) else (Blk (ps.getD (nxt ax ms.length) 0) [(.int .i64 (((zeroT cs mx ax).getD (nxt ax ms.length) M3.z).id)), (.int .i64 (((zeroT cs mx ax).getD (nxt ax ms.length) M3.z).w)), (.int .i64 (((zeroT cs mx ax).getD (nxt ax ms.length) M3.z).c))] 161)) :: (Join (mems (ps.eraseIdx (nxt ax ms.length)) ((zeroT cs mx ax).eraseIdx (nxt ax ms.length)))) :: (SlV 3 1 (.slice bs ms.length cp) ms.length (ints .i64 cs)) :: (Blk p [(.int .i64 q), (.slice ba ms.length ca), (.int .i64 ((nxt ax ms.length : Nat) : Int))] 139) :: (SlV 159 1 (.slice ba ms.length ca) ms.length (recs ptrF ps)) :: R) (()) trivial (fun _ h => h) (fun _ _ h => h) ?_ ?_
                · refine ⟨?_, ?_, ?_, ?_, ?_, ?_, ?_, ?_, ?_, ?_, ?_, ?_, ?_, ?_, ?_, ?_, ?_, ?_, ?_, ?_, ?_, ?_, ?_, ?_, ?_, ?_, ?_, ?_, ?_, trivial⟩
                  · intro _ S h s D p K k; exact d_lv1 (look_b (t := 0) rfl rfl) (lv_move rfl) 0 rfl rfl s (k () h)
                  · intro _ S h s D p K k; exact d_lv1 (lkr p 0 rfl rfl) (lv_nilCheck rfl) 1 rfl rfl s (k () h)
                  · intro _ S h s D p K k; exact d_lv1 (lkr p 1 rfl rfl) (lv_fieldAddr (o' := 1) Tryz.underlying139 rfl Tryz.sizeOf137 rfl rfl) 2 rfl rfl s (k () h)
                  · intro _ S h s D p K k; exact d_lv1 (lkr p 2 rfl rfl) (lv_load Tryz.isAgg137 rfl (gives_blk (.tail _ (.tail _ (.tail _ (.head _)))) rfl)) 3 rfl rfl s (k () h)
                  · intro _ S h s D p K k; exact d_lv1 (look_b (t := 0) rfl rfl) (lv_move rfl) 4 rfl rfl s (k () h)
                  · intro _ S h s D p K k; exact d_lv1 (lkr p 4 rfl rfl) (lv_nilCheck rfl) 5 rfl rfl s (k () h)
                  · intro _ S h s D p K k; exact d_lv1 (lkr p 5 rfl rfl) (lv_fieldAddr (o' := 2) Tryz.underlying139 rfl Tryz.sizeOf3 rfl rfl) 6 rfl rfl s (k () h)
                  · intro _ S h s D p K k; exact d_lv1 (lkr p 6 rfl rfl) (lv_load Tryz.isAgg3 rfl (gives_blk (.tail _ (.tail _ (.tail _ (.head _)))) rfl)) 7 rfl rfl s (k () h)
                  · rintro _ S hF hS D hp K hK; try dsimp only
                    exact d_lv2 (lkr hp 3 rfl rfl) (lkr hp 7 rfl rfl) (lv_indexAddr (k' := nxt ax ms.length) Tryz.underlying137 Tryz.sizeOf159 rfl rfl hT.ok (by omega) (by omega) (by omega)) 8 rfl rfl hS (hK () hF)
                  · intro _ S h s D p K k; exact d_lv1 (lkr p 8 rfl rfl) (lv_load Tryz.isAgg159 rfl (gives_sl (.tail _ (.tail _ (.tail _ (.tail _ (.head _))))) (ptrs_get (by first | omega | (simp; omega))))) 9 rfl rfl s (k () h)
                  · intro _ S h s D p K k; exact d_lv1 (lkr p 9 rfl rfl) (lv_nilCheck rfl) 10 rfl rfl s (k () h)
                  · intro _ S h s D p K k; exact d_lv1 (lkr p 10 rfl rfl) (lv_fieldAddr (o' := 2) Tryz.underlying161 rfl Tryz.sizeOf3 rfl rfl) 11 rfl rfl s (k () h)
                  · rintro _ S hF hS D hp K hK; try dsimp only
                    exact d_lv1 (lkr hp 11 rfl rfl) (lv_load Tryz.isAgg3 rfl (gives_blk (mem_cF (nf hS D (k := 28) (i := 12) rfl) (.head _)) rfl)) 12 rfl rfl hS (hK () hF)
                  · intro _ S h s D p K k; exact d_lv1 (look_b (t := 0) rfl rfl) (lv_move rfl) 13 rfl rfl s (k () h)
                  · intro _ S h s D p K k; exact d_lv1 (look_b (t := 0) rfl rfl) (lv_move rfl) 14 rfl rfl s (k () h)
                  · intro _ S h s D p K k; exact d_lv1 (lkr p 14 rfl rfl) (lv_nilCheck rfl) 15 rfl rfl s (k () h)
                  · intro _ S h s D p K k; exact d_lv1 (lkr p 15 rfl rfl) (lv_fieldAddr (o' := 1) Tryz.underlying139 rfl Tryz.sizeOf137 rfl rfl) 16 rfl rfl s (k () h)
                  · intro _ S h s D p K k; exact d_lv1 (lkr p 16 rfl rfl) (lv_load Tryz.isAgg137 rfl (gives_blk (.tail _ (.tail _ (.tail _ (.head _)))) rfl)) 17 rfl rfl s (k () h)
                  · intro _ S h s D p K k; exact d_lv1 (look_b (t := 0) rfl rfl) (lv_move rfl) 18 rfl rfl s (k () h)
                  · intro _ S h s D p K k; exact d_lv1 (lkr p 18 rfl rfl) (lv_nilCheck rfl) 19 rfl rfl s (k () h)
                  · intro _ S h s D p K k; exact d_lv1 (lkr p 19 rfl rfl) (lv_fieldAddr (o' := 2) Tryz.underlying139 rfl Tryz.sizeOf3 rfl rfl) 20 rfl rfl s (k () h)
                  · intro _ S h s D p K k; exact d_lv1 (lkr p 20 rfl rfl) (lv_load Tryz.isAgg3 rfl (gives_blk (.tail _ (.tail _ (.tail _ (.head _)))) rfl)) 21 rfl rfl s (k () h)
                  · rintro _ S hF hS D hp K hK; try dsimp only
                    exact d_lv2 (lkr hp 17 rfl rfl) (lkr hp 21 rfl rfl) (lv_indexAddr (k' := nxt ax ms.length) Tryz.underlying137 Tryz.sizeOf159 rfl rfl hT.ok (by omega) (by omega) (by omega)) 22 rfl rfl hS (hK () hF)
                  · intro _ S h s D p K k; exact d_lv1 (lkr p 22 rfl rfl) (lv_load Tryz.isAgg159 rfl (gives_sl (.tail _ (.tail _ (.tail _ (.tail _ (.head _))))) (ptrs_get (by first | omega | (simp; omega))))) 23 rfl rfl s (k () h)
                  · rintro _ S hF hS D hp K hK
                    try dsimp only at hF ⊢
                    have s13 := hp 13 rfl
                    have s23 := hp 23 rfl
                    refine d_need (small := [(110, (vP p 0)), (120, (vP (ps.getD (nxt ax ms.length) 0) 0))]) ⟨look_row rfl 13 rfl s13, look_row rfl 23 rfl s23, trivial⟩ ?_
                    refine t_cF (nf hS D (k := 28) (i := 24) rfl) ?_
                    refine t_f3 ?_
                    refine tc rfl (en_fn Tryz.call106 rfl) (gain_ok (by omega)) ?_
                    rintro _ _ ⟨rfl, rfl⟩
                    refine t_f1 ?_
                    refine t_wF (A := (Blk (ps.getD (nxt ax ms.length) 0) [(.int .i64 (((zeroT cs mx ax).getD (nxt ax ms.length) M3.z).id)), (.int .i64 (((zeroT cs mx ax).getD (nxt ax ms.length) M3.z).w)), (.int .i64 ((((zeroT cs mx ax).getD (nxt ax ms.length) M3.z).c) + (q * (((zeroT cs mx ax).getD (nxt ax ms.length) M3.z).w))))] 161)) (nf hS D (k := 28) (i := 24) rfl) ?_
                    refine t_f1 (t_f3 (t_f3 (t_f3 ?_)))
                    exact d_closes ⟨look_row rfl 13 rfl s13, look_row rfl 23 rfl s23, trivial⟩ 24 rfl rfl rfl hS (AgreeR.refl _) (t_sat (fun _ h => h) (hK () trivial))
                  · intro _ S h s D p K k; exact d_lv2 (lkr p 12 rfl rfl) (lkr p 24 rfl rfl) (lv_add (c := (((zeroT cs mx ax).getD (nxt ax ms.length) M3.z).c) + (q * (((zeroT cs mx ax).getD (nxt ax ms.length) M3.z).w))) rfl rfl (wr_i64 (by omega) (by omega))) 25 rfl rfl s (k () h)
                  · intro _ S h s D p K k; exact d_lv1 (lkr p 9 rfl rfl) (lv_nilCheck rfl) 26 rfl rfl s (k () h)
                  · intro _ S h s D p K k; exact d_lv1 (lkr p 26 rfl rfl) (lv_fieldAddr (o' := 2) Tryz.underlying161 rfl Tryz.sizeOf3 rfl rfl) 27 rfl rfl s (k () h)
                  · rintro _ S hF hS D hp K hK
                    try dsimp only at hF ⊢
                    have s25 := hp 25 rfl
                    have s27 := hp 27 rfl
                    refine d_need (small := [(122, (.int .i64 ((((zeroT cs mx ax).getD (nxt ax ms.length) M3.z).c) + (q * (((zeroT cs mx ax).getD (nxt ax ms.length) M3.z).w))))), (124, (vP (ps.getD (nxt ax ms.length) 0) 2))]) ⟨look_row rfl 25 rfl s25, look_row rfl 27 rfl s27, trivial⟩ ?_
                    refine t_cF hS ?_
                    refine ts (sv_blk Tryz.sizeOf3 rfl rfl rfl (Nat.le_of_ble_eq_true rfl) rfl) ?_
                    exact d_closes0 ⟨look_row rfl 25 rfl s25, look_row rfl 27 rfl s27, trivial⟩ rfl (t_sat (fun _ h => h) (hK () trivial))
                · rintro _ hF
                  try dsimp only at hF ⊢
                  refine t_weak (E' := [(0, (vP p 0)), (6, (.slice bs ms.length cp)), (8, (.int .i64 ((k + 1 : Nat) : Int))), (9, (vP (ps.getD ax 0) 0)), (10, (.int .i64 ((cs).getD ax 0))), (45, (.bool false)), (59, (.bool false)), (71, (.bool false)), (96, (.bool true))]) ⟨rfl, rfl, rfl, rfl, rfl, rfl, rfl, rfl, rfl, trivial⟩ ?_
                  refine q_then_n (hK12 _ _ ?_)
                  refine c_goto ?_
                  refine q_jump_g ?_
                  refine t_f1 (t_f1 ?_)
                  refine t_putM (c := (((zeroT cs mx ax).getD (nxt ax ms.length) M3.z).c) + (q * (((zeroT cs mx ax).getD (nxt ax ms.length) M3.z).w))) (by omega) (by omega) ?_
                  rw [show setC (zeroT cs mx ax) (nxt ax ms.length) ((((zeroT cs mx ax).getD (nxt ax ms.length) M3.z).c) + (q * (((zeroT cs mx ax).getD (nxt ax ms.length) M3.z).w))) = gainT q cs (zeroT cs mx ax) (nxt ax ms.length) from by unfold gainT; rw [if_pos (by omega)]]
                  refine t_f3 (t_f3 (t_f3 ?_))
                  exact t_weak (by exact ⟨rfl, rfl, rfl, trivial⟩) (hK2 (bs, cp, gainT q cs (zeroT cs mx ax) (nxt ax ms.length), nxt ax ms.length, k + 1) ⟨hI.step' hr (by omega), hbs⟩ (by dsimp only; have := hI.k2; omega))
              · refine tp rfl (lv_gtr rfl rfl (decide_eq_false h8)) (t_done (q_then_n (hK13 _ _ (c_false rfl (c_skip (q_then_n (hK12 _ _ ?_)))))))
                refine c_goto ?_
                refine q_jump_g ?_
                rw [show zeroT cs mx ax = gainT q cs (zeroT cs mx ax) (nxt ax ms.length) from by unfold gainT; rw [if_neg (by omega)]]
                refine t_f3 (t_f3 (t_f3 ?_))
                exact t_weak (by exact ⟨rfl, rfl, rfl, trivial⟩) (hK2 (bs, cp, gainT q cs (zeroT cs mx ax) (nxt ax ms.length), nxt ax ms.length, k + 1) ⟨hI.step' hr (by omega), hbs⟩ (by dsimp only; have := hI.k2; omega))
       · by_cases hc1A : ((cs).getD ax 0) > 0
         ·
          have hc1B : ¬ (((mx.getD ax M3.z).c) ≥ ((cs).getD ax 0)) := fun hh => hc1 ⟨hc1A, hh⟩
          refine tp rfl (lv_move rfl) (tp rfl (lv_gtr rfl rfl (decide_eq_true hc1A)) (tp rfl (lv_move rfl) ?_))
          refine t_guard rfl rfl ?_
          refine tp rfl (lv_move rfl) ?_
          refine t_guard rfl rfl ?_
          refine tp rfl (lv_nilCheck rfl) ?_
          refine t_guard rfl rfl ?_
          refine tp rfl (lv_fieldAddr (o' := 2) Tryz.underlying161 rfl Tryz.sizeOf3 rfl rfl) ?_
          refine t_guard rfl rfl ?_
          refine tp rfl (lv_load Tryz.isAgg3 rfl (gives_blk (.head _) rfl)) ?_
          refine t_guard rfl rfl ?_
          refine tp rfl (lv_move rfl) ?_
          refine t_guard rfl rfl ?_
          refine tp rfl (lv_geq rfl rfl (decide_eq_false hc1B)) (tp rfl (lv_pick_t rfl rfl) ?_)
          exact t_done (t_weak (by exact ⟨rfl, rfl, rfl, rfl, rfl, rfl, trivial⟩) hKK)
         ·
          refine tp rfl (lv_move rfl) (tp rfl (lv_gtr rfl rfl (decide_eq_false hc1A)) (tp rfl (lv_move rfl) ?_))
          refine t_skip rfl rfl rfl ?_
          refine t_skip rfl rfl rfl ?_
          refine t_skip rfl rfl rfl ?_
          refine t_skip rfl rfl rfl ?_
          refine t_skip rfl rfl rfl ?_
          refine t_skip rfl rfl rfl ?_
          refine tp rfl (lv_pick_f rfl rfl) ?_
          exact t_done (t_weak (by exact ⟨rfl, rfl, rfl, rfl, rfl, rfl, trivial⟩) hKK)
 · intro K0 hpass
   refine c_seq (fun K2 hK2 => c_region (tp rfl (lv_move rfl) (tp rfl (lv_move rfl) (t_f2 (t_f2 (t_f2 ?_))))))
   refine tc rfl (en_fn Tryz.call104 rfl) (costs_ok hTlp rfl hT.ok (by omega) hT.nd ws hw okl (by omega)) ?_
   rintro _ _ ⟨bs9, cp10, hok11, hle12, rfl, rfl⟩
   rw [show anyPos (costsL ms ws) = true from hany]
   refine tp rfl (lv_move rfl) (tp rfl (lv_extract rfl rfl) (tp rfl (lv_extract rfl rfl) (tp rfl (lv_assign rfl) (tp rfl (lv_assign rfl) (t_done (q_then_n (hK2 _ _ (c_seq (fun K3 hK3 => c_seq (fun K4 hK4 => c_region ?_))))))))))
   refine tp rfl (lv_move rfl) (tp rfl (lv_not (c := false) rfl rfl) (t_done (q_then_n (hK4 _ _ (c_false rfl (c_skip (q_then_n (hK3 _ _ (c_seq (fun K5 hK5 => c_region (tp rfl (lv_assign rfl) ?_)))))))))))
   refine t_done (q_then_n (hK5 _ _ (c_seq (fun K6 hK6 => ?_))))
   refine c_label ?_
   refine q_then_n (hK6 _ _ ?_)
   rw [hcs]
   refine t_f3 (t_f3 (t_f3 (t_f3 ?_)))
   exact t_weak (by exact ⟨rfl, rfl, rfl, trivial⟩) (hpass (bs9, cp10, ms, a, 0) ⟨hT.inv0 hal0 hcb, hok11⟩)
theorem take_okn {R : List HP} {p a nw : Nat} {q : Int} {ms : List M3} (ws : List (Int × Int)) (hwl : ws.length = nw) {bl : Option Addr} {cl : Nat} (hw : Rd R bl (pairs ws)) (okl : SlOk bl nw) (lw : nw ≤ 1000000) (hb : ms.length ≤ 50000) (hany : anyPos (costsL ms ws) = true) : Ok Tryz.prog 57 [.pointer (some ⟨p, 0, none⟩), .slice bl nw cl] (TurnsO p q ms a :: R) (fun v M => ∃ (tm : List M3) (ta : Nat), TakeR q (costsL ms ws) (ms, a) (tm, ta) ∧ v = .tuple #[.int .i64 (tm.getD ta M3.z).id, .bool true] ∧ M = TurnsO p q (setC tm ta ((tm.getD ta M3.z).c - (costsL ms ws).getD ta 0)) ta :: R) := by subst hwl; exact take_ok ws hw okl lw hb hany
end Go.Proofs.YtanfdikglplkaaaGreatDoor
