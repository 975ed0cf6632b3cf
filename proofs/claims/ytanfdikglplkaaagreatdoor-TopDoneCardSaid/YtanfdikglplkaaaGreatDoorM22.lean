/- Parts Eh: own lemmas and contracts of the code that the claim reaches. -/
import Derived.Test.YtanfdikglplkaaaGreatDoorM03
import Derived.Test.YtanfdikglplkaaaGreatDoorM21
import Derived.Test.YtanfdikglplkaaaGreatDoorM10
set_option linter.unusedSimpArgs false
set_option linter.unusedVariables false
set_option maxRecDepth 100000
namespace Go.Proofs.YtanfdikglplkaaaGreatDoor
open Go Go.Proofs Sp
set_option maxHeartbeats 4000000 in
theorem follows_ok {R : List HP} {e : Nat} {x : EP} {s : ES} (u : Nat) (hu : u < x.n) (st : Int) :
    Ok Tryz.prog 111 [(.pointer (some ⟨(x.ks.getD u (0, 0)).1, 0, none⟩)), (.int .i64 st)] ((EngC e x s) :: R)
      (fun v M => v = .bool (decide ((folS s u st).stt u ≥ 5)) ∧ M = EngC e x (folS s u st) :: R) := by
 refine ok_of (N := 33) Tryz.func111 rfl rfl rfl (fun W => ?_)
 refine t_learn (fun _ h => ef_of h) (fun hE => ?_)
 have hE_nb := hE.nb
 have hE_mb := hE.mb
 have hE_tn := hE.tn
 have hE_ln := hE.ln
 have hE_mn := hE.mn
 refine c_seq (fun K1 hK1 => c_region (tp rfl (lv_assign rfl) (t_done (q_then_n (hK1 _ _ (c_seq (fun K2 hK2 => c_region (tp rfl (lv_move rfl) (tp rfl (lv_nilCheck rfl) (tp rfl (lv_fieldAddr (o' := 3) Tryz.underlying76 rfl Tryz.sizeOf3 rfl rfl) ?_))))))))))
 refine ts (sv_tk (i := u) (o := 3) (z := { (s.tk.getD u Tk.z) with wt := (-1) }) (by omega) rfl (by decide) rfl Tryz.sizeOf3 rfl rfl) ?_
 refine t_done (q_then_n (hK2 _ _ (c_seq (fun K3 hK3 => c_seq (fun K4 hK4 => c_region (tp rfl (lv_move rfl) (t_done (q_then_n (hK4 _ _ (c_block (c_seq (fun K5 hK5 => ?_))))))))))))
 refine c_region ?_
 by_cases h1 : st = 5
 · refine tp rfl (lv_eql rfl rfl (beq_iff_eq.2 h1)) (tp rfl (lv_assign rfl) (t_done (q_then_n (hK5 _ _ (c_true rfl (c_region (tp rfl (lv_move rfl) (tp rfl (lv_nilCheck rfl) (tp rfl (lv_fieldAddr (o' := 2) Tryz.underlying76 rfl Tryz.sizeOf74 rfl rfl) (tp rfl (lv_load Tryz.isAgg74 rfl (gives_tk (i := u) (v := (.pointer (some ⟨(x.ks.getD u (0, 0)).2, 0, none⟩))) (.head _) (by omega) rfl)) ?_))))))))))
   refine tc rfl (en_fn Tryz.call148 rfl) (ok_life (i := u) (y := wakeL (s.lf.getD u Lf.z)) (by omega) (fun h => h.wake) (fun h _ => lWake_ok _ h)) ?_
   rintro _ _ ⟨rfl, rfl⟩
   refine t_done (q_in_n (q_then_n (hK3 _ _ (c_seq (fun K6 hK6 => c_region (tp rfl (lv_move rfl) (tp rfl (lv_nilCheck rfl) (tp rfl (lv_fieldAddr (o' := 2) Tryz.underlying76 rfl Tryz.sizeOf74 rfl rfl) (tp rfl (lv_load Tryz.isAgg74 rfl (gives_tk (i := u) (v := (.pointer (some ⟨(x.ks.getD u (0, 0)).2, 0, none⟩))) (.head _) (by omega) rfl)) ?_)))))))))
   refine tc rfl (en_fn Tryz.call77 rfl) (ok_life0 (i := u) (by omega) (fun _ => lFinal_ok _)) ?_
   rintro _ _ ⟨rfl, rfl⟩
   refine tp rfl (lv_assign rfl) (t_done (q_then_n (hK6 _ _ (c_ret ?_))))
   refine q_ret rfl rfl ?_
   have hfz : folS s u st = (s.setTk u ({ (s.tk.getD u Tk.z) with wt := (-1) })).lfu u wakeL := by unfold folS; rw [if_pos ‹_›]
   rw [hfz]
   exact ⟨rfl, rfl⟩
 · refine tp rfl (lv_eql rfl rfl (beq_eq_false_iff_ne.2 h1)) (tp rfl (lv_assign rfl) (t_done (q_then_n (hK5 _ _ (c_false rfl (c_seq (fun K6 hK6 => c_region ?_)))))))
   by_cases h2 : st = 6
   · refine tp rfl (lv_eql rfl rfl (beq_iff_eq.2 h2)) (tp rfl (lv_assign rfl) (t_done (q_then_n (hK6 _ _ (c_true rfl (c_region (tp rfl (lv_move rfl) (tp rfl (lv_nilCheck rfl) (tp rfl (lv_fieldAddr (o' := 2) Tryz.underlying76 rfl Tryz.sizeOf74 rfl rfl) (tp rfl (lv_load Tryz.isAgg74 rfl (gives_tk (i := u) (v := (.pointer (some ⟨(x.ks.getD u (0, 0)).2, 0, none⟩))) (.head _) (by omega) rfl)) ?_))))))))))
     refine tc rfl (en_fn Tryz.call118 rfl) (ok_life (i := u) (y := fallL (s.lf.getD u Lf.z)) (by omega) (fun h => h.fall) (fun h _ => lFall_ok _ h)) ?_
     rintro _ _ ⟨rfl, rfl⟩
     refine t_done (q_in_n (q_then_n (hK3 _ _ (c_seq (fun K7 hK7 => c_region (tp rfl (lv_move rfl) (tp rfl (lv_nilCheck rfl) (tp rfl (lv_fieldAddr (o' := 2) Tryz.underlying76 rfl Tryz.sizeOf74 rfl rfl) (tp rfl (lv_load Tryz.isAgg74 rfl (gives_tk (i := u) (v := (.pointer (some ⟨(x.ks.getD u (0, 0)).2, 0, none⟩))) (.head _) (by omega) rfl)) ?_)))))))))
     refine tc rfl (en_fn Tryz.call77 rfl) (ok_life0 (i := u) (by omega) (fun _ => lFinal_ok _)) ?_
     rintro _ _ ⟨rfl, rfl⟩
     refine tp rfl (lv_assign rfl) (t_done (q_then_n (hK7 _ _ (c_ret ?_))))
     refine q_ret rfl rfl ?_
     have hfz : folS s u st = (s.setTk u ({ (s.tk.getD u Tk.z) with wt := (-1) })).lfu u fallL := by unfold folS; rw [if_neg ‹_›, if_pos ‹_›]
     rw [hfz]
     exact ⟨rfl, rfl⟩
   · refine tp rfl (lv_eql rfl rfl (beq_eq_false_iff_ne.2 h2)) (tp rfl (lv_assign rfl) (t_done (q_then_n (hK6 _ _ (c_false rfl (c_region (tp rfl (lv_move rfl) (tp rfl (lv_nilCheck rfl) (tp rfl (lv_fieldAddr (o' := 2) Tryz.underlying76 rfl Tryz.sizeOf74 rfl rfl) (tp rfl (lv_load Tryz.isAgg74 rfl (gives_tk (i := u) (v := (.pointer (some ⟨(x.ks.getD u (0, 0)).2, 0, none⟩))) (.head _) (by omega) rfl)) ?_))))))))))
     refine tc rfl (en_fn Tryz.call119 rfl) (ok_life (i := u) (y := turnL (s.lf.getD u Lf.z)) (by omega) (fun h => h.turn) (fun h _ => lTurn_ok _ h)) ?_
     rintro _ _ ⟨rfl, rfl⟩
     refine t_done (q_in_n (q_then_n (hK3 _ _ (c_seq (fun K7 hK7 => c_region (tp rfl (lv_move rfl) (tp rfl (lv_nilCheck rfl) (tp rfl (lv_fieldAddr (o' := 2) Tryz.underlying76 rfl Tryz.sizeOf74 rfl rfl) (tp rfl (lv_load Tryz.isAgg74 rfl (gives_tk (i := u) (v := (.pointer (some ⟨(x.ks.getD u (0, 0)).2, 0, none⟩))) (.head _) (by omega) rfl)) ?_)))))))))
     refine tc rfl (en_fn Tryz.call77 rfl) (ok_life0 (i := u) (by omega) (fun _ => lFinal_ok _)) ?_
     rintro _ _ ⟨rfl, rfl⟩
     refine tp rfl (lv_assign rfl) (t_done (q_then_n (hK7 _ _ (c_ret ?_))))
     refine q_ret rfl rfl ?_
     have hfz : folS s u st = (s.setTk u ({ (s.tk.getD u Tk.z) with wt := (-1) })).lfu u turnL := by unfold folS; rw [if_neg ‹_›, if_neg ‹_›]
     rw [hfz]
     exact ⟨rfl, rfl⟩
set_option maxHeartbeats 4000000 in
theorem settle_ok {R : List HP} {e : Nat} {x : EP} {q A Q : Int} {y : OS} {vr : Nat} {es : Es} (t : Nat) (ht : t < x.n) (hy : OvOk x.n x.m A Q y) (hA : A ≤ 400 ∧ Q ≤ 400) (hV : VTab vr R) :
    Ok Tryz.prog 64 [(.pointer (some ⟨e, 0, none⟩)), (.int .i64 ((t : Nat) : Int))] ((EngC e x y.s) :: (GraphO x.g x.n es) :: (TurnsO x.tn q y.ms y.ta) :: (AdmO x.ad A Q y.as) :: R)
      (fun u M => ∃ sf z, Foll es y.s sf ∧ Ov { y with s := sf } z ∧ z.calm ∧ u = .tuple #[] ∧ M = EngC e x z.s :: GraphO x.g x.n es :: TurnsO x.tn q z.ms z.ta :: AdmO x.ad A Q z.as :: R) := by
 refine ok_of (N := 75) Tryz.func64 rfl rfl rfl (fun W => ?_)
 refine t_learn (fun _ h => ef_of h) (fun hE => ?_)
 have hE_nb := hE.nb
 have hE_mb := hE.mb
 have hE_tn := hE.tn
 have hE_ln := hE.ln
 have hE_mn := hE.mn
 refine c_seq (fun K1 hK1 => c_seq (fun K2 hK2 => c_region (tp rfl (lv_move rfl) ?_)))
 refine tm rfl (mv_buildSlice (cs := [(.int .i64 ((t : Nat) : Int))]) Tryz.underlying34 Tryz.sizeOf3 Tryz.zeroValue3 (by decide) rfl rfl rfl rfl) ?_
 rintro _ _ ⟨bs1, cp2, hok3, hle4, rfl, rfl⟩
 refine tp rfl (lv_assign rfl) (t_done (q_then_n (hK2 _ _ (c_block ?_))))
 have hl1 : SlOk bs1 1 ∧ 1 ≤ cp2 := ⟨hok3, hle4⟩
 refine t_sat (fun _ h => slv_slt h) ?_
 rw [show [Value.int .i64 ((t : Nat) : Int)] = ints .i64 [((t : Nat) : Int)] from rfl]
 refine c_loop (γ := (ES) × (List Int) × (Option Addr) × (Nat)) (fun (s, l, bt, ct) => Foll es y.s s ∧ (∀ i ∈ l, 0 ≤ i ∧ i < x.n) ∧ 2 * cntW s + l.length ≤ 200 ∧ SlOk bt l.length ∧ l.length ≤ ct) (fun (s, l, bt, ct) => [(0, (vP e 0)), (1, (vN t)), (4, (.slice bt l.length ct))]) (fun (s, l, bt, ct) => (SlT 3 1 (.slice bt l.length ct) l.length (ints .i64 l)) :: (EngC e x s) :: (GraphO x.g x.n es) :: (TurnsO x.tn q y.ms y.ta) :: (AdmO x.ad A Q y.as) :: R) (fun (s, l, bt, ct) => 2 * cntW s + l.length) (y.s, [((t : Nat) : Int)], bs1, cp2) ⟨.refl _, fun i hi => by simp at hi; subst hi; omega, by have := cntW_le y.s; have := hE.ln; simp; omega, hl1.1, hl1.2⟩ ⟨rfl, rfl, rfl, trivial⟩ (fun _ h => h) ?_
 rintro ⟨s, l, bt, ct⟩ K3 hF hK3
 try dsimp only at hF hK3 ⊢
 obtain ⟨hfo, hin, hms, hok, hle⟩ := hF
 refine c_seq (fun K4 hK4 => c_seq (fun K5 hK5 => c_region (tp rfl (lv_move rfl) (tp rfl (lv_len Tryz.underlying34 rfl rfl) ?_))))
 by_cases h5 : ((l.length : Nat) : Int) > 0
 · refine tp rfl (lv_gtr rfl rfl (decide_eq_true h5)) (t_done (q_then_n (hK5 _ _ (c_true rfl (c_skip (q_then_n (hK4 _ _ (c_seq (fun K6 hK6 => c_block (c_seq (fun K7 hK7 => ?_)))))))))))
   obtain ⟨a, hqa⟩ : ∃ a, l.getD 0 0 = a := ⟨_, rfl⟩
   have hqa2 : l.getD (0 : Int).toNat 0 = a := hqa
   have ha0 := hin a (by rw [← hqa]; exact mem_getD (by omega))
   refine t_f2 ?_
   refine t_learn (fun _ h => gok_of h) (fun hgok => ?_)
   refine t_f2 ?_
   refine t_learn (fun _ h => ef_of h) (fun hE => ?_)
   have hE_nb := hE.nb
   have hE_mb := hE.mb
   have hE_tn := hE.tn
   have hE_ln := hE.ln
   have hE_mn := hE.mn
   refine c_draw (γ := Option Addr × Nat) (n := 10) Tryz.mixed rfl rfl (fun (bs6, cp7) S => (S 7 = true → SlOk bs6 ((inns es a).length)) ∧ (S 7 = true → (inns es a).length ≤ cp7)) (fun (bs6, cp7) => [(0, 15, (vP e 0)), (1, 16, (vP e 0)), (2, 17, (vP e 13)), (3, 18, (vP x.g 0)), (4, 19, (.slice bt l.length ct)), (5, 20, (.pointer (some (ad bt 0)))), (6, 21, (.int .i64 a)), (7, 22, (.slice bs6 ((inns es a).length) cp7)), (8, 23, (.int .i64 (((inns es a).length : Nat) : Int))), (9, 24, (.int .i64 0))]) (fun (bs6, cp7) S => (EngC e x s) :: (GraphO x.g x.n es) :: (SlT 3 1 (.slice bt l.length ct) l.length (ints .i64 l)) :: (TurnsO x.tn q y.ms y.ta) :: (AdmO x.ad A Q y.as) :: (bif S 7 then (SlV 3 1 (.slice bs6 ((inns es a).length) cp7) ((inns es a).length) (ints .i64 (inns es a))) else Emp) :: R) (none, 0) (by simp [Nat.ble]) (fun _ h => sat_emps [_, _, _, _, _] 1 h) (fun _ _ h => h) ?_ ?_
   · refine ⟨?_, ?_, ?_, ?_, ?_, ?_, ?_, ?_, ?_, ?_, trivial⟩
     · rintro ⟨bs6, cp7⟩ S hF hS D hp K hK; try dsimp only
       exact d_lv1 (look_b (t := 0) rfl rfl) (lv_move rfl) 0 rfl rfl hS (hK (bs6, cp7) hF)
     · rintro ⟨bs6, cp7⟩ S hF hS D hp K hK; try dsimp only
       exact d_lv1 (lkr hp 0 rfl rfl) (lv_nilCheck rfl) 1 rfl rfl hS (hK (bs6, cp7) hF)
     · rintro ⟨bs6, cp7⟩ S hF hS D hp K hK; try dsimp only
       exact d_lv1 (lkr hp 1 rfl rfl) (lv_fieldAddr (o' := 13) Tryz.underlying73 rfl Tryz.sizeOf67 rfl rfl) 2 rfl rfl hS (hK (bs6, cp7) hF)
     · rintro ⟨bs6, cp7⟩ S hF hS D hp K hK; try dsimp only
       exact d_lv1 (lkr hp 2 rfl rfl) (lv_load Tryz.isAgg67 rfl (gives_e (v := (.pointer (some ⟨x.g, 0, none⟩))) (.head _) (fun _ _ => rfl))) 3 rfl rfl hS (hK (bs6, cp7) hF)
     · rintro ⟨bs6, cp7⟩ S hF hS D hp K hK; try dsimp only
       exact d_lv1 (look_b (t := 4) rfl rfl) (lv_move rfl) 4 rfl rfl hS (hK (bs6, cp7) hF)
     · rintro ⟨bs6, cp7⟩ S hF hS D hp K hK; try dsimp only
       exact d_lv1 (lkr hp 4 rfl rfl) (lv_indexAddr (k' := 0) Tryz.underlying34 Tryz.sizeOf3 rfl rfl hok (by omega) (by omega) (by omega)) 5 rfl rfl hS (hK (bs6, cp7) hF)
     · rintro ⟨bs6, cp7⟩ S hF hS D hp K hK; try dsimp only
       exact d_lv1 (lkr hp 5 rfl rfl) (lv_load Tryz.isAgg3 rfl (gives_as (v := .int .i64 a) (congrArg (Value.int .i64) hqa) (gives_slt (.tail _ (.tail _ (.head _))) (ints_get (by omega))))) 6 rfl rfl hS (hK (bs6, cp7) hF)
     · rintro ⟨bs6, cp7⟩ S hF hS D hp K hK
       try dsimp only at hF ⊢
       obtain ⟨hf0, hf1⟩ := hF
       have s3 := hp 3 rfl
       have s6 := hp 6 rfl
       refine d_need (small := [(18, (vP x.g 0)), (21, (.int .i64 a))]) ⟨look_row rfl 3 rfl s3, look_row rfl 6 rfl s6, trivial⟩ ?_
       refine t_f1 ?_
       refine tc rfl (en_fn Tryz.call110 rfl) (in_ok (N := x.n) (es := es) a) ?_
       rintro _ _ ⟨bs6, cp7, hok8, hle9, rfl, rfl⟩
       refine t_f1 (t_f2 (t_f2 ?_))
       refine t_sat (fun _ h => sat_put [_, _, _, _, _] h) ?_
       exact d_closes ⟨look_row rfl 3 rfl s3, look_row rfl 6 rfl s6, trivial⟩ 7 rfl rfl rfl hS (by exact ⟨.inl rfl, .inl rfl, .inl rfl, .inl rfl, .inl rfl, .inl rfl, .inl rfl, .inr ⟨rfl, rfl, hS⟩, .inl rfl, .inl rfl, trivial⟩) (t_sat (fun _ h => h) (hK (bs6, cp7) ⟨(fun _ => hok8), (fun _ => hle9)⟩))
     · rintro ⟨bs6, cp7⟩ S hF hS D hp K hK; try dsimp only
       exact d_lv1 (lkr hp 7 rfl rfl) (lv_len Tryz.underlying34 rfl rfl) 8 rfl rfl hS (hK (bs6, cp7) hF)
     · rintro ⟨bs6, cp7⟩ S hF hS D hp K hK; try dsimp only
       exact d_lv0 (lv_move rfl) 9 rfl rfl hS (hK (bs6, cp7) hF)
   · rintro ⟨bs6, cp7⟩ hF
     try dsimp only at hF ⊢
     obtain ⟨hf0, hf1⟩ := hF
     have hok8 := hf0 rfl
     have hle9 := hf1 rfl
     refine t_weak (E' := [(0, (vP e 0)), (1, (vN t)), (4, (.slice bt l.length ct)), (12, (.bool true)), (22, (.slice bs6 ((inns es a).length) cp7)), (23, (.int .i64 (((inns es a).length : Nat) : Int))), (24, (.int .i64 0))]) ⟨rfl, rfl, rfl, rfl, rfl, rfl, rfl, trivial⟩ ?_
     refine q_then_n (hK7 _ _ (c_block ?_))
     refine c_loop (γ := (Nat) × (ES) × (List Int) × (Option Addr) × (Nat)) (fun (j, s1, lq, bm, cm) => j ≤ (inns es a).length ∧ Foll es y.s s1 ∧ (∀ i ∈ lq, 0 ≤ i ∧ i < x.n) ∧ lq.getD 0 0 = a ∧ 0 < lq.length ∧ 2 * cntW s1 + lq.length ≤ 2 * cntW s + l.length ∧ SlOk bm lq.length ∧ lq.length ≤ cm) (fun (j, s1, lq, bm, cm) => [(0, (vP e 0)), (1, (vN t)), (4, (.slice bm lq.length cm)), (12, (.bool true)), (22, (.slice bs6 ((inns es a).length) cp7)), (23, (.int .i64 (((inns es a).length : Nat) : Int))), (24, (vN j))]) (fun (j, s1, lq, bm, cm) => (EngC e x s1) :: (GraphO x.g x.n es) :: (SlT 3 1 (.slice bm lq.length cm) lq.length (ints .i64 lq)) :: (TurnsO x.tn q y.ms y.ta) :: (AdmO x.ad A Q y.as) :: (SlV 3 1 (.slice bs6 ((inns es a).length) cp7) ((inns es a).length) (ints .i64 (inns es a))) :: R) (fun (j, s1, lq, bm, cm) => (inns es a).length - j) (0, s, l, bt, ct) ⟨Nat.zero_le _, hfo, hin, hqa, by omega, Nat.le_refl _, hok, hle⟩ ⟨rfl, rfl, rfl, rfl, rfl, rfl, rfl, trivial⟩ (fun _ h => h) ?_
     rintro ⟨j, s1, lq, bm, cm⟩ K8 hF hK8
     try dsimp only at hF hK8 ⊢
     obtain ⟨hj, hf1, hin1, hla, hlp, hm1, hokm, hlem⟩ := hF
     have hil := hgok.inns_le a
     refine c_seq (fun K9 hK9 => c_region ?_)
     by_cases h10 : ((j : Nat) : Int) < (((inns es a).length : Nat) : Int)
     · refine tp rfl (lv_lss rfl rfl (decide_eq_true h10)) (t_done (q_then_n (hK9 _ _ (c_seq (fun K10 hK10 => c_true rfl (c_skip (q_then_n (hK10 _ _ (c_seq (fun K11 hK11 => c_block (c_seq (fun K12 hK12 => ?_))))))))))))
       refine c_region (tp rfl (lv_indexAddr (k' := j) Tryz.underlying34 Tryz.sizeOf3 rfl rfl hok8 (by omega) (by omega) (by omega)) ?_)
       refine tp rfl (lv_load Tryz.isAgg3 rfl (gives_sl (.tail _ (.tail _ (.tail _ (.tail _ (.tail _ (.head _)))))) (ints_get (by first | omega | (simp; omega))))) ?_
       refine tp rfl (lv_assign rfl) (t_done (q_then_n (hK12 _ _ (c_seq (fun K13 hK13 => c_region ?_)))))
       obtain ⟨uu, huu⟩ : ∃ u, (inns es a).getD j 0 = u := ⟨_, rfl⟩
       rw [huu]
       have hum : uu ∈ inns es a := by rw [← huu]; exact mem_getD (by omega)
       have hue := inns_mem.1 hum
       have hu0 := hgok.inns_inn hum
       refine t_learn (fun _ h => ef_of h) (fun hE => ?_)
       have hE_nb := hE.nb
       have hE_mb := hE.mb
       have hE_tn := hE.tn
       have hE_ln := hE.ln
       have hE_mn := hE.mn
       have hla2 : lq.getD (0 : Int).toNat 0 = a := hla
       refine tp rfl (lv_move rfl) (tp rfl (lv_nilCheck rfl) (tp rfl (lv_fieldAddr (o' := 11) Tryz.underlying73 rfl Tryz.sizeOf65 rfl rfl) (tp rfl (lv_load Tryz.isAgg65 rfl (gives_e (v := (.slice x.bt x.n x.ct)) (.head _) (fun _ _ => rfl))) (tp rfl (lv_move rfl) (tp rfl (lv_indexAddr (k' := uu.toNat) Tryz.underlying65 Tryz.sizeOf64 rfl rfl hE.okt (by omega) (by omega) (by omega)) ?_)))))
       refine tp rfl (lv_load Tryz.isAgg64 rfl (gives_bt (i := uu.toNat) (.head _) (by omega))) ?_
       refine tp rfl (lv_assign rfl) (t_done (q_then_n (hK13 _ _ (c_seq (fun K14 hK14 => ?_)))))
       by_cases hwt : ((s1.tk.getD uu.toNat Tk.z).wt) = a
       · by_cases hst3 : ((s1.lf.getD uu.toNat Lf.z).st) = 3
         · refine c_draw (γ := Unit) (n := 33) Tryz.mixed rfl rfl (fun _ S => True) (fun _ => [(0, 35, (.pointer (some ⟨(x.ks.getD uu.toNat (0, 0)).1, 0, none⟩))), (1, 36, (.pointer (some ⟨(x.ks.getD uu.toNat (0, 0)).1, 0, none⟩))), (2, 37, (.pointer (some ⟨(x.ks.getD uu.toNat (0, 0)).1, 3, none⟩))), (3, 38, (.int .i64 ((s1.tk.getD uu.toNat Tk.z).wt))), (4, 39, (.slice bm lq.length cm)), (5, 40, (.pointer (some (ad bm 0)))), (6, 41, (.int .i64 a)), (7, 42, (.bool true)), (8, 43, (.bool true)), (9, 44, (.pointer (some ⟨(x.ks.getD uu.toNat (0, 0)).1, 0, none⟩))), (10, 45, (.pointer (some ⟨(x.ks.getD uu.toNat (0, 0)).1, 0, none⟩))), (11, 46, (.pointer (some ⟨(x.ks.getD uu.toNat (0, 0)).1, 2, none⟩))), (12, 47, (.pointer (some ⟨(x.ks.getD uu.toNat (0, 0)).2, 0, none⟩))), (13, 48, (.int .i64 ((s1.lf.getD uu.toNat Lf.z).st))), (14, 49, (.bool true)), (15, 50, (.bool true)), (16, 51, (.bool true)), (17, 52, (.pointer (some ⟨(x.ks.getD uu.toNat (0, 0)).1, 0, none⟩))), (18, 53, (vP e 0)), (19, 54, (vP e 0)), (20, 55, (vP e 11)), (21, 56, (.slice x.bt x.n x.ct)), (22, 57, (.slice bm lq.length cm)), (23, 58, (.pointer (some (ad bm 0)))), (24, 59, (.int .i64 a)), (25, 60, (.pointer (some (ad x.bt a.toNat)))), (26, 61, (.pointer (some ⟨(x.ks.getD a.toNat (0, 0)).1, 0, none⟩))), (27, 62, (.pointer (some ⟨(x.ks.getD a.toNat (0, 0)).1, 0, none⟩))), (28, 63, (.pointer (some ⟨(x.ks.getD a.toNat (0, 0)).1, 2, none⟩))), (29, 64, (.pointer (some ⟨(x.ks.getD a.toNat (0, 0)).2, 0, none⟩))), (30, 65, (.int .i64 ((s1.lf.getD a.toNat Lf.z).st))), (31, 66, (.bool (decide ((folS s1 uu.toNat ((s1.lf.getD a.toNat Lf.z).st)).stt uu.toNat ≥ 5)))), (32, 67, (.bool (decide ((folS s1 uu.toNat ((s1.lf.getD a.toNat Lf.z).st)).stt uu.toNat ≥ 5))))]) (fun _ S => (bif S 31 then (EngC e x (folS s1 uu.toNat ((s1.lf.getD a.toNat Lf.z).st))) else (EngC e x s1)) :: (GraphO x.g x.n es) :: (SlT 3 1 (.slice bm lq.length cm) lq.length (ints .i64 lq)) :: (TurnsO x.tn q y.ms y.ta) :: (AdmO x.ad A Q y.as) :: (SlV 3 1 (.slice bs6 ((inns es a).length) cp7) ((inns es a).length) (ints .i64 (inns es a))) :: R) (()) trivial (fun _ h => h) (fun _ _ h => h) ?_ ?_
           · refine ⟨?_, ?_, ?_, ?_, ?_, ?_, ?_, ?_, ?_, ?_, ?_, ?_, ?_, ?_, ?_, ?_, ?_, ?_, ?_, ?_, ?_, ?_, ?_, ?_, ?_, ?_, ?_, ?_, ?_, ?_, ?_, ?_, ?_, trivial⟩
             · intro _ S h s D p K k; exact d_lv1 (look_b (t := 7) rfl rfl) (lv_move rfl) 0 rfl rfl s (k () h)
             · intro _ S h s D p K k; exact d_lv1 (lkr p 0 rfl rfl) (lv_nilCheck rfl) 1 rfl rfl s (k () h)
             · intro _ S h s D p K k; exact d_lv1 (lkr p 1 rfl rfl) (lv_fieldAddr (o' := 3) Tryz.underlying76 rfl Tryz.sizeOf3 rfl rfl) 2 rfl rfl s (k () h)
             · rintro _ S hF hS D hp K hK; try dsimp only
               exact d_lv1 (lkr hp 2 rfl rfl) (lv_load Tryz.isAgg3 rfl (gives_tk (i := uu.toNat) (v := (.int .i64 ((s1.tk.getD uu.toNat Tk.z).wt))) (mem_cF (nf (nf (nf (nf (nf (nf (nf (nf (nf (nf (nf (nf (nf (nf (nf (nf (nf (nf (nf (nf hS D (k := 7) (i := 3) rfl) D (k := 8) (i := 7) rfl) D (k := 9) (i := 8) rfl) D (k := 10) (i := 9) rfl) D (k := 11) (i := 10) rfl) D (k := 12) (i := 11) rfl) D (k := 13) (i := 12) rfl) D (k := 14) (i := 13) rfl) D (k := 15) (i := 14) rfl) D (k := 16) (i := 15) rfl) D (k := 22) (i := 16) rfl) D (k := 23) (i := 22) rfl) D (k := 24) (i := 23) rfl) D (k := 25) (i := 24) rfl) D (k := 26) (i := 25) rfl) D (k := 27) (i := 26) rfl) D (k := 28) (i := 27) rfl) D (k := 29) (i := 28) rfl) D (k := 30) (i := 29) rfl) D (k := 31) (i := 30) rfl) (.head _)) (by omega) rfl)) 3 rfl rfl hS (hK () hF)
             · intro _ S h s D p K k; exact d_lv1 (look_b (t := 4) rfl rfl) (lv_move rfl) 4 rfl rfl s (k () h)
             · rintro _ S hF hS D hp K hK; try dsimp only
               exact d_lv1 (lkr hp 4 rfl rfl) (lv_indexAddr (k' := 0) Tryz.underlying34 Tryz.sizeOf3 rfl rfl hokm (by omega) (by omega) (by omega)) 5 rfl rfl hS (hK () hF)
             · intro _ S h s D p K k; exact d_lv1 (lkr p 5 rfl rfl) (lv_load Tryz.isAgg3 rfl (gives_as (v := .int .i64 a) (congrArg (Value.int .i64) hla) (gives_slt (.tail _ (.tail _ (.head _))) (ints_get (by omega))))) 6 rfl rfl s (k () h)
             · intro _ S h s D p K k; exact d_lv2 (lkr p 3 rfl rfl) (lkr p 6 rfl rfl) (lv_eql rfl rfl (beq_iff_eq.2 hwt)) 7 rfl rfl s (k () h)
             · intro _ S h s D p K k; exact d_lv1 (lkr p 7 rfl rfl) (lv_move rfl) 8 rfl rfl s (k () h)
             · intro _ S h s D p K k; exact d_gd2 (look_b (t := 7) rfl rfl) (lkr p 8 rfl rfl) rfl rfl (lv_move rfl) 9 rfl rfl s (k () h)
             · intro _ S h s D p K k; exact d_gd2 (lkr p 8 rfl rfl) (lkr p 9 rfl rfl) rfl rfl (lv_nilCheck rfl) 10 rfl rfl s (k () h)
             · intro _ S h s D p K k; exact d_gd2 (lkr p 8 rfl rfl) (lkr p 10 rfl rfl) rfl rfl (lv_fieldAddr (o' := 2) Tryz.underlying76 rfl Tryz.sizeOf74 rfl rfl) 11 rfl rfl s (k () h)
             · rintro _ S hF hS D hp K hK; try dsimp only
               exact d_gd2 (lkr hp 8 rfl rfl) (lkr hp 11 rfl rfl) rfl rfl (lv_load Tryz.isAgg74 rfl (gives_tk (i := uu.toNat) (v := (.pointer (some ⟨(x.ks.getD uu.toNat (0, 0)).2, 0, none⟩))) (mem_cF (nf (nf (nf (nf (nf (nf (nf (nf (nf (nf (nf (nf (nf (nf hS D (k := 13) (i := 12) rfl) D (k := 14) (i := 13) rfl) D (k := 15) (i := 14) rfl) D (k := 16) (i := 15) rfl) D (k := 22) (i := 16) rfl) D (k := 23) (i := 22) rfl) D (k := 24) (i := 23) rfl) D (k := 25) (i := 24) rfl) D (k := 26) (i := 25) rfl) D (k := 27) (i := 26) rfl) D (k := 28) (i := 27) rfl) D (k := 29) (i := 28) rfl) D (k := 30) (i := 29) rfl) D (k := 31) (i := 30) rfl) (.head _)) (by omega) rfl)) 12 rfl rfl hS (hK () hF)
             · rintro _ S hF hS D hp K hK
               try dsimp only at hF ⊢
               have s8 := hp 8 rfl
               have s12 := hp 12 rfl
               refine d_need (small := [(43, (.bool true)), (47, (.pointer (some ⟨(x.ks.getD uu.toNat (0, 0)).2, 0, none⟩)))]) ⟨look_row rfl 8 rfl s8, look_row rfl 12 rfl s12, trivial⟩ ?_
               refine t_cF (nf (nf (nf (nf (nf (nf (nf (nf (nf (nf (nf hS D (k := 16) (i := 13) rfl) D (k := 22) (i := 16) rfl) D (k := 23) (i := 22) rfl) D (k := 24) (i := 23) rfl) D (k := 25) (i := 24) rfl) D (k := 26) (i := 25) rfl) D (k := 27) (i := 26) rfl) D (k := 28) (i := 27) rfl) D (k := 29) (i := 28) rfl) D (k := 30) (i := 29) rfl) D (k := 31) (i := 30) rfl) ?_
               refine t_guard rfl rfl ?_
               refine tc rfl (en_fn Tryz.call23 rfl) (ok_life0 (i := uu.toNat) (by omega) (fun _ => lState_ok _)) ?_
               rintro _ _ ⟨rfl, rfl⟩
               refine t_wF (A := (EngC e x (folS s1 uu.toNat ((s1.lf.getD a.toNat Lf.z).st)))) (nf (nf (nf (nf (nf (nf (nf (nf (nf (nf (nf hS D (k := 16) (i := 13) rfl) D (k := 22) (i := 16) rfl) D (k := 23) (i := 22) rfl) D (k := 24) (i := 23) rfl) D (k := 25) (i := 24) rfl) D (k := 26) (i := 25) rfl) D (k := 27) (i := 26) rfl) D (k := 28) (i := 27) rfl) D (k := 29) (i := 28) rfl) D (k := 30) (i := 29) rfl) D (k := 31) (i := 30) rfl) ?_
               exact d_closes ⟨look_row rfl 8 rfl s8, look_row rfl 12 rfl s12, trivial⟩ 13 rfl rfl rfl hS (AgreeR.refl _) (t_sat (fun _ h => h) (hK () trivial))
             · intro _ S h s D p K k; exact d_gd2 (lkr p 8 rfl rfl) (lkr p 13 rfl rfl) rfl rfl (lv_eql rfl rfl (beq_iff_eq.2 hst3)) 14 rfl rfl s (k () h)
             · intro _ S h s D p K k; exact d_lv2 (lkr p 8 rfl rfl) (lkr p 14 rfl rfl) (lv_pick_t rfl rfl) 15 rfl rfl s (k () h)
             · intro _ S h s D p K k; exact d_lv1 (lkr p 15 rfl rfl) (lv_move rfl) 16 rfl rfl s (k () h)
             · intro _ S h s D p K k; exact d_gd2 (look_b (t := 7) rfl rfl) (lkr p 16 rfl rfl) rfl rfl (lv_move rfl) 17 rfl rfl s (k () h)
             · intro _ S h s D p K k; exact d_gd2 (look_b (t := 0) rfl rfl) (lkr p 16 rfl rfl) rfl rfl (lv_move rfl) 18 rfl rfl s (k () h)
             · intro _ S h s D p K k; exact d_gd2 (lkr p 16 rfl rfl) (lkr p 18 rfl rfl) rfl rfl (lv_nilCheck rfl) 19 rfl rfl s (k () h)
             · intro _ S h s D p K k; exact d_gd2 (lkr p 16 rfl rfl) (lkr p 19 rfl rfl) rfl rfl (lv_fieldAddr (o' := 11) Tryz.underlying73 rfl Tryz.sizeOf65 rfl rfl) 20 rfl rfl s (k () h)
             · rintro _ S hF hS D hp K hK; try dsimp only
               exact d_gd2 (lkr hp 16 rfl rfl) (lkr hp 20 rfl rfl) rfl rfl (lv_load Tryz.isAgg65 rfl (gives_e (v := (.slice x.bt x.n x.ct)) (mem_cF (nf (nf (nf (nf (nf (nf (nf hS D (k := 25) (i := 21) rfl) D (k := 26) (i := 25) rfl) D (k := 27) (i := 26) rfl) D (k := 28) (i := 27) rfl) D (k := 29) (i := 28) rfl) D (k := 30) (i := 29) rfl) D (k := 31) (i := 30) rfl) (.head _)) (fun _ _ => rfl))) 21 rfl rfl hS (hK () hF)
             · intro _ S h s D p K k; exact d_gd2 (look_b (t := 4) rfl rfl) (lkr p 16 rfl rfl) rfl rfl (lv_move rfl) 22 rfl rfl s (k () h)
             · rintro _ S hF hS D hp K hK; try dsimp only
               exact d_gd2 (lkr hp 16 rfl rfl) (lkr hp 22 rfl rfl) rfl rfl (lv_indexAddr (k' := 0) Tryz.underlying34 Tryz.sizeOf3 rfl rfl hokm (by omega) (by omega) (by omega)) 23 rfl rfl hS (hK () hF)
             · intro _ S h s D p K k; exact d_gd2 (lkr p 16 rfl rfl) (lkr p 23 rfl rfl) rfl rfl (lv_load Tryz.isAgg3 rfl (gives_as (v := .int .i64 a) (congrArg (Value.int .i64) hla) (gives_slt (.tail _ (.tail _ (.head _))) (ints_get (by omega))))) 24 rfl rfl s (k () h)
             · rintro _ S hF hS D hp K hK; try dsimp only
               exact d_gd3 (lkr hp 16 rfl rfl) (lkr hp 21 rfl rfl) (lkr hp 24 rfl rfl) rfl rfl (lv_indexAddr (k' := a.toNat) Tryz.underlying65 Tryz.sizeOf64 rfl rfl hE.okt (by omega) (by omega) (by omega)) 25 rfl rfl hS (hK () hF)
             · rintro _ S hF hS D hp K hK; try dsimp only
               exact d_gd2 (lkr hp 16 rfl rfl) (lkr hp 25 rfl rfl) rfl rfl (lv_load Tryz.isAgg64 rfl (gives_bt (i := a.toNat) (mem_cF (nf (nf (nf (nf (nf hS D (k := 27) (i := 26) rfl) D (k := 28) (i := 27) rfl) D (k := 29) (i := 28) rfl) D (k := 30) (i := 29) rfl) D (k := 31) (i := 30) rfl) (.head _)) (by omega))) 26 rfl rfl hS (hK () hF)
             · intro _ S h s D p K k; exact d_gd2 (lkr p 16 rfl rfl) (lkr p 26 rfl rfl) rfl rfl (lv_nilCheck rfl) 27 rfl rfl s (k () h)
             · intro _ S h s D p K k; exact d_gd2 (lkr p 16 rfl rfl) (lkr p 27 rfl rfl) rfl rfl (lv_fieldAddr (o' := 2) Tryz.underlying76 rfl Tryz.sizeOf74 rfl rfl) 28 rfl rfl s (k () h)
             · rintro _ S hF hS D hp K hK; try dsimp only
               exact d_gd2 (lkr hp 16 rfl rfl) (lkr hp 28 rfl rfl) rfl rfl (lv_load Tryz.isAgg74 rfl (gives_tk (i := a.toNat) (v := (.pointer (some ⟨(x.ks.getD a.toNat (0, 0)).2, 0, none⟩))) (mem_cF (nf (nf hS D (k := 30) (i := 29) rfl) D (k := 31) (i := 30) rfl) (.head _)) (by omega) rfl)) 29 rfl rfl hS (hK () hF)
             · rintro _ S hF hS D hp K hK
               try dsimp only at hF ⊢
               have s16 := hp 16 rfl
               have s29 := hp 29 rfl
               refine d_need (small := [(51, (.bool true)), (64, (.pointer (some ⟨(x.ks.getD a.toNat (0, 0)).2, 0, none⟩)))]) ⟨look_row rfl 16 rfl s16, look_row rfl 29 rfl s29, trivial⟩ ?_
               refine t_cF (nf hS D (k := 31) (i := 30) rfl) ?_
               refine t_guard rfl rfl ?_
               refine tc rfl (en_fn Tryz.call23 rfl) (ok_life0 (i := a.toNat) (by omega) (fun _ => lState_ok _)) ?_
               rintro _ _ ⟨rfl, rfl⟩
               refine t_wF (A := (EngC e x (folS s1 uu.toNat ((s1.lf.getD a.toNat Lf.z).st)))) (nf hS D (k := 31) (i := 30) rfl) ?_
               exact d_closes ⟨look_row rfl 16 rfl s16, look_row rfl 29 rfl s29, trivial⟩ 30 rfl rfl rfl hS (AgreeR.refl _) (t_sat (fun _ h => h) (hK () trivial))
             · rintro _ S hF hS D hp K hK
               try dsimp only at hF ⊢
               have s16 := hp 16 rfl
               have s17 := hp 17 rfl
               have s30 := hp 30 rfl
               refine d_need (small := [(51, (.bool true)), (52, (.pointer (some ⟨(x.ks.getD uu.toNat (0, 0)).1, 0, none⟩))), (65, (.int .i64 ((s1.lf.getD a.toNat Lf.z).st)))]) ⟨look_row rfl 16 rfl s16, look_row rfl 17 rfl s17, look_row rfl 30 rfl s30, trivial⟩ ?_
               refine t_cF hS ?_
               refine t_guard rfl rfl ?_
               refine tc rfl (en_fn Tryz.call111 rfl) (follows_ok (s := s1) uu.toNat (by omega) ((s1.lf.getD a.toNat Lf.z).st)) ?_
               rintro _ _ ⟨rfl, rfl⟩
               exact d_closes ⟨look_row rfl 16 rfl s16, look_row rfl 17 rfl s17, look_row rfl 30 rfl s30, trivial⟩ 31 rfl rfl rfl hS (AgreeR.refl _) (t_sat (fun _ h => h) (hK () trivial))
             · intro _ S h s D p K k; exact d_lv2 (lkr p 16 rfl rfl) (lkr p 31 rfl rfl) (lv_pick_t rfl rfl) 32 rfl rfl s (k () h)
           · rintro _ hF
             try dsimp only at hF ⊢
             refine t_weak (E' := [(0, (vP e 0)), (1, (vN t)), (4, (.slice bm lq.length cm)), (6, (.int .i64 uu)), (7, (.pointer (some ⟨(x.ks.getD uu.toNat (0, 0)).1, 0, none⟩))), (12, (.bool true)), (22, (.slice bs6 ((inns es a).length) cp7)), (23, (.int .i64 (((inns es a).length : Nat) : Int))), (24, (vN j)), (25, (.bool true)), (67, (.bool (decide ((folS s1 uu.toNat ((s1.lf.getD a.toNat Lf.z).st)).stt uu.toNat ≥ 5))))]) ⟨rfl, rfl, rfl, rfl, rfl, rfl, rfl, rfl, rfl, rfl, rfl, trivial⟩ ?_
             refine q_then_n (hK14 _ _ ?_)
             refine c_split rfl (fun c11 => ?_) (fun c11 => ?_)
             · refine c_region (tp rfl (lv_move rfl) (tp rfl (lv_move rfl) ?_))
               refine tm rfl (mv_buildSlice (cs := [(.int .i64 uu)]) Tryz.underlying34 Tryz.sizeOf3 Tryz.zeroValue3 (by decide) rfl rfl rfl rfl) ?_
               rintro _ _ ⟨bs12, cp13, hok14, hle15, rfl, rfl⟩
               refine t_f3 ?_
               refine tm rfl (mv_appendT (i := Tryz.t3) Tryz.underlying34 Tryz.type3 rfl rfl rfl (by decide) rfl rfl hok14 (by first | (simp; done) | (simp; omega)) (rd_sl (.tail _ (.head _))) (by simp [Value.oneCell']) (by rw [show Tryz.t3.bytes = 8 from rfl]; omega)) ?_
               rintro _ _ ⟨bs16, cp17, hok18, hle19, rfl, rfl⟩
               rw [show ints .i64 lq ++ [(.int .i64 uu)] = ints .i64 (lq ++ [uu]) from ints_snoc _ _ _]
               rw [show lq.length + 1 = (lq ++ [uu]).length from by simp] at hok18 hle19 ⊢
               refine tp rfl (lv_assign rfl) (t_done (q_in_n (q_then_n (hK11 _ _ (c_region (tp rfl (lv_add (c := ((j + 1 : Nat) : Int)) rfl rfl (wr_i64_succ (by omega))) ?_))))))
               refine tp rfl (lv_move rfl) (t_done (q_then_n (t_f1 (t_drop (t_f2 (t_f2 ?_))))))
               exact t_weak (by exact ⟨rfl, rfl, rfl, rfl, rfl, rfl, rfl, trivial⟩) ((hK8 (j + 1, folS s1 uu.toNat (s1.stt a.toNat), lq ++ [uu], bs16, cp17) ⟨by omega, hf1.step uu a hue hwt hst3, fun i hi => (by rcases List.mem_append.1 hi with h | h; exact hin1 i h; simp at h; subst h; exact hu0), by rw [← hla]; exact getD_snoc hlp, by simp, by have := folS_cnt (s := s1) (u := uu.toNat) (by omega) hst3 (s1.stt a.toNat); simp; omega, hok18, hle19⟩ (by dsimp only; omega)))
             · refine c_skip (q_in_n (q_then_n (hK11 _ _ (c_region (tp rfl (lv_add (c := ((j + 1 : Nat) : Int)) rfl rfl (wr_i64_succ (by omega))) ?_)))))
               refine tp rfl (lv_move rfl) (t_done (q_then_n ?_))
               exact t_weak (by exact ⟨rfl, rfl, rfl, rfl, rfl, rfl, rfl, trivial⟩) ((hK8 (j + 1, folS s1 uu.toNat (s1.stt a.toNat), lq, bm, cm) ⟨by omega, hf1.step uu a hue hwt hst3, hin1, hla, hlp, by have := folS_cnt (s := s1) (u := uu.toNat) (by omega) hst3 (s1.stt a.toNat); dsimp only; omega, hokm, hlem⟩ (by dsimp only; omega)))
         · refine c_draw (γ := Unit) (n := 33) Tryz.mixed rfl rfl (fun _ S => True) (fun _ => [(0, 35, (.pointer (some ⟨(x.ks.getD uu.toNat (0, 0)).1, 0, none⟩))), (1, 36, (.pointer (some ⟨(x.ks.getD uu.toNat (0, 0)).1, 0, none⟩))), (2, 37, (.pointer (some ⟨(x.ks.getD uu.toNat (0, 0)).1, 3, none⟩))), (3, 38, (.int .i64 ((s1.tk.getD uu.toNat Tk.z).wt))), (4, 39, (.slice bm lq.length cm)), (5, 40, (.pointer (some (ad bm 0)))), (6, 41, (.int .i64 a)), (7, 42, (.bool true)), (8, 43, (.bool true)), (9, 44, (.pointer (some ⟨(x.ks.getD uu.toNat (0, 0)).1, 0, none⟩))), (10, 45, (.pointer (some ⟨(x.ks.getD uu.toNat (0, 0)).1, 0, none⟩))), (11, 46, (.pointer (some ⟨(x.ks.getD uu.toNat (0, 0)).1, 2, none⟩))), (12, 47, (.pointer (some ⟨(x.ks.getD uu.toNat (0, 0)).2, 0, none⟩))), (13, 48, (.int .i64 ((s1.lf.getD uu.toNat Lf.z).st))), (14, 49, (.bool false)), (15, 50, (.bool false)), (16, 51, (.bool false)), (17, 52, undef), (18, 53, undef), (19, 54, undef), (20, 55, undef), (21, 56, undef), (22, 57, undef), (23, 58, undef), (24, 59, undef), (25, 60, undef), (26, 61, undef), (27, 62, undef), (28, 63, undef), (29, 64, undef), (30, 65, undef), (31, 66, undef), (32, 67, (.bool false))]) (fun _ S => (EngC e x s1) :: (GraphO x.g x.n es) :: (SlT 3 1 (.slice bm lq.length cm) lq.length (ints .i64 lq)) :: (TurnsO x.tn q y.ms y.ta) :: (AdmO x.ad A Q y.as) :: (SlV 3 1 (.slice bs6 ((inns es a).length) cp7) ((inns es a).length) (ints .i64 (inns es a))) :: R) (()) trivial (fun _ h => h) (fun _ _ h => h) ?_ ?_
           · refine ⟨?_, ?_, ?_, ?_, ?_, ?_, ?_, ?_, ?_, ?_, ?_, ?_, ?_, ?_, ?_, ?_, ?_, ?_, ?_, ?_, ?_, ?_, ?_, ?_, ?_, ?_, ?_, ?_, ?_, ?_, ?_, ?_, ?_, trivial⟩
             · intro _ S h s D p K k; exact d_lv1 (look_b (t := 7) rfl rfl) (lv_move rfl) 0 rfl rfl s (k () h)
             · intro _ S h s D p K k; exact d_lv1 (lkr p 0 rfl rfl) (lv_nilCheck rfl) 1 rfl rfl s (k () h)
             · intro _ S h s D p K k; exact d_lv1 (lkr p 1 rfl rfl) (lv_fieldAddr (o' := 3) Tryz.underlying76 rfl Tryz.sizeOf3 rfl rfl) 2 rfl rfl s (k () h)
             · intro _ S h s D p K k; exact d_lv1 (lkr p 2 rfl rfl) (lv_load Tryz.isAgg3 rfl (gives_tk (i := uu.toNat) (v := (.int .i64 ((s1.tk.getD uu.toNat Tk.z).wt))) (.head _) (by omega) rfl)) 3 rfl rfl s (k () h)
             · intro _ S h s D p K k; exact d_lv1 (look_b (t := 4) rfl rfl) (lv_move rfl) 4 rfl rfl s (k () h)
             · rintro _ S hF hS D hp K hK; try dsimp only
               exact d_lv1 (lkr hp 4 rfl rfl) (lv_indexAddr (k' := 0) Tryz.underlying34 Tryz.sizeOf3 rfl rfl hokm (by omega) (by omega) (by omega)) 5 rfl rfl hS (hK () hF)
             · intro _ S h s D p K k; exact d_lv1 (lkr p 5 rfl rfl) (lv_load Tryz.isAgg3 rfl (gives_as (v := .int .i64 a) (congrArg (Value.int .i64) hla) (gives_slt (.tail _ (.tail _ (.head _))) (ints_get (by omega))))) 6 rfl rfl s (k () h)
             · intro _ S h s D p K k; exact d_lv2 (lkr p 3 rfl rfl) (lkr p 6 rfl rfl) (lv_eql rfl rfl (beq_iff_eq.2 hwt)) 7 rfl rfl s (k () h)
             · intro _ S h s D p K k; exact d_lv1 (lkr p 7 rfl rfl) (lv_move rfl) 8 rfl rfl s (k () h)
             · intro _ S h s D p K k; exact d_gd2 (look_b (t := 7) rfl rfl) (lkr p 8 rfl rfl) rfl rfl (lv_move rfl) 9 rfl rfl s (k () h)
             · intro _ S h s D p K k; exact d_gd2 (lkr p 8 rfl rfl) (lkr p 9 rfl rfl) rfl rfl (lv_nilCheck rfl) 10 rfl rfl s (k () h)
             · intro _ S h s D p K k; exact d_gd2 (lkr p 8 rfl rfl) (lkr p 10 rfl rfl) rfl rfl (lv_fieldAddr (o' := 2) Tryz.underlying76 rfl Tryz.sizeOf74 rfl rfl) 11 rfl rfl s (k () h)
             · intro _ S h s D p K k; exact d_gd2 (lkr p 8 rfl rfl) (lkr p 11 rfl rfl) rfl rfl (lv_load Tryz.isAgg74 rfl (gives_tk (i := uu.toNat) (v := (.pointer (some ⟨(x.ks.getD uu.toNat (0, 0)).2, 0, none⟩))) (.head _) (by omega) rfl)) 12 rfl rfl s (k () h)
             · rintro _ S hF hS D hp K hK
               try dsimp only at hF ⊢
               have s8 := hp 8 rfl
               have s12 := hp 12 rfl
               refine d_need (small := [(43, (.bool true)), (47, (.pointer (some ⟨(x.ks.getD uu.toNat (0, 0)).2, 0, none⟩)))]) ⟨look_row rfl 8 rfl s8, look_row rfl 12 rfl s12, trivial⟩ ?_
               refine t_guard rfl rfl ?_
               refine tc rfl (en_fn Tryz.call23 rfl) (ok_life0 (i := uu.toNat) (by omega) (fun _ => lState_ok _)) ?_
               rintro _ _ ⟨rfl, rfl⟩
               exact d_closes ⟨look_row rfl 8 rfl s8, look_row rfl 12 rfl s12, trivial⟩ 13 rfl rfl rfl hS (AgreeR.refl _) (t_sat (fun _ h => h) (hK () trivial))
             · intro _ S h s D p K k; exact d_gd2 (lkr p 8 rfl rfl) (lkr p 13 rfl rfl) rfl rfl (lv_eql rfl rfl (beq_eq_false_iff_ne.2 hst3)) 14 rfl rfl s (k () h)
             · intro _ S h s D p K k; exact d_lv2 (lkr p 8 rfl rfl) (lkr p 14 rfl rfl) (lv_pick_t rfl rfl) 15 rfl rfl s (k () h)
             · intro _ S h s D p K k; exact d_lv1 (lkr p 15 rfl rfl) (lv_move rfl) 16 rfl rfl s (k () h)
             · intro _ S h s D p K k; exact d_sk2 (look_b (t := 7) rfl rfl) (lkr p 16 rfl rfl) rfl rfl 17 rfl rfl s (k () h)
             · intro _ S h s D p K k; exact d_sk2 (look_b (t := 0) rfl rfl) (lkr p 16 rfl rfl) rfl rfl 18 rfl rfl s (k () h)
             · intro _ S h s D p K k; exact d_sk2 (lkr p 16 rfl rfl) (lkr p 18 rfl rfl) rfl rfl 19 rfl rfl s (k () h)
             · intro _ S h s D p K k; exact d_sk2 (lkr p 16 rfl rfl) (lkr p 19 rfl rfl) rfl rfl 20 rfl rfl s (k () h)
             · intro _ S h s D p K k; exact d_sk2 (lkr p 16 rfl rfl) (lkr p 20 rfl rfl) rfl rfl 21 rfl rfl s (k () h)
             · intro _ S h s D p K k; exact d_sk2 (look_b (t := 4) rfl rfl) (lkr p 16 rfl rfl) rfl rfl 22 rfl rfl s (k () h)
             · intro _ S h s D p K k; exact d_sk2 (lkr p 16 rfl rfl) (lkr p 22 rfl rfl) rfl rfl 23 rfl rfl s (k () h)
             · intro _ S h s D p K k; exact d_sk2 (lkr p 16 rfl rfl) (lkr p 23 rfl rfl) rfl rfl 24 rfl rfl s (k () h)
             · intro _ S h s D p K k; exact d_sk3 (lkr p 16 rfl rfl) (lkr p 21 rfl rfl) (lkr p 24 rfl rfl) rfl rfl 25 rfl rfl s (k () h)
             · intro _ S h s D p K k; exact d_sk2 (lkr p 16 rfl rfl) (lkr p 25 rfl rfl) rfl rfl 26 rfl rfl s (k () h)
             · intro _ S h s D p K k; exact d_sk2 (lkr p 16 rfl rfl) (lkr p 26 rfl rfl) rfl rfl 27 rfl rfl s (k () h)
             · intro _ S h s D p K k; exact d_sk2 (lkr p 16 rfl rfl) (lkr p 27 rfl rfl) rfl rfl 28 rfl rfl s (k () h)
             · intro _ S h s D p K k; exact d_sk2 (lkr p 16 rfl rfl) (lkr p 28 rfl rfl) rfl rfl 29 rfl rfl s (k () h)
             · intro _ S h s D p K k; exact d_sk2 (lkr p 16 rfl rfl) (lkr p 29 rfl rfl) rfl rfl 30 rfl rfl s (k () h)
             · intro _ S h s D p K k; exact d_sk3 (lkr p 16 rfl rfl) (lkr p 17 rfl rfl) (lkr p 30 rfl rfl) rfl rfl 31 rfl rfl s (k () h)
             · intro _ S h s D p K k; exact d_lv2 (lkr p 16 rfl rfl) (lkr p 31 rfl rfl) (lv_pick_f rfl rfl) 32 rfl rfl s (k () h)
           · rintro _ hF
             try dsimp only at hF ⊢
             refine t_weak (E' := [(0, (vP e 0)), (1, (vN t)), (4, (.slice bm lq.length cm)), (6, (.int .i64 uu)), (7, (.pointer (some ⟨(x.ks.getD uu.toNat (0, 0)).1, 0, none⟩))), (12, (.bool true)), (22, (.slice bs6 ((inns es a).length) cp7)), (23, (.int .i64 (((inns es a).length : Nat) : Int))), (24, (vN j)), (25, (.bool true)), (67, (.bool false))]) ⟨rfl, rfl, rfl, rfl, rfl, rfl, rfl, rfl, rfl, rfl, rfl, trivial⟩ ?_
             refine q_then_n (hK14 _ _ (c_false rfl (c_skip (q_in_n (q_then_n (hK11 _ _ (c_region (tp rfl (lv_add (c := ((j + 1 : Nat) : Int)) rfl rfl (wr_i64_succ (by omega))) ?_))))))))
             refine tp rfl (lv_move rfl) (t_done (q_then_n ?_))
             exact t_weak (by exact ⟨rfl, rfl, rfl, rfl, rfl, rfl, rfl, trivial⟩) ((hK8 (j + 1, s1, lq, bm, cm) ⟨by omega, hf1, hin1, hla, hlp, hm1, hokm, hlem⟩ (by dsimp only; omega)))
       · refine c_draw (γ := Unit) (n := 33) Tryz.mixed rfl rfl (fun _ S => True) (fun _ => [(0, 35, (.pointer (some ⟨(x.ks.getD uu.toNat (0, 0)).1, 0, none⟩))), (1, 36, (.pointer (some ⟨(x.ks.getD uu.toNat (0, 0)).1, 0, none⟩))), (2, 37, (.pointer (some ⟨(x.ks.getD uu.toNat (0, 0)).1, 3, none⟩))), (3, 38, (.int .i64 ((s1.tk.getD uu.toNat Tk.z).wt))), (4, 39, (.slice bm lq.length cm)), (5, 40, (.pointer (some (ad bm 0)))), (6, 41, (.int .i64 a)), (7, 42, (.bool false)), (8, 43, (.bool false)), (9, 44, undef), (10, 45, undef), (11, 46, undef), (12, 47, undef), (13, 48, undef), (14, 49, undef), (15, 50, (.bool false)), (16, 51, (.bool false)), (17, 52, undef), (18, 53, undef), (19, 54, undef), (20, 55, undef), (21, 56, undef), (22, 57, undef), (23, 58, undef), (24, 59, undef), (25, 60, undef), (26, 61, undef), (27, 62, undef), (28, 63, undef), (29, 64, undef), (30, 65, undef), (31, 66, undef), (32, 67, (.bool false))]) (fun _ S => (EngC e x s1) :: (GraphO x.g x.n es) :: (SlT 3 1 (.slice bm lq.length cm) lq.length (ints .i64 lq)) :: (TurnsO x.tn q y.ms y.ta) :: (AdmO x.ad A Q y.as) :: (SlV 3 1 (.slice bs6 ((inns es a).length) cp7) ((inns es a).length) (ints .i64 (inns es a))) :: R) (()) trivial (fun _ h => h) (fun _ _ h => h) ?_ ?_
         · refine ⟨?_, ?_, ?_, ?_, ?_, ?_, ?_, ?_, ?_, ?_, ?_, ?_, ?_, ?_, ?_, ?_, ?_, ?_, ?_, ?_, ?_, ?_, ?_, ?_, ?_, ?_, ?_, ?_, ?_, ?_, ?_, ?_, ?_, trivial⟩
           · intro _ S h s D p K k; exact d_lv1 (look_b (t := 7) rfl rfl) (lv_move rfl) 0 rfl rfl s (k () h)
           · intro _ S h s D p K k; exact d_lv1 (lkr p 0 rfl rfl) (lv_nilCheck rfl) 1 rfl rfl s (k () h)
           · intro _ S h s D p K k; exact d_lv1 (lkr p 1 rfl rfl) (lv_fieldAddr (o' := 3) Tryz.underlying76 rfl Tryz.sizeOf3 rfl rfl) 2 rfl rfl s (k () h)
           · intro _ S h s D p K k; exact d_lv1 (lkr p 2 rfl rfl) (lv_load Tryz.isAgg3 rfl (gives_tk (i := uu.toNat) (v := (.int .i64 ((s1.tk.getD uu.toNat Tk.z).wt))) (.head _) (by omega) rfl)) 3 rfl rfl s (k () h)
           · intro _ S h s D p K k; exact d_lv1 (look_b (t := 4) rfl rfl) (lv_move rfl) 4 rfl rfl s (k () h)
           · rintro _ S hF hS D hp K hK; try dsimp only
             exact d_lv1 (lkr hp 4 rfl rfl) (lv_indexAddr (k' := 0) Tryz.underlying34 Tryz.sizeOf3 rfl rfl hokm (by omega) (by omega) (by omega)) 5 rfl rfl hS (hK () hF)
           · intro _ S h s D p K k; exact d_lv1 (lkr p 5 rfl rfl) (lv_load Tryz.isAgg3 rfl (gives_as (v := .int .i64 a) (congrArg (Value.int .i64) hla) (gives_slt (.tail _ (.tail _ (.head _))) (ints_get (by omega))))) 6 rfl rfl s (k () h)
           · intro _ S h s D p K k; exact d_lv2 (lkr p 3 rfl rfl) (lkr p 6 rfl rfl) (lv_eql rfl rfl (beq_eq_false_iff_ne.2 hwt)) 7 rfl rfl s (k () h)
           · intro _ S h s D p K k; exact d_lv1 (lkr p 7 rfl rfl) (lv_move rfl) 8 rfl rfl s (k () h)
           · intro _ S h s D p K k; exact d_sk2 (look_b (t := 7) rfl rfl) (lkr p 8 rfl rfl) rfl rfl 9 rfl rfl s (k () h)
           · intro _ S h s D p K k; exact d_sk2 (lkr p 8 rfl rfl) (lkr p 9 rfl rfl) rfl rfl 10 rfl rfl s (k () h)
           · intro _ S h s D p K k; exact d_sk2 (lkr p 8 rfl rfl) (lkr p 10 rfl rfl) rfl rfl 11 rfl rfl s (k () h)
           · intro _ S h s D p K k; exact d_sk2 (lkr p 8 rfl rfl) (lkr p 11 rfl rfl) rfl rfl 12 rfl rfl s (k () h)
           · intro _ S h s D p K k; exact d_sk2 (lkr p 8 rfl rfl) (lkr p 12 rfl rfl) rfl rfl 13 rfl rfl s (k () h)
           · intro _ S h s D p K k; exact d_sk2 (lkr p 8 rfl rfl) (lkr p 13 rfl rfl) rfl rfl 14 rfl rfl s (k () h)
           · intro _ S h s D p K k; exact d_lv2 (lkr p 8 rfl rfl) (lkr p 14 rfl rfl) (lv_pick_f rfl rfl) 15 rfl rfl s (k () h)
           · intro _ S h s D p K k; exact d_lv1 (lkr p 15 rfl rfl) (lv_move rfl) 16 rfl rfl s (k () h)
           · intro _ S h s D p K k; exact d_sk2 (look_b (t := 7) rfl rfl) (lkr p 16 rfl rfl) rfl rfl 17 rfl rfl s (k () h)
           · intro _ S h s D p K k; exact d_sk2 (look_b (t := 0) rfl rfl) (lkr p 16 rfl rfl) rfl rfl 18 rfl rfl s (k () h)
           · intro _ S h s D p K k; exact d_sk2 (lkr p 16 rfl rfl) (lkr p 18 rfl rfl) rfl rfl 19 rfl rfl s (k () h)
           · intro _ S h s D p K k; exact d_sk2 (lkr p 16 rfl rfl) (lkr p 19 rfl rfl) rfl rfl 20 rfl rfl s (k () h)
           · intro _ S h s D p K k; exact d_sk2 (lkr p 16 rfl rfl) (lkr p 20 rfl rfl) rfl rfl 21 rfl rfl s (k () h)
           · intro _ S h s D p K k; exact d_sk2 (look_b (t := 4) rfl rfl) (lkr p 16 rfl rfl) rfl rfl 22 rfl rfl s (k () h)
           · intro _ S h s D p K k; exact d_sk2 (lkr p 16 rfl rfl) (lkr p 22 rfl rfl) rfl rfl 23 rfl rfl s (k () h)
           · intro _ S h s D p K k; exact d_sk2 (lkr p 16 rfl rfl) (lkr p 23 rfl rfl) rfl rfl 24 rfl rfl s (k () h)
           · intro _ S h s D p K k; exact d_sk3 (lkr p 16 rfl rfl) (lkr p 21 rfl rfl) (lkr p 24 rfl rfl) rfl rfl 25 rfl rfl s (k () h)
           · intro _ S h s D p K k; exact d_sk2 (lkr p 16 rfl rfl) (lkr p 25 rfl rfl) rfl rfl 26 rfl rfl s (k () h)
           · intro _ S h s D p K k; exact d_sk2 (lkr p 16 rfl rfl) (lkr p 26 rfl rfl) rfl rfl 27 rfl rfl s (k () h)
           · intro _ S h s D p K k; exact d_sk2 (lkr p 16 rfl rfl) (lkr p 27 rfl rfl) rfl rfl 28 rfl rfl s (k () h)
           · intro _ S h s D p K k; exact d_sk2 (lkr p 16 rfl rfl) (lkr p 28 rfl rfl) rfl rfl 29 rfl rfl s (k () h)
           · intro _ S h s D p K k; exact d_sk2 (lkr p 16 rfl rfl) (lkr p 29 rfl rfl) rfl rfl 30 rfl rfl s (k () h)
           · intro _ S h s D p K k; exact d_sk3 (lkr p 16 rfl rfl) (lkr p 17 rfl rfl) (lkr p 30 rfl rfl) rfl rfl 31 rfl rfl s (k () h)
           · intro _ S h s D p K k; exact d_lv2 (lkr p 16 rfl rfl) (lkr p 31 rfl rfl) (lv_pick_f rfl rfl) 32 rfl rfl s (k () h)
         · rintro _ hF
           try dsimp only at hF ⊢
           refine t_weak (E' := [(0, (vP e 0)), (1, (vN t)), (4, (.slice bm lq.length cm)), (6, (.int .i64 uu)), (7, (.pointer (some ⟨(x.ks.getD uu.toNat (0, 0)).1, 0, none⟩))), (12, (.bool true)), (22, (.slice bs6 ((inns es a).length) cp7)), (23, (.int .i64 (((inns es a).length : Nat) : Int))), (24, (vN j)), (25, (.bool true)), (67, (.bool false))]) ⟨rfl, rfl, rfl, rfl, rfl, rfl, rfl, rfl, rfl, rfl, rfl, trivial⟩ ?_
           refine q_then_n (hK14 _ _ (c_false rfl (c_skip (q_in_n (q_then_n (hK11 _ _ (c_region (tp rfl (lv_add (c := ((j + 1 : Nat) : Int)) rfl rfl (wr_i64_succ (by omega))) ?_))))))))
           refine tp rfl (lv_move rfl) (t_done (q_then_n ?_))
           exact t_weak (by exact ⟨rfl, rfl, rfl, rfl, rfl, rfl, rfl, trivial⟩) ((hK8 (j + 1, s1, lq, bm, cm) ⟨by omega, hf1, hin1, hla, hlp, hm1, hokm, hlem⟩ (by dsimp only; omega)))
     · refine tp rfl (lv_lss rfl rfl (decide_eq_false h10)) (t_done (q_then_n (hK9 _ _ (c_seq (fun K10 hK10 => c_false rfl (c_exit (q_then_x (q_then_x (q_in_x (q_in_n ?_))))))))))
       refine q_then_n (hK6 _ _ (c_region (tp rfl (lv_move rfl) (tp rfl (lv_slice (l := 1) (h := lq.length) (m := cm) (v := (.slice (sbase bm 1 cm 1) ((lq.drop 1).length) (cm - 1))) Tryz.underlying34 Tryz.sizeOf3 rfl rfl rfl rfl (.inr ⟨rfl, rfl⟩) (.inr ⟨rfl, rfl⟩) (.inl ⟨_, _, rfl, (by omega), (by omega), (by omega)⟩) (by simp) (by rw [List.length_drop])) ?_))))
       refine t_f2 ?_
       refine t_sat (fun _ h => slt_tail (l := 1) (n' := (lq.drop 1).length) (c' := cm - 1) (by omega) (by omega) (by rw [List.length_drop]) (by omega) h) ?_
       rw [show (ints .i64 lq).drop (1 * 1) = ints .i64 (lq.drop 1) from by rw [Nat.mul_one, ints_drop]]
       refine t_learn (fun _ h => slt_facts h) (fun hbx => ?_)
       obtain ⟨hok20, hle21⟩ := hbx
       refine tp rfl (lv_assign rfl) (t_done (q_then_n (t_f5 (t_drop ?_))))
       exact t_weak (by exact ⟨rfl, rfl, rfl, trivial⟩) ((hK3 (s1, lq.drop 1, (sbase bm 1 cm 1), cm - 1) ⟨hf1, fun i hi => hin1 i (List.mem_of_mem_drop hi), by dsimp only; rw [List.length_drop]; omega, hok20, hle21⟩ (by dsimp only; rw [List.length_drop]; omega)))
 · refine tp rfl (lv_gtr rfl rfl (decide_eq_false h5)) (t_done (q_then_n (hK5 _ _ (c_false rfl (c_exit (q_then_x (q_then_x (q_in_x (q_then_n (hK1 _ _ (c_region ?_)))))))))))
   refine tp rfl (lv_move rfl) (t_f4 (t_f4 (t_f3 ?_)))
   refine tc rfl (en_fn Tryz.call46 rfl) (over_ok (x := x) (y := { y with s := s }) (A := A) (Q := Q) (hy.fol hfo.rq) hA (VTab.cons (VTab.cons hV))) ?_
   rintro _ _ ⟨yo22, hyo22v, hyo22c, rfl, rfl⟩
   refine t_done (t_f3 (t_drop (t_f2 (t_f2 (t_f3 (t_f3 ?_))))))
   refine q_ret0 rfl ?_
   exact ⟨s, _, hfo, ‹_›, ‹_›, rfl, rfl⟩
end Go.Proofs.YtanfdikglplkaaaGreatDoor
