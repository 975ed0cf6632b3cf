/- Parts El, Em: own lemmas and contracts of the code that the claim reaches. -/
import Derived.Test.YtanfdikglplkaaaGreatDoorM03
import Derived.Test.YtanfdikglplkaaaGreatDoorM23
import Derived.Test.YtanfdikglplkaaaGreatDoorM24
import Derived.Test.YtanfdikglplkaaaGreatDoorM25
import Derived.Test.YtanfdikglplkaaaGreatDoorM11
set_option linter.unusedSimpArgs false
set_option linter.unusedVariables false
set_option maxRecDepth 100000
namespace Go.Proofs.YtanfdikglplkaaaGreatDoor
open Go Go.Proofs Sp
set_option maxHeartbeats 4000000 in
theorem indexFuncW_ok {R : List HP} {p : Nat → Bool} {f n : Nat} {caps : List Value} {bx : Option Addr} {cx : Nat} (ps : List (Int × Int)) (hlp : ps.length = n) (hf : (∀ args w, (callFunc f args).run Tryz.prog w = .ok (.enter f args) w) ∧ ∀ k, k < n → Ok Tryz.prog f ([.agg #[.int .i64 (ps.getD k (0, 0)).1, .int .i64 (ps.getD k (0, 0)).2]] ++ caps) R (fun v M => v = .bool (p k) ∧ M = R)) (hx : Rd R bx (pairs ps)) (okx : SlOk bx n) (lx : n ≤ 4611686018427387904) :
    Ok Tryz.prog 58 [(.slice bx n cx), (.func (.func f) #[] caps.toArray)] R
      (fun v M => v = .int .i64 (idxN p n) ∧ M = R) := by
 obtain ⟨hcall, hf⟩ := hf
 refine ok_of (N := 19) Tryz.func58 rfl rfl rfl (fun W => ?_)
 refine c_seq (fun K1 hK1 => c_region (tp rfl (lv_assign rfl) (t_done (q_then_n (hK1 _ _ (c_seq (fun K2 hK2 => c_seq (fun K3 hK3 => c_region (tp rfl (lv_move rfl) (tp rfl (lv_len Tryz.underlying103 rfl rfl) ?_))))))))))
 refine tp rfl (lv_move rfl) (t_done (q_then_n (hK3 _ _ (c_block ?_))))
 refine c_loop (γ := (Nat)) (fun (k : Nat) => k ≤ n ∧ (∀ j, j < k → p j = false)) (fun (k : Nat) => [(0, (.slice bx n cx)), (1, (.func (.func f) #[] caps.toArray)), (7, (vN n)), (8, (vN k))]) (fun (k : Nat) => R) (fun (k : Nat) => n - k) (0) ⟨by omega, fun j hj => by omega⟩ ⟨rfl, rfl, rfl, rfl, trivial⟩ (fun _ h => h) ?_
 rintro k K4 hF hK4
 try dsimp only at hF hK4 ⊢
 obtain ⟨hk, hall⟩ := hF
 refine c_seq (fun K5 hK5 => c_region ?_)
 by_cases h1 : ((k : Nat) : Int) < ((n : Nat) : Int)
 · refine tp rfl (lv_lss rfl rfl (decide_eq_true h1)) (t_done (q_then_n (hK5 _ _ (c_seq (fun K6 hK6 => c_true rfl (c_skip (q_then_n (hK6 _ _ (c_seq (fun K7 hK7 => c_block (c_seq (fun K8 hK8 => ?_))))))))))))
   refine c_region (tp rfl (lv_move rfl) (tp rfl (lv_assign rfl) (t_done (q_then_n (hK8 _ _ (c_seq (fun K9 hK9 => c_region (tp rfl (lv_move rfl) (tp rfl (lv_move rfl) (tp rfl (lv_move rfl) ?_))))))))))
   refine tp rfl (lv_indexAddr (k' := k * 2) Tryz.underlying103 Tryz.sizeOf110 rfl rfl okx (by omega) (by omega) (by omega)) ?_
   refine tp rfl (lv_loadAgg_ad (cs := [(.int .i64 (((ps).getD k (0, 0)).1)), (.int .i64 (((ps).getD k (0, 0)).2))]) Tryz.isAgg110 Tryz.sizeOf110 rfl (gives_all2 (Rd.gives hx (pairs_get0 (by first | omega | (simp; omega)))) (Rd.gives hx (pairs_get1 (by first | omega | (simp; omega)))))) ?_
   refine tc rfl (en_clo hcall rfl rfl) (hf k (by omega)) ?_
   rintro _ _ ⟨rfl, hMR⟩
   rw [hMR]; clear hMR
   refine t_done (q_then_n (hK9 _ _ ?_))
   refine c_split rfl (fun c2 => ?_) (fun c2 => ?_)
   · skip
     refine c_seq (fun K10 hK10 => c_region (tp rfl (lv_move rfl) (tp rfl (lv_assign rfl) (t_done (q_then_n (hK10 _ _ (c_ret ?_)))))))
     refine q_in_r ?_
     refine q_then_r ?_
     refine q_then_r ?_
     refine q_in_r ?_
     refine q_then_r ?_
     refine q_ret rfl rfl ?_
     exact ⟨by rw [idxN_at (k := k) (by omega) ‹_› hall], rfl⟩
   · skip
     refine c_skip (q_in_n (q_then_n (hK7 _ _ (c_region (tp rfl (lv_add (c := ((k + 1 : Nat) : Int)) rfl rfl (wr_i64_succ (by omega))) ?_)))))
     refine tp rfl (lv_move rfl) (t_done (q_then_n ?_))
     exact t_weak (by exact ⟨rfl, rfl, rfl, rfl, trivial⟩) ((hK4 (k + 1) ⟨by omega, all_succ hall ‹_›⟩ (by omega)))
 · refine tp rfl (lv_lss rfl rfl (decide_eq_false h1)) (t_done (q_then_n (hK5 _ _ (c_seq (fun K6 hK6 => c_false rfl (c_exit (q_then_x (q_then_x (q_in_x (q_then_n (hK2 _ _ ?_)))))))))))
   refine c_seq (fun K7 hK7 => c_region (tp rfl (lv_assign rfl) (t_done (q_then_n (hK7 _ _ (c_ret ?_))))))
   refine q_ret rfl rfl ?_
   exact ⟨by rw [idxN_none (fun j hj => hall j (by omega))], rfl⟩
theorem disp1_ok {R : List HP} {c : Nat} {i k r : Int} (hr : Gives R ⟨c, 0, none⟩ (.int .i64 r)) :
    Ok Tryz.prog 59 [(.agg #[(.int .i64 i), (.int .i64 k)]), (.pointer (some ⟨c, 0, none⟩))] R
      (fun v M => v = .bool (decide (i = r)) ∧ M = R) := by
 refine ok_of (N := 8) Tryz.func59 rfl rfl rfl (fun W => ?_)
 refine c_seq (fun K1 hK1 => c_region ?_)
 refine tm rfl (mv_box rfl rfl) ?_
 rintro _ _ ⟨b1, rfl, rfl⟩
 refine tp rfl (lv_assign rfl) (t_done (q_then_n (hK1 _ _ (c_seq (fun K2 hK2 => c_region (tp rfl (lv_fieldAddr (o' := 0) Tryz.underlying110 rfl Tryz.sizeOf3 rfl rfl) (tp rfl (lv_load Tryz.isAgg3 rfl (gives_blk (.head _) rfl)) (tp rfl (lv_load Tryz.isAgg3 rfl (Gives.cons hr)) (tp rfl (lv_eql rfl rfl rfl) (tp rfl (lv_assign rfl) ?_))))))))))
 refine t_done (q_then_n (hK2 _ _ (c_ret (t_drop ?_))))
 refine q_ret rfl rfl ?_
 exact ⟨rfl, rfl⟩
set_option maxHeartbeats 4000000 in
theorem fitsA_ok {R : List HP} {e : Nat} {x : EP} {s : ES} {d : Led} {bb bp : Option Addr} {cb cp np : Nat} (ts : List Int) (p : Int) (hb : Rd R bb (ints .i64 ts)) (okb : SlOk bb ts.length) (lb : ts.length ≤ 64) (hc : 0 < d.cnt d.many) (hf : ts.filter (fitB x.n s.al (d.bud - d.used)) ≠ []) :
    Ok Tryz.prog 55 [(.pointer (some ⟨e, 0, none⟩)), (.slice bb ts.length cb), (.int .i64 p), (.slice bp np cp)] ((EngC e x s) :: (LedO x.ld d) :: R)
      (fun v M => ∃ bs cp, SlOk bs (ts.filter (fitB x.n s.al (d.bud - d.used))).length ∧ (ts.filter (fitB x.n s.al (d.bud - d.used))).length ≤ cp ∧ v = .tuple #[.slice bs (ts.filter (fitB x.n s.al (d.bud - d.used))).length cp, .int .i64 0] ∧ M = SlV 3 1 (.slice bs (ts.filter (fitB x.n s.al (d.bud - d.used))).length cp) (ts.filter (fitB x.n s.al (d.bud - d.used))).length (ints .i64 (ts.filter (fitB x.n s.al (d.bud - d.used)))) :: EngC e x s :: LedO x.ld d :: R) := by
 refine ok_of (N := 103) Tryz.func55 rfl rfl rfl (fun W => ?_)
 refine t_learn (fun _ h => ef_of h) (fun hE => ?_)
 have hE_nb := hE.nb
 have hE_mb := hE.mb
 have hE_tn := hE.tn
 have hE_ln := hE.ln
 have hE_mn := hE.mn
 have hE_an := hE.an
 have hfl : 0 < (ts.filter (fitB x.n s.al (d.bud - d.used))).length := List.length_pos_iff.2 hf
 refine c_seq (fun K1 hK1 => c_region (tp rfl (lv_assign rfl) (tp rfl (lv_assign rfl) (t_done (q_then_n (hK1 _ _ (c_seq (fun K2 hK2 => c_seq (fun K3 hK3 => ?_)))))))))
 refine c_draw (γ := Option Addr × Nat) (n := 12) Tryz.mixed rfl rfl (fun (bs1, cp2) S => (S 10 = true → SlOk bs1 ((ts.filter (fitB x.n s.al (d.bud - d.used))).length)) ∧ (S 10 = true → (ts.filter (fitB x.n s.al (d.bud - d.used))).length ≤ cp2)) (fun (bs1, cp2) => [(0, 16, (.slice bb ts.length cb)), (1, 17, (vP e 0)), (2, 18, (vP e 0)), (3, 19, (vP e 10)), (4, 20, (.slice x.ba x.n x.ca)), (5, 21, (vP e 0)), (6, 22, (vP e 0)), (7, 23, (vP e 15)), (8, 24, (vP x.ld 0)), (9, 25, (.int .i64 (d.bud - d.used))), (10, 26, (.slice bs1 ((ts.filter (fitB x.n s.al (d.bud - d.used))).length) cp2)), (11, 10, (.slice bs1 ((ts.filter (fitB x.n s.al (d.bud - d.used))).length) cp2))]) (fun (bs1, cp2) S => (EngC e x s) :: (LedO x.ld d) :: (bif S 10 then (SlV 3 1 (.slice bs1 ((ts.filter (fitB x.n s.al (d.bud - d.used))).length) cp2) ((ts.filter (fitB x.n s.al (d.bud - d.used))).length) (ints .i64 (ts.filter (fitB x.n s.al (d.bud - d.used))))) else Emp) :: R) (none, 0) (by simp [Nat.ble]) (fun _ h => sat_emps [_, _] 1 h) (fun _ _ h => h) ?_ ?_
 · refine ⟨?_, ?_, ?_, ?_, ?_, ?_, ?_, ?_, ?_, ?_, ?_, ?_, trivial⟩
   · rintro ⟨bs1, cp2⟩ S hF hS D hp K hK; try dsimp only
     exact d_lv1 (look_b (t := 1) rfl rfl) (lv_move rfl) 0 rfl rfl hS (hK (bs1, cp2) hF)
   · rintro ⟨bs1, cp2⟩ S hF hS D hp K hK; try dsimp only
     exact d_lv1 (look_b (t := 0) rfl rfl) (lv_move rfl) 1 rfl rfl hS (hK (bs1, cp2) hF)
   · rintro ⟨bs1, cp2⟩ S hF hS D hp K hK; try dsimp only
     exact d_lv1 (lkr hp 1 rfl rfl) (lv_nilCheck rfl) 2 rfl rfl hS (hK (bs1, cp2) hF)
   · rintro ⟨bs1, cp2⟩ S hF hS D hp K hK; try dsimp only
     exact d_lv1 (lkr hp 2 rfl rfl) (lv_fieldAddr (o' := 10) Tryz.underlying73 rfl Tryz.sizeOf24 rfl rfl) 3 rfl rfl hS (hK (bs1, cp2) hF)
   · rintro ⟨bs1, cp2⟩ S hF hS D hp K hK; try dsimp only
     exact d_lv1 (lkr hp 3 rfl rfl) (lv_load Tryz.isAgg24 rfl (gives_e (v := (.slice x.ba x.n x.ca)) (.head _) (fun _ _ => rfl))) 4 rfl rfl hS (hK (bs1, cp2) hF)
   · rintro ⟨bs1, cp2⟩ S hF hS D hp K hK; try dsimp only
     exact d_lv1 (look_b (t := 0) rfl rfl) (lv_move rfl) 5 rfl rfl hS (hK (bs1, cp2) hF)
   · rintro ⟨bs1, cp2⟩ S hF hS D hp K hK; try dsimp only
     exact d_lv1 (lkr hp 5 rfl rfl) (lv_nilCheck rfl) 6 rfl rfl hS (hK (bs1, cp2) hF)
   · rintro ⟨bs1, cp2⟩ S hF hS D hp K hK; try dsimp only
     exact d_lv1 (lkr hp 6 rfl rfl) (lv_fieldAddr (o' := 15) Tryz.underlying73 rfl Tryz.sizeOf69 rfl rfl) 7 rfl rfl hS (hK (bs1, cp2) hF)
   · rintro ⟨bs1, cp2⟩ S hF hS D hp K hK; try dsimp only
     exact d_lv1 (lkr hp 7 rfl rfl) (lv_load Tryz.isAgg69 rfl (gives_e (v := (.pointer (some ⟨x.ld, 0, none⟩))) (.head _) (fun _ _ => rfl))) 8 rfl rfl hS (hK (bs1, cp2) hF)
   · rintro ⟨bs1, cp2⟩ S hF hS D hp K hK
     try dsimp only at hF ⊢
     obtain ⟨hf0, hf1⟩ := hF
     have s8 := hp 8 rfl
     refine d_need (small := [(24, (vP x.ld 0))]) ⟨look_row rfl 8 rfl s8, trivial⟩ ?_
     refine t_f1 ?_
     refine tc rfl (en_fn Tryz.call95 rfl) (lroom_ok (d := d) ) ?_
     rintro _ _ ⟨rfl, rfl⟩
     refine t_f1 ?_
     exact d_closes ⟨look_row rfl 8 rfl s8, trivial⟩ 9 rfl rfl rfl hS (AgreeR.refl _) (t_sat (fun _ h => h) (hK (bs1, cp2) ⟨hf0, hf1⟩))
   · rintro ⟨bs1, cp2⟩ S hF hS D hp K hK
     try dsimp only at hF ⊢
     obtain ⟨hf0, hf1⟩ := hF
     have s0 := hp 0 rfl
     have s4 := hp 4 rfl
     have s9 := hp 9 rfl
     refine d_need (small := [(16, (.slice bb ts.length cb)), (20, (.slice x.ba x.n x.ca)), (25, (.int .i64 (d.bud - d.used)))]) ⟨look_row rfl 0 rfl s0, look_row rfl 4 rfl s4, look_row rfl 9 rfl s9, trivial⟩ ?_
     refine tc rfl (en_fn Tryz.call94 rfl) (fits_n (n := x.n) ts s.al (d.bud - d.used) (by first | rfl | omega | (simp; done) | (simp; omega)) (by first | rfl | omega | (simp; done) | (simp; omega)) (Rd.cons (Rd.cons (Rd.cons hb))) (rd_al (.head _)) okb hE.oka (by first | omega | (simp; omega) | (simp; done))) ?_
     rintro _ _ ⟨bs1, cp2, hok3, hle4, rfl, rfl⟩
     refine t_sat (fun _ h => sat_put [_, _] h) ?_
     exact d_closes ⟨look_row rfl 0 rfl s0, look_row rfl 4 rfl s4, look_row rfl 9 rfl s9, trivial⟩ 10 rfl rfl rfl hS (by exact ⟨.inl rfl, .inl rfl, .inl rfl, .inl rfl, .inl rfl, .inl rfl, .inl rfl, .inl rfl, .inl rfl, .inl rfl, .inr ⟨rfl, rfl, hS⟩, .inr ⟨rfl, rfl, (nf hS D (k := 11) (i := 10) rfl)⟩, trivial⟩) (t_sat (fun _ h => h) (hK (bs1, cp2) ⟨(fun _ => hok3), (fun _ => hle4)⟩))
   · rintro ⟨bs1, cp2⟩ S hF hS D hp K hK; try dsimp only
     exact d_lv1 (lkr hp 10 rfl rfl) (lv_assign rfl) 11 rfl rfl hS (hK (bs1, cp2) hF)
 · rintro ⟨bs1, cp2⟩ hF
   try dsimp only at hF ⊢
   obtain ⟨hf0, hf1⟩ := hF
   have hok3 := hf0 rfl
   have hle4 := hf1 rfl
   refine t_weak (E' := [(0, (vP e 0)), (1, (.slice bb ts.length cb)), (2, (.int .i64 p)), (3, (.slice bp np cp)), (8, (.slice none 0 0)), (9, (.int .i64 0)), (10, (.slice bs1 ((ts.filter (fitB x.n s.al (d.bud - d.used))).length) cp2))]) ⟨rfl, rfl, rfl, rfl, rfl, rfl, rfl, trivial⟩ ?_
   refine q_then_n (hK3 _ _ (c_seq (fun K4 hK4 => c_region (tp rfl (lv_move rfl) (tp rfl (lv_nilCheck rfl) (tp rfl (lv_fieldAddr (o' := 15) Tryz.underlying73 rfl Tryz.sizeOf69 rfl rfl) (tp rfl (lv_load Tryz.isAgg69 rfl (gives_e (v := (.pointer (some ⟨x.ld, 0, none⟩))) (.head _) (fun _ _ => rfl))) (t_f1 ?_))))))))
   refine tc rfl (en_fn Tryz.call96 rfl) (lslots_ok (d := d) ) ?_
   rintro _ _ ⟨rfl, rfl⟩
   refine tp rfl (lv_gtr rfl rfl (decide_eq_true (by omega))) ?_
   refine tp rfl (lv_move rfl) ?_
   refine t_guard rfl rfl ?_
   refine tp rfl (lv_move rfl) ?_
   refine t_guard rfl rfl ?_
   refine tp rfl (lv_len Tryz.underlying34 rfl rfl) ?_
   refine t_guard rfl rfl ?_
   refine tp rfl (lv_gtr rfl rfl (decide_eq_true (by omega))) ?_
   refine tp rfl (lv_pick_t rfl rfl) (t_done (q_then_n (hK4 _ _ (c_true rfl (c_seq (fun K5 hK5 => c_region (tp rfl (lv_move rfl) (tp rfl (lv_assign rfl) (tp rfl (lv_assign rfl) (t_done ?_))))))))))
   refine q_then_n (hK5 _ _ (c_ret ?_))
   refine q_then_r ?_
   refine t_f1 (t_f2 ?_)
   refine q_ret2 rfl rfl rfl ?_
   exact ⟨_, _, hok3, hle4, rfl, rfl⟩
end Go.Proofs.YtanfdikglplkaaaGreatDoor
set_option maxRecDepth 100000
namespace Go.Proofs.YtanfdikglplkaaaGreatDoor
open Go Go.Proofs Sp
set_option maxHeartbeats 4000000 in
theorem disp_ok {R : List HP} {e : Nat} {x : EP} {q A Q : Int} {y : OS} {n hp : Nat} {ks : Ks} {ld : Led} {okd oa ob oc od p : Int} {tl9 : List Int} (hb0 : bestN (y.s.lf.map (·.st)) (ofL x.n [] (actR y.s y.as.a)) x.n = (p, tl9)) (hcs : tl9 = [] ∨ ∃ ps qs, DispI x.n y.s y.as.a (ld.bud - ld.used) y.ms y.ta p tl9 ps qs) (hy : OvOk x.n x.m A Q y) (hA : A ≤ 400 ∧ Q ≤ 400) (hc : 0 < ld.cnt ld.many) (h0 : ∀ t : Nat, t < x.n → ld.takeE (t : Int) (y.s.tk.getD t Tk.z).mem = 0) (hz : ∀ i, (ld.ps.getD i Pl.z).h = false → (ld.ps.getD i Pl.z).mem = 0) (hl : y.s.lg.length ≤ 1000000000) (hb : 0 ≤ y.s.bg ∧ y.s.bg ≤ 1000000000000) (he : ∀ t, t < x.n → (y.s.lf.getD t Lf.z).ep ≤ 1000000000000) (hT : Tab R) (htm : 0 ≤ y.s.c.tmo ∧ y.s.c.tmo ≤ 1048576) :
    Ok Tryz.prog 28 [(.pointer (some ⟨e, 0, none⟩)), (.agg #[(.int .i64 okd), (.int .i64 oa), (.int .i64 ob), (.int .i64 oc), (.int .i64 od)])] ((EngC e x y.s) :: (LedO x.ld ld) :: (Blk x.tp [(.pointer (some ⟨hp, 0, none⟩))] 132) :: (HeapO hp n ks) :: (GraphO x.g x.n []) :: (TurnsO x.tn q y.ms y.ta) :: (AdmO x.ad A Q y.as) :: R)
      (fun u M => (tl9 = [] ∧ u = .tuple #[(.agg #[.int .i64 0, .int .i64 0, .int .i64 0, .int .i64 0, .int .i64 0]), .int .i64 6] ∧ M = EngC e x y.s :: LedO x.ld ld :: Blk x.tp [.pointer (some ⟨hp, 0, none⟩)] 132 :: HeapO hp n ks :: GraphO x.g x.n [] :: TurnsO x.tn q y.ms y.ta :: AdmO x.ad A Q y.as :: R) ∨ (tl9 ≠ [] ∧ ∃ (t : Nat) (r : Int) (tmq : List M3) (ta : Nat), t < x.n ∧ y.s.stt t = 1 ∧ tmq.map (·.id) = y.ms.map (·.id) ∧ u = .tuple #[.agg #[.int .i64 r, .int .i64 0, .int .i64 ((t : Nat) : Int), .int .i64 (ld.takeV ((t : Nat) : Int) (y.s.tk.getD t Tk.z).mem), .int .i64 ((startS y.s ld t).lf.getD t Lf.z).ep], .int .i64 0] ∧ M = EngC e x (startS y.s ld t) :: LedO x.ld (ld.take ((t : Nat) : Int) (y.s.tk.getD t Tk.z).mem) :: Blk x.tp [.pointer (some ⟨hp, 0, none⟩)] 132 :: HeapO hp n (startK y.s ks t) :: GraphO x.g x.n [] :: TurnsO x.tn q tmq ta :: AdmO x.ad A Q y.as :: R)) := by
 have hb1 : (bestN (y.s.lf.map (·.st)) (ofL x.n [] (actR y.s y.as.a)) x.n).1 = p := by rw [hb0]
 have hb2 : (bestN (y.s.lf.map (·.st)) (ofL x.n [] (actR y.s y.as.a)) x.n).2 = tl9 := by rw [hb0]
 refine ok_of (N := 128) Tryz.func28 rfl rfl rfl (fun W => ?_)
 refine t_learn (fun _ h => ef_of h) (fun hE => ?_)
 have hE_nb := hE.nb
 have hE_mb := hE.mb
 have hE_tn := hE.tn
 have hE_ln := hE.ln
 have hE_mn := hE.mn
 have hE_an := hE.an
 have hsl0 : (y.s.lf.map (·.st)).length = x.n := by rw [List.length_map]; exact hE.ln
 have hla := hy.ao.la
 have hlq := hy.ao.lq
 have hlm := hy.lm
 have hme : y.ms.length = y.as.a.length := by rw [← hy.me, List.length_map]
 refine c_seq (fun K1 hK1 => c_region ?_)
 refine tm rfl (mv_box rfl rfl) ?_
 rintro _ _ ⟨b1, rfl, rfl⟩
 refine tm rfl (mv_alloc Tryz.zeroValue40 rfl) ?_
 rintro _ _ ⟨b2, rfl, rfl⟩
 refine tp rfl (lv_assign rfl) (t_done (q_then_n (hK1 _ _ (c_seq (fun K2 hK2 => c_region (tp rfl (lv_move rfl) (tp rfl (lv_nilCheck rfl) (tp rfl (lv_fieldAddr (o' := 16) Tryz.underlying73 rfl Tryz.sizeOf70 rfl rfl) (tp rfl (lv_load Tryz.isAgg70 rfl (gives_e (v := (.pointer (some ⟨x.ad, 0, none⟩))) (.tail _ (.tail _ (.head _))) (fun _ _ => rfl))) (t_f8 ?_))))))))))
 refine tc rfl (en_fn Tryz.call42 rfl) (actives_ok (A := A) (Q := Q) (s := y.as) (by omega)) ?_
 rintro _ _ ⟨bs3, cp4, hok5, hle6, rfl, rfl⟩
 refine tp rfl (lv_assign rfl) (t_done (q_then_n (hK2 _ _ (c_seq (fun K3 hK3 => c_region (tp rfl (lv_assign rfl) (t_done (q_then_n (hK3 _ _ (c_seq (fun K4 hK4 => c_region ?_)))))))))))
 refine tp rfl (lv_assign rfl) (t_done (q_then_n (hK4 _ _ (c_seq (fun K5 hK5 => c_seq (fun K6 hK6 => c_region (tp rfl (lv_move rfl) (tp rfl (lv_len Tryz.underlying34 rfl rfl) (tp rfl (lv_move rfl) (t_done ?_))))))))))
 refine q_then_n (hK6 _ _ (c_block ?_))
 refine t_sat (fun _ h => sat_nilsl 51 3 h) ?_
 refine t_sat (fun _ h => sat_nilsl 3 1 h) ?_
 refine t_f5 (t_drop ?_)
 refine c_loop (γ := (Nat) × (Option Addr) × (Nat) × (Option Addr) × (Nat)) (fun (k, ba, ca, bo, co) => k ≤ y.as.a.length ∧ SlOk ba k ∧ k ≤ ca ∧ SlOk bo k ∧ k ≤ co) (fun (k, ba, ca, bo, co) => [(0, (vP e 0)), (1, (.agg #[(.int .i64 okd), (.int .i64 oa), (.int .i64 ob), (.int .i64 oc), (.int .i64 od)])), (4, (vP b2 0)), (5, (.int .i64 0)), (6, (.slice bs3 y.as.a.length cp4)), (7, (.slice ba k ca)), (8, (.slice bo k co)), (26, (.slice bs3 y.as.a.length cp4)), (27, (vN y.as.a.length)), (28, (vN k))]) (fun (k, ba, ca, bo, co) => (SlV 3 1 (.slice bo k co) k (ints .i64 ((rootsL y.s y.as.a).take k))) :: (SlV 51 3 (.slice ba k ca) k (recs triF ((actR y.s y.as.a).take k))) :: (SlV 3 1 (.slice bs3 y.as.a.length cp4) y.as.a.length (ints .i64 y.as.a)) :: (AdmO x.ad A Q y.as) :: (Blk b2 [(.int .i64 0), (.int .i64 0), (.int .i64 0), (.int .i64 0), (.int .i64 0)] 40) :: (EngC e x y.s) :: (LedO x.ld ld) :: (Blk x.tp [(vP hp 0)] 132) :: (HeapO hp n ks) :: (GraphO x.g x.n []) :: (TurnsO x.tn q y.ms y.ta) :: R) (fun (k, ba, ca, bo, co) => y.as.a.length - k) (0, none, 0, none, 0) ⟨Nat.zero_le _, slok_none, Nat.le_refl _, slok_none, Nat.le_refl _⟩ ⟨rfl, rfl, rfl, rfl, rfl, rfl, rfl, rfl, rfl, rfl, trivial⟩ (fun _ h => h) ?_
 rintro ⟨k, ba, ca, bo, co⟩ K7 hF hK7
 try dsimp only at hF hK7 ⊢
 obtain ⟨hk, hoka, hlea, hoko, hleo⟩ := hF
 refine c_seq (fun K8 hK8 => c_region ?_)
 by_cases h7 : ((k : Nat) : Int) < ((y.as.a.length : Nat) : Int)
 · refine tp rfl (lv_lss rfl rfl (decide_eq_true h7)) (t_done (q_then_n (hK8 _ _ (c_seq (fun K9 hK9 => c_true rfl (c_skip (q_then_n (hK9 _ _ (c_seq (fun K10 hK10 => c_block (c_seq (fun K11 hK11 => ?_))))))))))))
   refine c_region (tp rfl (lv_indexAddr (k' := k) Tryz.underlying34 Tryz.sizeOf3 rfl rfl hok5 (by omega) (by omega) (by omega)) ?_)
   refine tp rfl (lv_load Tryz.isAgg3 rfl (gives_sl (.tail _ (.tail _ (.head _))) (ints_get (by first | omega | (simp; omega))))) ?_
   refine tp rfl (lv_assign rfl) (t_done (q_then_n (hK11 _ _ ?_)))
   obtain ⟨r, hrd⟩ : ∃ r, y.as.a.getD k 0 = r := ⟨_, rfl⟩
   rw [hrd]
   have hrm : r ∈ y.as.a := by rw [← hrd]; exact mem_getD (by omega)
   have hr0 := hy.ids r (List.mem_append_left _ hrm)
   have hac := act_snoc y.s (k := k) (ids := y.as.a) (by omega)
   have hro := roots_snoc y.s (k := k) (ids := y.as.a) (by omega)
   rw [hrd] at hac hro
   refine c_draw (γ := Option Addr × Nat × Option Addr × Nat × Option Addr × Nat × Option Addr × Nat) (n := 29) Tryz.mixed rfl rfl (fun (bs8, cp9, bs12, cp13, bs16, cp17, bs20, cp21) S => (S 11 = true → SlOk bs8 1) ∧ (S 11 = true → 1 ≤ cp9) ∧ (S 12 = true → SlOk bs12 (k + 1)) ∧ (S 12 = true → k + 1 ≤ cp13) ∧ (S 25 = true → SlOk bs16 1) ∧ (S 25 = true → 1 ≤ cp17) ∧ (S 26 = true → SlOk bs20 (k + 1)) ∧ (S 26 = true → k + 1 ≤ cp21)) (fun (bs8, cp9, bs12, cp13, bs16, cp17, bs20, cp21) => [(0, 32, (.slice ba k ca)), (1, 33, (vP e 0)), (2, 34, (vP e 0)), (3, 35, (vP e 12)), (4, 36, (.slice x.br x.m x.cr)), (5, 37, (.int .i64 r)), (6, 38, (.pointer (some (ad x.br r.toNat)))), (7, 39, (vP (x.rs.getD r.toNat 0) 0)), (8, 40, (vP (x.rs.getD r.toNat 0) 0)), (9, 41, (vP (x.rs.getD r.toNat 0) 0)), (10, 42, (.agg #[(.int .i64 ((y.s.rq.getD r.toNat Rq.z).root)), (.int .i64 ((y.s.rq.getD r.toNat Rq.z).wt)), (.int .i64 ((y.s.rq.getD r.toNat Rq.z).pr))])), (11, 43, (.slice bs8 1 cp9)), (12, 44, (.slice bs12 (k + 1) cp13)), (13, 45, (.slice bo k co)), (14, 46, (vP e 0)), (15, 47, (vP e 0)), (16, 48, (vP e 12)), (17, 49, (.slice x.br x.m x.cr)), (18, 50, (.int .i64 r)), (19, 51, (.pointer (some (ad x.br r.toNat)))), (20, 52, (vP (x.rs.getD r.toNat 0) 0)), (21, 53, (vP (x.rs.getD r.toNat 0) 0)), (22, 54, (vP (x.rs.getD r.toNat 0) 0)), (23, 55, (vP (x.rs.getD r.toNat 0) 0)), (24, 56, (.int .i64 ((y.s.rq.getD r.toNat Rq.z).root))), (25, 57, (.slice bs16 1 cp17)), (26, 58, (.slice bs20 (k + 1) cp21)), (27, 7, (.slice bs12 (k + 1) cp13)), (28, 8, (.slice bs20 (k + 1) cp21))]) (fun (bs8, cp9, bs12, cp13, bs16, cp17, bs20, cp21) S => (bif S 26 then (SlV 3 1 (.slice bs20 (k + 1) cp21) (k + 1) (ints .i64 (((rootsL y.s y.as.a).take k) ++ [(y.s.rq.getD r.toNat Rq.z).root]))) else (SlV 3 1 (.slice bo k co) k (ints .i64 ((rootsL y.s y.as.a).take k)))) :: (bif S 12 then (SlV 51 3 (.slice bs12 (k + 1) cp13) (k + 1) (recs triF (((actR y.s y.as.a).take k) ++ [(⟨(y.s.rq.getD r.toNat Rq.z).root, (y.s.rq.getD r.toNat Rq.z).wt, (y.s.rq.getD r.toNat Rq.z).pr⟩ : R3)]))) else (SlV 51 3 (.slice ba k ca) k (recs triF ((actR y.s y.as.a).take k)))) :: (SlV 3 1 (.slice bs3 y.as.a.length cp4) y.as.a.length (ints .i64 y.as.a)) :: (AdmO x.ad A Q y.as) :: (Blk b2 [(.int .i64 0), (.int .i64 0), (.int .i64 0), (.int .i64 0), (.int .i64 0)] 40) :: (EngC e x y.s) :: (LedO x.ld ld) :: (Blk x.tp [(vP hp 0)] 132) :: (HeapO hp n ks) :: (GraphO x.g x.n []) :: (TurnsO x.tn q y.ms y.ta) :: (bif S 11 then (SlV 51 3 (.slice bs8 1 cp9) 1 [(.int .i64 ((y.s.rq.getD r.toNat Rq.z).root)), (.int .i64 ((y.s.rq.getD r.toNat Rq.z).wt)), (.int .i64 ((y.s.rq.getD r.toNat Rq.z).pr))]) else Emp) :: (bif S 25 then (SlV 3 1 (.slice bs16 1 cp17) 1 [(.int .i64 ((y.s.rq.getD r.toNat Rq.z).root))]) else Emp) :: R) (none, 0, none, 0, none, 0, none, 0) (by simp [Nat.ble]) (fun _ h => sat_emps [_, _, _, _, _, _, _, _, _, _, _] 2 h) (fun _ _ h => h) ?_ ?_
   · refine ⟨?_, ?_, ?_, ?_, ?_, ?_, ?_, ?_, ?_, ?_, ?_, ?_, ?_, ?_, ?_, ?_, ?_, ?_, ?_, ?_, ?_, ?_, ?_, ?_, ?_, ?_, ?_, ?_, ?_, trivial⟩
     · rintro ⟨bs8, cp9, bs12, cp13, bs16, cp17, bs20, cp21⟩ S hF hS D hp K hK; try dsimp only
       exact d_lv1 (look_b1 (t := 7) 27 (nf hS D (k := 27) (i := 0) rfl) rfl rfl) (lv_move rfl) 0 rfl rfl hS (hK (bs8, cp9, bs12, cp13, bs16, cp17, bs20, cp21) hF)
     · rintro ⟨bs8, cp9, bs12, cp13, bs16, cp17, bs20, cp21⟩ S hF hS D hp K hK; try dsimp only
       exact d_lv1 (look_b (t := 0) rfl rfl) (lv_move rfl) 1 rfl rfl hS (hK (bs8, cp9, bs12, cp13, bs16, cp17, bs20, cp21) hF)
     · rintro ⟨bs8, cp9, bs12, cp13, bs16, cp17, bs20, cp21⟩ S hF hS D hp K hK; try dsimp only
       exact d_lv1 (lkr hp 1 rfl rfl) (lv_nilCheck rfl) 2 rfl rfl hS (hK (bs8, cp9, bs12, cp13, bs16, cp17, bs20, cp21) hF)
     · rintro ⟨bs8, cp9, bs12, cp13, bs16, cp17, bs20, cp21⟩ S hF hS D hp K hK; try dsimp only
       exact d_lv1 (lkr hp 2 rfl rfl) (lv_fieldAddr (o' := 12) Tryz.underlying73 rfl Tryz.sizeOf66 rfl rfl) 3 rfl rfl hS (hK (bs8, cp9, bs12, cp13, bs16, cp17, bs20, cp21) hF)
     · rintro ⟨bs8, cp9, bs12, cp13, bs16, cp17, bs20, cp21⟩ S hF hS D hp K hK; try dsimp only
       exact d_lv1 (lkr hp 3 rfl rfl) (lv_load Tryz.isAgg66 rfl (gives_e (v := (.slice x.br x.m x.cr)) (.tail _ (.tail _ (.tail _ (.tail _ (.tail _ (.head _)))))) (fun _ _ => rfl))) 4 rfl rfl hS (hK (bs8, cp9, bs12, cp13, bs16, cp17, bs20, cp21) hF)
     · rintro ⟨bs8, cp9, bs12, cp13, bs16, cp17, bs20, cp21⟩ S hF hS D hp K hK; try dsimp only
       exact d_lv1 (look_b (t := 10) rfl rfl) (lv_move rfl) 5 rfl rfl hS (hK (bs8, cp9, bs12, cp13, bs16, cp17, bs20, cp21) hF)
     · rintro ⟨bs8, cp9, bs12, cp13, bs16, cp17, bs20, cp21⟩ S hF hS D hp K hK; try dsimp only
       exact d_lv2 (lkr hp 4 rfl rfl) (lkr hp 5 rfl rfl) (lv_indexAddr (k' := r.toNat) Tryz.underlying66 Tryz.sizeOf79 rfl rfl hE.okr (by omega) (by omega) (by omega)) 6 rfl rfl hS (hK (bs8, cp9, bs12, cp13, bs16, cp17, bs20, cp21) hF)
     · rintro ⟨bs8, cp9, bs12, cp13, bs16, cp17, bs20, cp21⟩ S hF hS D hp K hK; try dsimp only
       exact d_lv1 (lkr hp 6 rfl rfl) (lv_load Tryz.isAgg79 rfl (gives_br (i := r.toNat) (.tail _ (.tail _ (.tail _ (.tail _ (.tail _ (.head _)))))) (by omega))) 7 rfl rfl hS (hK (bs8, cp9, bs12, cp13, bs16, cp17, bs20, cp21) hF)
     · rintro ⟨bs8, cp9, bs12, cp13, bs16, cp17, bs20, cp21⟩ S hF hS D hp K hK; try dsimp only
       exact d_lv1 (lkr hp 7 rfl rfl) (lv_nilCheck rfl) 8 rfl rfl hS (hK (bs8, cp9, bs12, cp13, bs16, cp17, bs20, cp21) hF)
     · rintro ⟨bs8, cp9, bs12, cp13, bs16, cp17, bs20, cp21⟩ S hF hS D hp K hK; try dsimp only
       exact d_lv1 (lkr hp 8 rfl rfl) (lv_fieldAddr (o' := 0) Tryz.underlying82 rfl Tryz.sizeOf51 rfl rfl) 9 rfl rfl hS (hK (bs8, cp9, bs12, cp13, bs16, cp17, bs20, cp21) hF)
     · rintro ⟨bs8, cp9, bs12, cp13, bs16, cp17, bs20, cp21⟩ S hF hS D hp K hK; try dsimp only
       exact d_lv1 (lkr hp 9 rfl rfl) (lv_loadAgg (cs := [(.int .i64 ((y.s.rq.getD r.toNat Rq.z).root)), (.int .i64 ((y.s.rq.getD r.toNat Rq.z).wt)), (.int .i64 ((y.s.rq.getD r.toNat Rq.z).pr))]) Tryz.isAgg51 Tryz.sizeOf51 rfl (gives_all3 (gives_rq (i := r.toNat) (v := (.int .i64 ((y.s.rq.getD r.toNat Rq.z).root))) (.tail _ (.tail _ (.tail _ (.tail _ (.tail _ (.head _)))))) (by omega) rfl) (gives_rq (i := r.toNat) (v := (.int .i64 ((y.s.rq.getD r.toNat Rq.z).wt))) (.tail _ (.tail _ (.tail _ (.tail _ (.tail _ (.head _)))))) (by omega) rfl) (gives_rq (i := r.toNat) (v := (.int .i64 ((y.s.rq.getD r.toNat Rq.z).pr))) (.tail _ (.tail _ (.tail _ (.tail _ (.tail _ (.head _)))))) (by omega) rfl))) 10 rfl rfl hS (hK (bs8, cp9, bs12, cp13, bs16, cp17, bs20, cp21) hF)
     · rintro ⟨bs8, cp9, bs12, cp13, bs16, cp17, bs20, cp21⟩ S hF hS D hp K hK
       try dsimp only at hF ⊢
       obtain ⟨hf0, hf1, hf2, hf3, hf4, hf5, hf6, hf7⟩ := hF
       have s10 := hp 10 rfl
       refine d_need (small := [(42, (.agg #[(.int .i64 ((y.s.rq.getD r.toNat Rq.z).root)), (.int .i64 ((y.s.rq.getD r.toNat Rq.z).wt)), (.int .i64 ((y.s.rq.getD r.toNat Rq.z).pr))]))]) ⟨look_row rfl 10 rfl s10, trivial⟩ ?_
       refine tm rfl (mv_buildSlice (cs := [(.int .i64 ((y.s.rq.getD r.toNat Rq.z).root)), (.int .i64 ((y.s.rq.getD r.toNat Rq.z).wt)), (.int .i64 ((y.s.rq.getD r.toNat Rq.z).pr))]) Tryz.underlying47 Tryz.sizeOf51 Tryz.zeroValue51 (by decide) rfl rfl rfl rfl) ?_
       rintro _ _ ⟨bs8, cp9, hok10, hle11, rfl, rfl⟩
       refine t_sat (fun _ h => sat_put [_, _, _, _, _, _, _, _, _, _, _] h) ?_
       exact d_closes ⟨look_row rfl 10 rfl s10, trivial⟩ 11 rfl rfl rfl hS (by exact ⟨.inl rfl, .inl rfl, .inl rfl, .inl rfl, .inl rfl, .inl rfl, .inl rfl, .inl rfl, .inl rfl, .inl rfl, .inl rfl, .inr ⟨rfl, rfl, hS⟩, .inl rfl, .inl rfl, .inl rfl, .inl rfl, .inl rfl, .inl rfl, .inl rfl, .inl rfl, .inl rfl, .inl rfl, .inl rfl, .inl rfl, .inl rfl, .inl rfl, .inl rfl, .inl rfl, .inl rfl, trivial⟩) (t_sat (fun _ h => h) (hK (bs8, cp9, bs12, cp13, bs16, cp17, bs20, cp21) ⟨(fun _ => hok10), (fun _ => hle11), hf2, hf3, hf4, hf5, hf6, hf7⟩))
     · rintro ⟨bs8, cp9, bs12, cp13, bs16, cp17, bs20, cp21⟩ S hF hS D hp K hK
       try dsimp only at hF ⊢
       obtain ⟨hf0, hf1, hf2, hf3, hf4, hf5, hf6, hf7⟩ := hF
       have s11 := hp 11 rfl
       have hok10 := hf0 s11
       have hle11 := hf1 s11
       have s0 := hp 0 rfl
       refine d_need (small := [(32, (.slice ba k ca)), (43, (.slice bs8 1 cp9))]) ⟨look_row rfl 0 rfl s0, look_row rfl 11 rfl s11, trivial⟩ ?_
       refine t_f1 ?_
       refine t_cF hS ?_
       refine t_f11 ?_
       refine t_cT s11 ?_
       refine t_f1 ?_
       refine tm rfl (mv_append (i := Tryz.t51) Tryz.underlying47 Tryz.type51 rfl rfl rfl (by decide) rfl rfl hok10 (by first | (simp; done) | (simp; omega)) (rd_sl (.tail _ (.head _))) (by simp [Value.oneCell']) (by rw [show Tryz.t51.bytes = 24 from rfl]; omega)) ?_
       rintro _ _ ⟨bs12, cp13, hok14, hle15, rfl, rfl⟩
       rw [show recs triF ((actR y.s y.as.a).take k) ++ [(.int .i64 ((y.s.rq.getD r.toNat Rq.z).root)), (.int .i64 ((y.s.rq.getD r.toNat Rq.z).wt)), (.int .i64 ((y.s.rq.getD r.toNat Rq.z).pr))] = recs triF (((actR y.s y.as.a).take k) ++ [(⟨(y.s.rq.getD r.toNat Rq.z).root, (y.s.rq.getD r.toNat Rq.z).wt, (y.s.rq.getD r.toNat Rq.z).pr⟩ : R3)]) from recs_snoc triF ((actR y.s y.as.a).take k) (⟨(y.s.rq.getD r.toNat Rq.z).root, (y.s.rq.getD r.toNat Rq.z).wt, (y.s.rq.getD r.toNat Rq.z).pr⟩ : R3)]
       refine t_f1 ?_
       refine t_wT (B := Emp) s11 ?_
       refine t_f11 (t_f11 (t_f11 (t_f11 (t_f11 (t_f11 (t_f11 (t_f11 (t_f11 (t_f10 ?_)))))))))
       refine t_f11 ?_
       exact d_closes ⟨look_row rfl 0 rfl s0, look_row rfl 11 rfl s11, trivial⟩ 12 rfl rfl rfl hS (by exact ⟨.inl rfl, .inl rfl, .inl rfl, .inl rfl, .inl rfl, .inl rfl, .inl rfl, .inl rfl, .inl rfl, .inl rfl, .inl rfl, .inl rfl, .inr ⟨rfl, rfl, hS⟩, .inl rfl, .inl rfl, .inl rfl, .inl rfl, .inl rfl, .inl rfl, .inl rfl, .inl rfl, .inl rfl, .inl rfl, .inl rfl, .inl rfl, .inl rfl, .inl rfl, .inr ⟨rfl, rfl, (nf hS D (k := 27) (i := 12) rfl)⟩, .inl rfl, trivial⟩) (t_sat (fun _ h => h) (hK (bs8, cp9, bs12, cp13, bs16, cp17, bs20, cp21) ⟨hf0, hf1, (fun _ => hok14), (fun _ => hle15), hf4, hf5, hf6, hf7⟩))
     · rintro ⟨bs8, cp9, bs12, cp13, bs16, cp17, bs20, cp21⟩ S hF hS D hp K hK; try dsimp only
       exact d_lv1 (look_b1 (t := 8) 28 (nf hS D (k := 28) (i := 13) rfl) rfl rfl) (lv_move rfl) 13 rfl rfl hS (hK (bs8, cp9, bs12, cp13, bs16, cp17, bs20, cp21) hF)
     · rintro ⟨bs8, cp9, bs12, cp13, bs16, cp17, bs20, cp21⟩ S hF hS D hp K hK; try dsimp only
       exact d_lv1 (look_b (t := 0) rfl rfl) (lv_move rfl) 14 rfl rfl hS (hK (bs8, cp9, bs12, cp13, bs16, cp17, bs20, cp21) hF)
     · rintro ⟨bs8, cp9, bs12, cp13, bs16, cp17, bs20, cp21⟩ S hF hS D hp K hK; try dsimp only
       exact d_lv1 (lkr hp 14 rfl rfl) (lv_nilCheck rfl) 15 rfl rfl hS (hK (bs8, cp9, bs12, cp13, bs16, cp17, bs20, cp21) hF)
     · rintro ⟨bs8, cp9, bs12, cp13, bs16, cp17, bs20, cp21⟩ S hF hS D hp K hK; try dsimp only
       exact d_lv1 (lkr hp 15 rfl rfl) (lv_fieldAddr (o' := 12) Tryz.underlying73 rfl Tryz.sizeOf66 rfl rfl) 16 rfl rfl hS (hK (bs8, cp9, bs12, cp13, bs16, cp17, bs20, cp21) hF)
     · rintro ⟨bs8, cp9, bs12, cp13, bs16, cp17, bs20, cp21⟩ S hF hS D hp K hK; try dsimp only
       exact d_lv1 (lkr hp 16 rfl rfl) (lv_load Tryz.isAgg66 rfl (gives_e (v := (.slice x.br x.m x.cr)) (.tail _ (.tail _ (.tail _ (.tail _ (.tail _ (.head _)))))) (fun _ _ => rfl))) 17 rfl rfl hS (hK (bs8, cp9, bs12, cp13, bs16, cp17, bs20, cp21) hF)
     · rintro ⟨bs8, cp9, bs12, cp13, bs16, cp17, bs20, cp21⟩ S hF hS D hp K hK; try dsimp only
       exact d_lv1 (look_b (t := 10) rfl rfl) (lv_move rfl) 18 rfl rfl hS (hK (bs8, cp9, bs12, cp13, bs16, cp17, bs20, cp21) hF)
     · rintro ⟨bs8, cp9, bs12, cp13, bs16, cp17, bs20, cp21⟩ S hF hS D hp K hK; try dsimp only
       exact d_lv2 (lkr hp 17 rfl rfl) (lkr hp 18 rfl rfl) (lv_indexAddr (k' := r.toNat) Tryz.underlying66 Tryz.sizeOf79 rfl rfl hE.okr (by omega) (by omega) (by omega)) 19 rfl rfl hS (hK (bs8, cp9, bs12, cp13, bs16, cp17, bs20, cp21) hF)
     · rintro ⟨bs8, cp9, bs12, cp13, bs16, cp17, bs20, cp21⟩ S hF hS D hp K hK; try dsimp only
       exact d_lv1 (lkr hp 19 rfl rfl) (lv_load Tryz.isAgg79 rfl (gives_br (i := r.toNat) (.tail _ (.tail _ (.tail _ (.tail _ (.tail _ (.head _)))))) (by omega))) 20 rfl rfl hS (hK (bs8, cp9, bs12, cp13, bs16, cp17, bs20, cp21) hF)
     · rintro ⟨bs8, cp9, bs12, cp13, bs16, cp17, bs20, cp21⟩ S hF hS D hp K hK; try dsimp only
       exact d_lv1 (lkr hp 20 rfl rfl) (lv_nilCheck rfl) 21 rfl rfl hS (hK (bs8, cp9, bs12, cp13, bs16, cp17, bs20, cp21) hF)
     · rintro ⟨bs8, cp9, bs12, cp13, bs16, cp17, bs20, cp21⟩ S hF hS D hp K hK; try dsimp only
       exact d_lv1 (lkr hp 21 rfl rfl) (lv_fieldAddr (o' := 0) Tryz.underlying82 rfl Tryz.sizeOf51 rfl rfl) 22 rfl rfl hS (hK (bs8, cp9, bs12, cp13, bs16, cp17, bs20, cp21) hF)
     · rintro ⟨bs8, cp9, bs12, cp13, bs16, cp17, bs20, cp21⟩ S hF hS D hp K hK; try dsimp only
       exact d_lv1 (lkr hp 22 rfl rfl) (lv_fieldAddr (o' := 0) Tryz.underlying51 rfl Tryz.sizeOf3 rfl rfl) 23 rfl rfl hS (hK (bs8, cp9, bs12, cp13, bs16, cp17, bs20, cp21) hF)
     · rintro ⟨bs8, cp9, bs12, cp13, bs16, cp17, bs20, cp21⟩ S hF hS D hp K hK; try dsimp only
       exact d_lv1 (lkr hp 23 rfl rfl) (lv_load Tryz.isAgg3 rfl (gives_rq (i := r.toNat) (v := (.int .i64 ((y.s.rq.getD r.toNat Rq.z).root))) (.tail _ (.tail _ (.tail _ (.tail _ (.tail _ (.head _)))))) (by omega) rfl)) 24 rfl rfl hS (hK (bs8, cp9, bs12, cp13, bs16, cp17, bs20, cp21) hF)
     · rintro ⟨bs8, cp9, bs12, cp13, bs16, cp17, bs20, cp21⟩ S hF hS D hp K hK
       try dsimp only at hF ⊢
       obtain ⟨hf0, hf1, hf2, hf3, hf4, hf5, hf6, hf7⟩ := hF
       have s24 := hp 24 rfl
       refine d_need (small := [(56, (.int .i64 ((y.s.rq.getD r.toNat Rq.z).root)))]) ⟨look_row rfl 24 rfl s24, trivial⟩ ?_
       refine tm rfl (mv_buildSlice (cs := [(.int .i64 ((y.s.rq.getD r.toNat Rq.z).root))]) Tryz.underlying34 Tryz.sizeOf3 Tryz.zeroValue3 (by decide) rfl rfl rfl rfl) ?_
       rintro _ _ ⟨bs16, cp17, hok18, hle19, rfl, rfl⟩
       refine t_sat (fun _ h => sat_put [_, _, _, _, _, _, _, _, _, _, _, _] h) ?_
       exact d_closes ⟨look_row rfl 24 rfl s24, trivial⟩ 25 rfl rfl rfl hS (by exact ⟨.inl rfl, .inl rfl, .inl rfl, .inl rfl, .inl rfl, .inl rfl, .inl rfl, .inl rfl, .inl rfl, .inl rfl, .inl rfl, .inl rfl, .inl rfl, .inl rfl, .inl rfl, .inl rfl, .inl rfl, .inl rfl, .inl rfl, .inl rfl, .inl rfl, .inl rfl, .inl rfl, .inl rfl, .inl rfl, .inr ⟨rfl, rfl, hS⟩, .inl rfl, .inl rfl, .inl rfl, trivial⟩) (t_sat (fun _ h => h) (hK (bs8, cp9, bs12, cp13, bs16, cp17, bs20, cp21) ⟨hf0, hf1, hf2, hf3, (fun _ => hok18), (fun _ => hle19), hf6, hf7⟩))
     · rintro ⟨bs8, cp9, bs12, cp13, bs16, cp17, bs20, cp21⟩ S hF hS D hp K hK
       try dsimp only at hF ⊢
       obtain ⟨hf0, hf1, hf2, hf3, hf4, hf5, hf6, hf7⟩ := hF
       have s12 := hp 12 rfl
       have s11 := D 12 11 rfl s12
       have hok10 := hf0 s11
       have hle11 := hf1 s11
       have hok14 := hf2 s12
       have hle15 := hf3 s12
       have s25 := hp 25 rfl
       have hok18 := hf4 s25
       have hle19 := hf5 s25
       have s13 := hp 13 rfl
       refine d_need (small := [(45, (.slice bo k co)), (57, (.slice bs16 1 cp17))]) ⟨look_row rfl 13 rfl s13, look_row rfl 25 rfl s25, trivial⟩ ?_
       refine t_cF hS ?_
       refine t_f12 ?_
       refine t_cT s25 ?_
       refine t_f1 ?_
       refine tm rfl (mv_append (i := Tryz.t3) Tryz.underlying34 Tryz.type3 rfl rfl rfl (by decide) rfl rfl hok18 (by first | (simp; done) | (simp; omega)) (rd_sl (.tail _ (.head _))) (by simp [Value.oneCell']) (by rw [show Tryz.t3.bytes = 8 from rfl]; omega)) ?_
       rintro _ _ ⟨bs20, cp21, hok22, hle23, rfl, rfl⟩
       rw [show ints .i64 ((rootsL y.s y.as.a).take k) ++ [(.int .i64 ((y.s.rq.getD r.toNat Rq.z).root))] = ints .i64 (((rootsL y.s y.as.a).take k) ++ [(y.s.rq.getD r.toNat Rq.z).root]) from ints_snoc _ _ _]
       refine t_f1 ?_
       refine t_wT (B := Emp) s25 ?_
       refine t_f12 (t_f12 (t_f12 (t_f12 (t_f12 (t_f12 (t_f12 (t_f12 (t_f12 (t_f12 ?_)))))))))
       refine t_f12 (t_f12 ?_)
       exact d_closes ⟨look_row rfl 13 rfl s13, look_row rfl 25 rfl s25, trivial⟩ 26 rfl rfl rfl hS (by exact ⟨.inl rfl, .inl rfl, .inl rfl, .inl rfl, .inl rfl, .inl rfl, .inl rfl, .inl rfl, .inl rfl, .inl rfl, .inl rfl, .inl rfl, .inl rfl, .inl rfl, .inl rfl, .inl rfl, .inl rfl, .inl rfl, .inl rfl, .inl rfl, .inl rfl, .inl rfl, .inl rfl, .inl rfl, .inl rfl, .inl rfl, .inr ⟨rfl, rfl, hS⟩, .inl rfl, .inr ⟨rfl, rfl, (nf hS D (k := 28) (i := 26) rfl)⟩, trivial⟩) (t_sat (fun _ h => h) (hK (bs8, cp9, bs12, cp13, bs16, cp17, bs20, cp21) ⟨hf0, hf1, hf2, hf3, hf4, hf5, (fun _ => hok22), (fun _ => hle23)⟩))
     · rintro ⟨bs8, cp9, bs12, cp13, bs16, cp17, bs20, cp21⟩ S hF hS D hp K hK; try dsimp only
       exact d_lv1 (lkr hp 12 rfl rfl) (lv_assign rfl) 27 rfl rfl hS (hK (bs8, cp9, bs12, cp13, bs16, cp17, bs20, cp21) hF)
     · rintro ⟨bs8, cp9, bs12, cp13, bs16, cp17, bs20, cp21⟩ S hF hS D hp K hK; try dsimp only
       exact d_lv1 (lkr hp 26 rfl rfl) (lv_assign rfl) 28 rfl rfl hS (hK (bs8, cp9, bs12, cp13, bs16, cp17, bs20, cp21) hF)
   · rintro ⟨bs8, cp9, bs12, cp13, bs16, cp17, bs20, cp21⟩ hF
     try dsimp only at hF ⊢
     obtain ⟨hf0, hf1, hf2, hf3, hf4, hf5, hf6, hf7⟩ := hF
     have hok10 := hf0 rfl
     have hle11 := hf1 rfl
     have hok14 := hf2 rfl
     have hle15 := hf3 rfl
     have hok18 := hf4 rfl
     have hle19 := hf5 rfl
     have hok22 := hf6 rfl
     have hle23 := hf7 rfl
     refine t_weak (E' := [(0, (vP e 0)), (1, (.agg #[(.int .i64 okd), (.int .i64 oa), (.int .i64 ob), (.int .i64 oc), (.int .i64 od)])), (4, (vP b2 0)), (5, (.int .i64 0)), (6, (.slice bs3 y.as.a.length cp4)), (7, (.slice bs12 (k + 1) cp13)), (8, (.slice bs20 (k + 1) cp21)), (10, (.int .i64 r)), (26, (.slice bs3 y.as.a.length cp4)), (27, (vN y.as.a.length)), (28, (vN k)), (29, (.bool true))]) ⟨rfl, rfl, rfl, rfl, rfl, rfl, rfl, rfl, rfl, rfl, rfl, rfl, trivial⟩ ?_
     refine q_in_n (q_then_n (hK10 _ _ (c_region ?_)))
     rw [show ((rootsL y.s y.as.a).take k) ++ [(y.s.rq.getD r.toNat Rq.z).root] = (rootsL y.s y.as.a).take (k + 1) from hro]
     rw [show ((actR y.s y.as.a).take k) ++ [(⟨(y.s.rq.getD r.toNat Rq.z).root, (y.s.rq.getD r.toNat Rq.z).wt, (y.s.rq.getD r.toNat Rq.z).pr⟩ : R3)] = (actR y.s y.as.a).take (k + 1) from hac]
     refine tp rfl (lv_add (c := ((k + 1 : Nat) : Int)) rfl rfl (wr_i64_succ (by omega))) ?_
     refine tp rfl (lv_move rfl) (t_done (q_then_n (t_f11 (t_drop (t_f11 (t_drop ?_))))))
     exact t_weak (by exact ⟨rfl, rfl, rfl, rfl, rfl, rfl, rfl, rfl, rfl, rfl, trivial⟩) ((hK7 (k + 1, bs12, cp13, bs20, cp21) ⟨by omega, hok14, hle15, hok22, hle23⟩ (by dsimp only; omega)))
 · refine tp rfl (lv_lss rfl rfl (decide_eq_false h7)) (t_done (q_then_n (hK8 _ _ (c_seq (fun K9 hK9 => c_false rfl (c_exit (q_then_x (q_then_x (q_in_x (q_then_n (hK5 _ _ ?_)))))))))))
   refine c_seq (fun K10 hK10 => c_region ?_)
   obtain rfl : k = y.as.a.length := by omega
   rw [show (actR y.s y.as.a).take y.as.a.length = actR y.s y.as.a from List.take_of_length_le (by rw [act_len]; exact Nat.le_refl _), show (rootsL y.s y.as.a).take y.as.a.length = rootsL y.s y.as.a from List.take_of_length_le (by rw [roots_len]; exact Nat.le_refl _)]
   have hofl := ofL_len x.n [] (actR y.s y.as.a)
   have hac0 := act_len y.s y.as.a
   have hro0 := roots_len y.s y.as.a
   refine tp rfl (lv_move rfl) (tp rfl (lv_nilCheck rfl) (tp rfl (lv_fieldAddr (o' := 13) Tryz.underlying73 rfl Tryz.sizeOf67 rfl rfl) (tp rfl (lv_load Tryz.isAgg67 rfl (gives_e (v := (.pointer (some ⟨x.g, 0, none⟩))) (.tail _ (.tail _ (.tail _ (.tail _ (.tail _ (.head _)))))) (fun _ _ => rfl))) (tp rfl (lv_move rfl) (t_f9 ?_)))))
   refine tc rfl (en_fn Tryz.call52 rfl) (of_ok (actR y.s y.as.a) (by first | rfl | omega | (simp; done) | (simp; omega)) (rd_sl (.tail _ (.head _))) (fun hz => hoka (by first | exact hz | omega)) (by first | rfl | omega | (simp; done) | (simp; omega)) (Tab.cons (Tab.cons (Tab.cons (Tab.cons (Tab.cons (Tab.cons (Tab.cons (Tab.cons (Tab.cons (Tab.cons hT))))))))))) ?_
   rintro _ _ ⟨bs24, cp25, hok26, hle27, rfl, rfl⟩
   refine tp rfl (lv_assign rfl) (t_done (q_then_n (hK10 _ _ (c_seq (fun K11 hK11 => c_region (tp rfl (lv_move rfl) (t_f7 ?_)))))))
   refine tc rfl (en_fn Tryz.call54 rfl) (states_e (x := x) (s := y.s)) ?_
   rintro _ _ ⟨bs28, cp29, hok30, hle31, rfl, rfl⟩
   refine tp rfl (lv_move rfl) ?_
   refine tc rfl (en_fn Tryz.call53 rfl) (best_ok (m := x.n) (y.s.lf.map (·.st)) (ofL x.n [] (actR y.s y.as.a)) (by first | rfl | omega | (simp; done) | (simp; omega)) (by first | rfl | omega | (simp; done) | (simp; omega)) (by omega) (rd_sl (.head _)) (rd_sl (.tail _ (.tail _ (.head _)))) hok30 hok26 (by first | omega | (simp; omega) | (simp; done)) (by first | omega | (simp; omega) | (simp; done)) (by first | omega | (simp; omega))) ?_
   rintro _ _ ⟨bs32, cp33, hok34, hle35, rfl, rfl⟩
   try rw [show (bestN (y.s.lf.map (·.st)) (ofL x.n [] (actR y.s y.as.a)) x.n).1 = p from hb1] at hok34
   try rw [show (bestN (y.s.lf.map (·.st)) (ofL x.n [] (actR y.s y.as.a)) x.n).1 = p from hb1] at hle35
   rw [show (bestN (y.s.lf.map (·.st)) (ofL x.n [] (actR y.s y.as.a)) x.n).1 = p from hb1]
   try rw [show (bestN (y.s.lf.map (·.st)) (ofL x.n [] (actR y.s y.as.a)) x.n).2 = tl9 from hb2] at hok34
   try rw [show (bestN (y.s.lf.map (·.st)) (ofL x.n [] (actR y.s y.as.a)) x.n).2 = tl9 from hb2] at hle35
   rw [show (bestN (y.s.lf.map (·.st)) (ofL x.n [] (actR y.s y.as.a)) x.n).2 = tl9 from hb2]
   refine tp rfl (lv_move rfl) (tp rfl (lv_extract rfl rfl) (tp rfl (lv_extract rfl rfl) (tp rfl (lv_assign rfl) (tp rfl (lv_assign rfl) (t_done (q_then_n (hK11 _ _ (c_seq (fun K12 hK12 => c_seq (fun K13 hK13 => c_region ?_))))))))))
   refine tp rfl (lv_move rfl) (tp rfl (lv_len Tryz.underlying34 rfl rfl) ?_)
   by_cases h36 : ((tl9.length : Nat) : Int) = 0
   · refine tp rfl (lv_eql rfl rfl (beq_iff_eq.2 h36)) (t_done (q_then_n (hK13 _ _ (c_true rfl (c_seq (fun K14 hK14 => c_region (tp rfl (lv_build (cs := [(.int .i64 0), (.int .i64 0), (.int .i64 0), (.int .i64 0), (.int .i64 0)]) (pl := [(0, 1), (1, 1), (2, 1), (3, 1), (4, 1)]) Tryz.underlying40 Tryz.zeroValue40 (fun _ => by simp) rfl rfl) ?_)))))))
     refine t_f9 ?_
     refine ts (sv_blkAgg (news := [(.int .i64 0), (.int .i64 0), (.int .i64 0), (.int .i64 0), (.int .i64 0)]) Tryz.sizeOf40 rfl rfl rfl rfl (Nat.le_of_ble_eq_true rfl) rfl) ?_
     refine tp rfl (lv_assign rfl) (t_done (q_then_n (hK14 _ _ (c_ret ?_))))
     refine q_then_r ?_
     refine t_f1 (t_drop (t_f1 (t_drop (t_f2 (t_drop (t_f3 (t_drop (t_f3 (t_drop ?_)))))))))
     refine t_f3 (t_drop (t_f3 (t_f7 (t_f4 (t_f7 (t_f7 (t_f7 (t_f7 (t_f7 ?_)))))))))
     refine q_retc2 (cs := [(.int .i64 0), (.int .i64 0), (.int .i64 0), (.int .i64 0), (.int .i64 0)]) rfl rfl rfl Tryz.isAgg40 Tryz.sizeOf40 (gives_all5 (gives_blk (.head _) rfl) (gives_blk (.head _) rfl) (gives_blk (.head _) rfl) (gives_blk (.head _) rfl) (gives_blk (.head _) rfl)) (fun _ h => h.drop) ?_
     exact .inl ⟨List.length_eq_zero_iff.1 (by omega), rfl, rfl⟩
   · refine tp rfl (lv_eql rfl rfl (beq_eq_false_iff_ne.2 h36)) (t_done (q_then_n (hK13 _ _ (c_false rfl (c_skip (q_then_n (hK12 _ _ (c_seq (fun K14 hK14 => c_region ?_)))))))))
     have hne : tl9 ≠ [] := fun h9 => by have h8 := congrArg List.length h9; simp only [List.length_nil] at h8; omega
     obtain ⟨ps, qs, hD⟩ := hcs.resolve_left hne
     have hw1 : (wantN x.n x.n [] y.s.al tl9 y.as.a (rootsL y.s y.as.a) y.as.a.length).1 = ps := by rw [hD.hw]
     have hw2 : (wantN x.n x.n [] y.s.al tl9 y.as.a (rootsL y.s y.as.a) y.as.a.length).2 = qs := by rw [hD.hw]
     have htl0 := hD.tl
     have hpl := hD.pl
     have hql := hD.ql
     refine tp rfl (lv_move rfl) (tp rfl (lv_move rfl) (tp rfl (lv_move rfl) (tp rfl (lv_move rfl) (t_f10 (t_f3 ?_)))))
     refine tc rfl (en_fn Tryz.call55 rfl) (fitsA_ok (x := x) (s := y.s) (d := ld) tl9 p (rd_sl (.head _)) hok34 (by omega) hc (by rw [hD.ft]; exact hD.tn)) ?_
     rintro _ _ ⟨bs37, cp38, hok39, hle40, rfl, rfl⟩
     try rw [show tl9.filter (fitB x.n y.s.al (ld.bud - ld.used)) = tl9 from hD.ft] at hok39
     try rw [show tl9.filter (fitB x.n y.s.al (ld.bud - ld.used)) = tl9 from hD.ft] at hle40
     rw [show tl9.filter (fitB x.n y.s.al (ld.bud - ld.used)) = tl9 from hD.ft]
     refine tp rfl (lv_move rfl) (tp rfl (lv_extract rfl rfl) (tp rfl (lv_extract rfl rfl) (tp rfl (lv_assign rfl) (tp rfl (lv_assign rfl) (t_done (q_then_n (hK14 _ _ (c_seq (fun K15 hK15 => c_seq (fun K16 hK16 => c_region ?_))))))))))
     refine tp rfl (lv_move rfl) (tp rfl (lv_neq (r := false) rfl rfl (by decide)) ?_)
     refine t_done (q_then_n (hK16 _ _ (c_false rfl (c_skip (q_then_n (hK15 _ _ (c_seq (fun K17 hK17 => ?_))))))))
     refine c_draw (γ := Option Addr × Nat × Option Addr × Nat) (n := 17) Tryz.mixed rfl rfl (fun (bs41, cp42, bs43, cp44) S => (S 11 = true → SlOk bs41 ps.length) ∧ (S 11 = true → SlOk bs43 qs.length) ∧ (S 11 = true → ps.length ≤ cp42) ∧ (S 11 = true → qs.length ≤ cp44)) (fun (bs41, cp42, bs43, cp44) => [(0, 90, (vP e 0)), (1, 91, (vP e 0)), (2, 92, (vP e 13)), (3, 93, (vP x.g 0)), (4, 94, (.slice bs37 tl9.length cp38)), (5, 95, (vP e 0)), (6, 96, (vP e 0)), (7, 97, (vP e 10)), (8, 98, (.slice x.ba x.n x.ca)), (9, 99, (.slice bs3 y.as.a.length cp4)), (10, 100, (.slice bo y.as.a.length co)), (11, 101, (.tuple #[(.slice bs41 ps.length cp42), (.slice bs43 qs.length cp44)])), (12, 89, (.tuple #[(.slice bs41 ps.length cp42), (.slice bs43 qs.length cp44)])), (13, 102, (.slice bs41 ps.length cp42)), (14, 103, (.slice bs43 qs.length cp44)), (15, 16, (.slice bs41 ps.length cp42)), (16, 17, (.slice bs43 qs.length cp44))]) (fun (bs41, cp42, bs43, cp44) S => (SlV 3 1 (.slice bs37 tl9.length cp38) tl9.length (ints .i64 tl9)) :: (EngC e x y.s) :: (LedO x.ld ld) :: (SlV 3 1 (.slice bs32 tl9.length cp33) tl9.length (ints .i64 tl9)) :: (SlV 3 1 (.slice bs28 x.n cp29) x.n (ints .i64 (y.s.lf.map (·.st)))) :: (SlV 3 1 (.slice bs24 x.n cp25) x.n (ints .i64 (ofL x.n [] (actR y.s y.as.a)))) :: (GraphO x.g x.n []) :: (SlV 3 1 (.slice bo y.as.a.length co) y.as.a.length (ints .i64 (rootsL y.s y.as.a))) :: (SlV 51 3 (.slice ba y.as.a.length ca) y.as.a.length (recs triF (actR y.s y.as.a))) :: (SlV 3 1 (.slice bs3 y.as.a.length cp4) y.as.a.length (ints .i64 y.as.a)) :: (AdmO x.ad A Q y.as) :: (Blk b2 [(.int .i64 0), (.int .i64 0), (.int .i64 0), (.int .i64 0), (.int .i64 0)] 40) :: (Blk x.tp [(vP hp 0)] 132) :: (HeapO hp n ks) :: (TurnsO x.tn q y.ms y.ta) :: (bif S 11 then (SlV 110 2 (.slice bs41 ps.length cp42) ps.length (pairs ps)) else Emp) :: (bif S 11 then (SlV 3 1 (.slice bs43 qs.length cp44) qs.length (ints .i64 qs)) else Emp) :: R) (none, 0, none, 0) (by simp [Nat.ble]) (fun _ h => sat_emps [_, _, _, _, _, _, _, _, _, _, _, _, _, _, _] 2 h) (fun _ _ h => h) ?_ ?_
     · refine ⟨?_, ?_, ?_, ?_, ?_, ?_, ?_, ?_, ?_, ?_, ?_, ?_, ?_, ?_, ?_, ?_, ?_, trivial⟩
       · rintro ⟨bs41, cp42, bs43, cp44⟩ S hF hS D hp K hK; try dsimp only
         exact d_lv1 (look_b (t := 0) rfl rfl) (lv_move rfl) 0 rfl rfl hS (hK (bs41, cp42, bs43, cp44) hF)
       · rintro ⟨bs41, cp42, bs43, cp44⟩ S hF hS D hp K hK; try dsimp only
         exact d_lv1 (lkr hp 0 rfl rfl) (lv_nilCheck rfl) 1 rfl rfl hS (hK (bs41, cp42, bs43, cp44) hF)
       · rintro ⟨bs41, cp42, bs43, cp44⟩ S hF hS D hp K hK; try dsimp only
         exact d_lv1 (lkr hp 1 rfl rfl) (lv_fieldAddr (o' := 13) Tryz.underlying73 rfl Tryz.sizeOf67 rfl rfl) 2 rfl rfl hS (hK (bs41, cp42, bs43, cp44) hF)
       · rintro ⟨bs41, cp42, bs43, cp44⟩ S hF hS D hp K hK; try dsimp only
         exact d_lv1 (lkr hp 2 rfl rfl) (lv_load Tryz.isAgg67 rfl (gives_e (v := (.pointer (some ⟨x.g, 0, none⟩))) (.tail _ (.head _)) (fun _ _ => rfl))) 3 rfl rfl hS (hK (bs41, cp42, bs43, cp44) hF)
       · rintro ⟨bs41, cp42, bs43, cp44⟩ S hF hS D hp K hK; try dsimp only
         exact d_lv1 (look_b (t := 14) rfl rfl) (lv_move rfl) 4 rfl rfl hS (hK (bs41, cp42, bs43, cp44) hF)
       · rintro ⟨bs41, cp42, bs43, cp44⟩ S hF hS D hp K hK; try dsimp only
         exact d_lv1 (look_b (t := 0) rfl rfl) (lv_move rfl) 5 rfl rfl hS (hK (bs41, cp42, bs43, cp44) hF)
       · rintro ⟨bs41, cp42, bs43, cp44⟩ S hF hS D hp K hK; try dsimp only
         exact d_lv1 (lkr hp 5 rfl rfl) (lv_nilCheck rfl) 6 rfl rfl hS (hK (bs41, cp42, bs43, cp44) hF)
       · rintro ⟨bs41, cp42, bs43, cp44⟩ S hF hS D hp K hK; try dsimp only
         exact d_lv1 (lkr hp 6 rfl rfl) (lv_fieldAddr (o' := 10) Tryz.underlying73 rfl Tryz.sizeOf24 rfl rfl) 7 rfl rfl hS (hK (bs41, cp42, bs43, cp44) hF)
       · rintro ⟨bs41, cp42, bs43, cp44⟩ S hF hS D hp K hK; try dsimp only
         exact d_lv1 (lkr hp 7 rfl rfl) (lv_load Tryz.isAgg24 rfl (gives_e (v := (.slice x.ba x.n x.ca)) (.tail _ (.head _)) (fun _ _ => rfl))) 8 rfl rfl hS (hK (bs41, cp42, bs43, cp44) hF)
       · rintro ⟨bs41, cp42, bs43, cp44⟩ S hF hS D hp K hK; try dsimp only
         exact d_lv1 (look_b (t := 6) rfl rfl) (lv_move rfl) 9 rfl rfl hS (hK (bs41, cp42, bs43, cp44) hF)
       · rintro ⟨bs41, cp42, bs43, cp44⟩ S hF hS D hp K hK; try dsimp only
         exact d_lv1 (look_b (t := 8) rfl rfl) (lv_move rfl) 10 rfl rfl hS (hK (bs41, cp42, bs43, cp44) hF)
       · rintro ⟨bs41, cp42, bs43, cp44⟩ S hF hS D hp K hK
         try dsimp only at hF ⊢
         obtain ⟨hf0, hf1, hf2, hf3⟩ := hF
         have s3 := hp 3 rfl
         have s4 := hp 4 rfl
         have s8 := hp 8 rfl
         have s9 := hp 9 rfl
         have s10 := hp 10 rfl
         refine d_need (small := [(93, (vP x.g 0)), (94, (.slice bs37 tl9.length cp38)), (98, (.slice x.ba x.n x.ca)), (99, (.slice bs3 y.as.a.length cp4)), (100, (.slice bo y.as.a.length co))]) ⟨look_row rfl 3 rfl s3, look_row rfl 4 rfl s4, look_row rfl 8 rfl s8, look_row rfl 9 rfl s9, look_row rfl 10 rfl s10, trivial⟩ ?_
         refine t_f6 ?_
         refine tc rfl (en_fn Tryz.call56 rfl) (wants_ok (n := x.n) (m1 := y.as.a.length) tl9 y.s.al y.as.a (rootsL y.s y.as.a) (by first | rfl | omega | (simp; done) | (simp; omega)) (by first | rfl | omega | (simp; done) | (simp; omega)) (by first | rfl | omega | (simp; done) | (simp; omega)) (by first | rfl | omega | (simp; done) | (simp; omega)) (by omega) (rd_sl (.head _)) (rd_al (.tail _ (.head _))) (rd_sl (.tail _ (.tail _ (.tail _ (.tail _ (.tail _ (.tail _ (.tail _ (.tail _ (.head _)))))))))) (rd_sl (.tail _ (.tail _ (.tail _ (.tail _ (.tail _ (.tail _ (.head _)))))))) hok39 hE.oka hok5 hoko (by first | omega | (simp; omega) | (simp; done)) (by first | omega | (simp; omega) | (simp; done)) (by first | omega | (simp; omega)) (Tab.cons (Tab.cons (Tab.cons (Tab.cons (Tab.cons (Tab.cons (Tab.cons (Tab.cons (Tab.cons (Tab.cons (Tab.cons (Tab.cons (Tab.cons (Tab.cons (Tab.cons (Tab.cons hT))))))))))))))))) ?_
         rintro _ _ ⟨bs41, cp42, bs43, cp44, hok45, hle46, hok47, hle48, rfl, rfl⟩
         try rw [show (wantN x.n x.n [] y.s.al tl9 y.as.a (rootsL y.s y.as.a) y.as.a.length).1 = ps from hw1] at hok45
         try rw [show (wantN x.n x.n [] y.s.al tl9 y.as.a (rootsL y.s y.as.a) y.as.a.length).1 = ps from hw1] at hle46
         try rw [show (wantN x.n x.n [] y.s.al tl9 y.as.a (rootsL y.s y.as.a) y.as.a.length).1 = ps from hw1] at hok47
         try rw [show (wantN x.n x.n [] y.s.al tl9 y.as.a (rootsL y.s y.as.a) y.as.a.length).1 = ps from hw1] at hle48
         rw [show (wantN x.n x.n [] y.s.al tl9 y.as.a (rootsL y.s y.as.a) y.as.a.length).1 = ps from hw1]
         try rw [show (wantN x.n x.n [] y.s.al tl9 y.as.a (rootsL y.s y.as.a) y.as.a.length).2 = qs from hw2] at hok45
         try rw [show (wantN x.n x.n [] y.s.al tl9 y.as.a (rootsL y.s y.as.a) y.as.a.length).2 = qs from hw2] at hle46
         try rw [show (wantN x.n x.n [] y.s.al tl9 y.as.a (rootsL y.s y.as.a) y.as.a.length).2 = qs from hw2] at hok47
         try rw [show (wantN x.n x.n [] y.s.al tl9 y.as.a (rootsL y.s y.as.a) y.as.a.length).2 = qs from hw2] at hle48
         rw [show (wantN x.n x.n [] y.s.al tl9 y.as.a (rootsL y.s y.as.a) y.as.a.length).2 = qs from hw2]
         refine t_f2 (t_f8 (t_f8 (t_f8 (t_f8 (t_f8 (t_f8 (t_f8 (t_f8 ?_))))))))
         refine t_sat (fun _ h => sat_put [_, _, _, _, _, _, _, _, _, _, _, _, _, _, _, _] h) ?_
         refine t_sat (fun _ h => sat_put [_, _, _, _, _, _, _, _, _, _, _, _, _, _, _, _] h) ?_
         exact d_closes ⟨look_row rfl 3 rfl s3, look_row rfl 4 rfl s4, look_row rfl 8 rfl s8, look_row rfl 9 rfl s9, look_row rfl 10 rfl s10, trivial⟩ 11 rfl rfl rfl hS (by exact ⟨.inl rfl, .inl rfl, .inl rfl, .inl rfl, .inl rfl, .inl rfl, .inl rfl, .inl rfl, .inl rfl, .inl rfl, .inl rfl, .inr ⟨rfl, rfl, hS⟩, .inr ⟨rfl, rfl, (nf hS D (k := 12) (i := 11) rfl)⟩, .inr ⟨rfl, rfl, (nf (nf hS D (k := 12) (i := 11) rfl) D (k := 13) (i := 12) rfl)⟩, .inr ⟨rfl, rfl, (nf (nf hS D (k := 12) (i := 11) rfl) D (k := 14) (i := 12) rfl)⟩, .inr ⟨rfl, rfl, (nf hS D (k := 15) (i := 11) rfl)⟩, .inr ⟨rfl, rfl, (nf hS D (k := 16) (i := 11) rfl)⟩, trivial⟩) (t_sat (fun _ h => h) (hK (bs41, cp42, bs43, cp44) ⟨(fun _ => hok45), (fun _ => hok47), (fun _ => hle46), (fun _ => hle48)⟩))
       · rintro ⟨bs41, cp42, bs43, cp44⟩ S hF hS D hp K hK; try dsimp only
         exact d_lv1 (lkr hp 11 rfl rfl) (lv_move rfl) 12 rfl rfl hS (hK (bs41, cp42, bs43, cp44) hF)
       · rintro ⟨bs41, cp42, bs43, cp44⟩ S hF hS D hp K hK; try dsimp only
         exact d_lv1 (lkr hp 12 rfl rfl) (lv_extract rfl rfl) 13 rfl rfl hS (hK (bs41, cp42, bs43, cp44) hF)
       · rintro ⟨bs41, cp42, bs43, cp44⟩ S hF hS D hp K hK; try dsimp only
         exact d_lv1 (lkr hp 12 rfl rfl) (lv_extract rfl rfl) 14 rfl rfl hS (hK (bs41, cp42, bs43, cp44) hF)
       · rintro ⟨bs41, cp42, bs43, cp44⟩ S hF hS D hp K hK; try dsimp only
         exact d_lv1 (lkr hp 13 rfl rfl) (lv_assign rfl) 15 rfl rfl hS (hK (bs41, cp42, bs43, cp44) hF)
       · rintro ⟨bs41, cp42, bs43, cp44⟩ S hF hS D hp K hK; try dsimp only
         exact d_lv1 (lkr hp 14 rfl rfl) (lv_assign rfl) 16 rfl rfl hS (hK (bs41, cp42, bs43, cp44) hF)
     · rintro ⟨bs41, cp42, bs43, cp44⟩ hF
       try dsimp only at hF ⊢
       obtain ⟨hf0, hf1, hf2, hf3⟩ := hF
       have hok45 := hf0 rfl
       have hok47 := hf1 rfl
       have hle46 := hf2 rfl
       have hle48 := hf3 rfl
       refine t_weak (E' := [(0, (vP e 0)), (1, (.agg #[(.int .i64 okd), (.int .i64 oa), (.int .i64 ob), (.int .i64 oc), (.int .i64 od)])), (4, (vP b2 0)), (5, (.int .i64 0)), (6, (.slice bs3 y.as.a.length cp4)), (7, (.slice ba y.as.a.length ca)), (8, (.slice bo y.as.a.length co)), (11, (.slice bs24 x.n cp25)), (12, (.int .i64 p)), (13, (.slice bs32 tl9.length cp33)), (14, (.slice bs37 tl9.length cp38)), (15, (.int .i64 0)), (16, (.slice bs41 ps.length cp42)), (17, (.slice bs43 qs.length cp44)), (26, (.slice bs3 y.as.a.length cp4)), (27, (vN y.as.a.length)), (28, (vN y.as.a.length)), (29, (.bool false)), (75, (.bool false)), (86, (.bool false))]) ⟨rfl, rfl, rfl, rfl, rfl, rfl, rfl, rfl, rfl, rfl, rfl, rfl, rfl, rfl, rfl, rfl, rfl, rfl, rfl, rfl, trivial⟩ ?_
       refine q_then_n (hK17 _ _ (c_seq (fun K18 hK18 => c_region (tp rfl (lv_move rfl) (tp rfl (lv_nilCheck rfl) (tp rfl (lv_fieldAddr (o' := 17) Tryz.underlying73 rfl Tryz.sizeOf71 rfl rfl) (tp rfl (lv_load Tryz.isAgg71 rfl (gives_e (v := (.pointer (some ⟨x.tn, 0, none⟩))) (.tail _ (.head _)) (fun _ _ => rfl))) (tp rfl (lv_move rfl) (t_f14 ?_)))))))))
       refine tc rfl (en_fn Tryz.call57 rfl) (take_okn (q := q) (ms := y.ms) (a := y.ta) ps rfl (rd_sl (.tail _ (.tail _ (.tail _ (.tail _ (.tail _ (.tail _ (.tail _ (.tail _ (.tail _ (.tail _ (.tail _ (.tail _ (.tail _ (.tail _ (.head _)))))))))))))))) hok45 (by omega) (by omega) hD.any) ?_
       rintro _ _ ⟨tmq, ta9, htk, rfl, rfl⟩
       refine tp rfl (lv_move rfl) (tp rfl (lv_extract rfl rfl) (tp rfl (lv_extract rfl rfl) ?_))
       refine tm rfl (mv_alloc Tryz.zeroValue3 rfl) ?_
       rintro _ _ ⟨b49, rfl, rfl⟩
       refine ts (sv_blk Tryz.sizeOf3 rfl rfl rfl (Nat.le_of_ble_eq_true rfl) rfl) ?_
       refine tp rfl (lv_assign rfl) (t_done (q_then_n (hK18 _ _ (c_seq (fun K19 hK19 => c_seq (fun K20 hK20 => c_region ?_))))))
       obtain ⟨hti, htl, k9, t, hk1, hk2, hk3, ht1, hst⟩ := hD.tk _ _ _ htk
       refine tp rfl (lv_move rfl) (tp rfl (lv_not (c := false) rfl rfl) (t_done (q_then_n (hK20 _ _ (c_false rfl (c_skip (q_then_n (hK19 _ _ (c_seq (fun K21 hK21 => c_region (tp rfl (lv_move rfl) ?_)))))))))))
       refine tp rfl (lv_move rfl) (tp rfl (lv_makeFunc rfl) ?_)
       refine tc rfl (en_fn Tryz.call58 rfl) (indexFuncW_ok (p := (fun k => decide ((ps.getD k (0, 0)).1 = (tmq.getD ta9 M3.z).id))) (n := ps.length) ps rfl ⟨Tryz.call59, fun k hk => disp1_ok (gives_blk (o := 0) (.head _) rfl)⟩ (rd_sl (.tail _ (.tail _ (.tail _ (.tail _ (.tail _ (.tail _ (.tail _ (.tail _ (.tail _ (.tail _ (.tail _ (.tail _ (.tail _ (.tail _ (.tail _ (.tail _ (.head _)))))))))))))))))) hok45 (by omega)) ?_
       rintro _ _ ⟨rfl, rfl⟩
       rw [show idxN (fun k => decide ((ps.getD k (0, 0)).1 = (tmq.getD ta9 M3.z).id)) ps.length = ((k9 : Nat) : Int) from hk2]
       refine tp rfl (lv_indexAddr (k' := k9) Tryz.underlying34 Tryz.sizeOf3 rfl rfl hok47 (by omega) (by omega) (by omega)) ?_
       refine tp rfl (lv_load Tryz.isAgg3 rfl (gives_sl (.tail _ (.tail _ (.tail _ (.tail _ (.tail _ (.tail _ (.tail _ (.tail _ (.tail _ (.tail _ (.tail _ (.tail _ (.tail _ (.tail _ (.tail _ (.tail _ (.tail _ (.head _)))))))))))))))))) (ints_get (by first | omega | (simp; omega))))) ?_
       refine tp rfl (lv_assign rfl) (t_done (q_then_n (hK21 _ _ (c_seq (fun K22 hK22 => c_region ?_)))))
       rw [hk3]
       refine tp rfl (lv_move rfl) (tp rfl (lv_load Tryz.isAgg3 rfl (gives_blk (.head _) rfl)) (tp rfl (lv_move rfl) (t_f15 (t_f15 (t_f6 (t_f6 ?_))))))
       refine tc rfl (en_fn Tryz.call60 rfl) (starts_ok (x := x) (s := y.s) (ld := ld) (ks := ks) ((tmq.getD ta9 M3.z).id) t (by omega) (h0 t ht1) hz hl hb (he t ht1) htm) ?_
       rintro _ _ ⟨rfl, rfl⟩
       refine tp rfl (lv_extract rfl rfl) (tp rfl (lv_extract rfl rfl) (t_f15 ?_))
       refine ts (sv_blkAgg (news := [(.int .i64 ((tmq.getD ta9 M3.z).id)), (.int .i64 0), (.int .i64 ((t : Nat) : Int)), (.int .i64 (ld.takeV ((t : Nat) : Int) (y.s.tk.getD t Tk.z).mem)), (.int .i64 (((startS y.s ld t).lf.getD t Lf.z).ep))]) Tryz.sizeOf40 rfl rfl rfl rfl (Nat.le_of_ble_eq_true rfl) rfl) ?_
       refine tp rfl (lv_assign rfl) (t_done (q_then_n (hK22 _ _ (c_ret (t_f5 (t_drop (t_f6 (t_drop (t_f6 (t_drop ?_))))))))))
       refine t_f6 (t_drop (t_f6 (t_drop (t_f7 (t_drop (t_f7 (t_drop (t_f7 (t_drop ?_)))))))))
       refine t_f8 (t_drop (t_f8 (t_drop (t_f5 (t_f6 (t_f6 (t_f6 (t_f6 (t_f6 ?_)))))))))
       refine t_f6 ?_
       refine q_retc2 (cs := [(.int .i64 ((tmq.getD ta9 M3.z).id)), (.int .i64 0), (.int .i64 ((t : Nat) : Int)), (.int .i64 (ld.takeV ((t : Nat) : Int) (y.s.tk.getD t Tk.z).mem)), (.int .i64 (((startS y.s ld t).lf.getD t Lf.z).ep))]) rfl rfl rfl Tryz.isAgg40 Tryz.sizeOf40 (gives_all5 (gives_blk (.head _) rfl) (gives_blk (.head _) rfl) (gives_blk (.head _) rfl) (gives_blk (.head _) rfl) (gives_blk (.head _) rfl)) (fun _ h => h.drop) ?_
       exact .inr ⟨hne, t, _, _, _, ht1, hst, by rw [setC_ids (by omega)]; exact hti, rfl, rfl⟩
end Go.Proofs.YtanfdikglplkaaaGreatDoor
