/- Parts Ep: own lemmas and contracts of the code that the claim reaches. -/
import Derived.Test.YtanfdikglplkaaaGreatDoorM03
import Derived.Test.YtanfdikglplkaaaGreatDoorM20
import Derived.Test.YtanfdikglplkaaaGreatDoorM11
import Derived.Test.YtanfdikglplkaaaGreatDoorM17
set_option linter.unusedSimpArgs false
set_option linter.unusedVariables false
set_option maxRecDepth 100000
namespace Go.Proofs.YtanfdikglplkaaaGreatDoor
open Go Go.Proofs Sp
theorem clonet_ok {R : List HP} {bx : Option Addr} {cx n : Nat} (xs : List (Int × Int)) (hn : xs.length = n) (hx : Rd R bx (pairs xs)) (okx : SlOk bx n) (lx : n ≤ 1000000) :
    Ok Tryz.prog 34 [(.slice bx n cx)] R
      (OutSl 57 2 n (pairs xs) R) := by
 refine ok_of (N := 8) Tryz.func34 rfl rfl rfl (fun W => ?_)
 refine c_seq (fun K1 hK1 => c_region (tp rfl (lv_assign rfl) (t_done (q_then_n (hK1 _ _ (c_seq (fun K2 hK2 => c_seq (fun K3 hK3 => c_region (tp rfl (lv_move rfl) ?_)))))))))
 rcases hnhnil1 : (bx).isNone with _ | _
 · refine tp rfl (lv_eqnils Tryz.underlying24 rfl rfl hnhnil1) (t_done (q_then_n (hK3 _ _ (c_false rfl (c_skip (q_then_n (hK2 _ _ (c_seq (fun K4 hK4 => c_region ?_)))))))))
   refine tm rfl (mv_buildSlice (cs := []) Tryz.underlying24 Tryz.sizeOf57 Tryz.zeroValue57 (by decide) rfl rfl rfl rfl) ?_
   rintro _ _ ⟨bs2, cp3, hok4, hle5, rfl, rfl⟩
   refine tp rfl (lv_move rfl) ?_
   refine tm rfl (mv_append (i := Tryz.t57) Tryz.underlying24 Tryz.type57 rfl rfl rfl (by decide) rfl rfl okx (by rw [pairs_length, hn]) (Rd.cons hx) pairs_one (by rw [show Tryz.t57.bytes = 16 from rfl]; omega)) ?_
   rintro _ _ ⟨bs6, cp7, hok8, hle9, rfl, rfl⟩
   simp only [Nat.zero_add] at hok8 hle9 ⊢
   rw [List.nil_append]
   refine tp rfl (lv_assign rfl) (t_done (q_then_n (hK4 _ _ (c_ret ?_))))
   refine q_ret rfl rfl ?_
   exact ⟨_, _, hok8, hle9, rfl, rfl⟩
 · refine tp rfl (lv_eqnils Tryz.underlying24 rfl rfl hnhnil1) (t_done (q_then_n (hK3 _ _ (c_true rfl (c_seq (fun K4 hK4 => c_region (tp rfl (lv_assign rfl) (t_done (q_then_n (hK4 _ _ (c_ret ?_)))))))))))
   refine q_then_r ?_
   refine t_sat (fun _ h => sat_nilsl 57 2 h) ?_
   refine q_ret rfl rfl ?_
   have h0 : n = 0 := slok_isNone okx ‹_›
   subst h0
   obtain rfl : xs = [] := List.eq_nil_of_length_eq_zero hn
   exact ⟨none, 0, slok_none, Nat.le_refl _, rfl, rfl⟩
set_option maxHeartbeats 4000000 in
theorem enew_ok {R : List HP} {c : Cfg} {bb : Option Addr} {n cb : Nat} (al : List (Int × Int)) (hc : CfgOk c) (hln : al.length = n) (hn : n ≤ 64) (hal : ∀ i, i < n → (1 ≤ (al.getD i (0, 0)).1 ∧ (al.getD i (0, 0)).1 ≤ 1048576) ∧ 1 ≤ (al.getD i (0, 0)).2 ∧ (al.getD i (0, 0)).2 ≤ 1048576) (hb : Rd R bb (pairs al)) (okb : SlOk bb n) :
    Ok Tryz.prog 18 [(.agg #[(.int .i64 c.bud), (.int .i64 c.slots), (.int .i64 c.act), (.int .i64 c.que), (.int .i64 c.tries), (.int .i64 c.pre), (.int .i64 c.tmo), (.int .i64 c.bak), (.int .i64 c.most), (.int .i64 c.qu)]), (.slice bb n cb)] R
      (fun v M => ∃ (e : Nat) (x : EP) (hp : Nat), x.n = n ∧ x.m = 0 ∧ v = .tuple #[.pointer (some ⟨e, 0, none⟩), .int .i64 0] ∧ M = EngC e x (newS c al) :: LedO x.ld ⟨max c.bud 0, (min (max c.slots 0) 16).toNat, List.replicate 16 Pl.z, 0⟩ :: Blk x.tp [.pointer (some ⟨hp, 0, none⟩)] 132 :: HeapO hp (hclamp ((n : Nat) : Int)) (List.replicate (hclamp ((n : Nat) : Int)) none) :: GraphO x.g x.n [] :: TurnsO x.tn (qOf c.qu) [] 0 :: AdmO x.ad (max c.act 1) (max c.que 0) ⟨[], []⟩ :: R) := by
 refine ok_of (N := 74) Tryz.func18 rfl rfl rfl (fun W => ?_)
 have hbud := hc.bud
 have hslots := hc.slots
 have hact := hc.act
 have hque := hc.que
 have htries := hc.tries
 have hpre := hc.pre
 have htmo := hc.tmo
 have hbak := hc.bak
 have hmost := hc.most
 have hqu := hc.qu
 refine c_seq (fun K1 hK1 => c_region ?_)
 refine tm rfl (mv_box rfl rfl) ?_
 rintro _ _ ⟨b1, rfl, rfl⟩
 refine tp rfl (lv_assign rfl) (tp rfl (lv_assign rfl) (t_done (q_then_n (hK1 _ _ (c_seq (fun K2 hK2 => c_seq (fun K3 hK3 => c_region (tp rfl (lv_loadAgg (cs := [(.int .i64 c.bud), (.int .i64 c.slots), (.int .i64 c.act), (.int .i64 c.que), (.int .i64 c.tries), (.int .i64 c.pre), (.int .i64 c.tmo), (.int .i64 c.bak), (.int .i64 c.most), (.int .i64 c.qu)]) Tryz.isAgg23 Tryz.sizeOf23 rfl (gives_all10 (gives_blk (.head _) rfl) (gives_blk (.head _) rfl) (gives_blk (.head _) rfl) (gives_blk (.head _) rfl) (gives_blk (.head _) rfl) (gives_blk (.head _) rfl) (gives_blk (.head _) rfl) (gives_blk (.head _) rfl) (gives_blk (.head _) rfl) (gives_blk (.head _) rfl))) ?_))))))))
 refine tc rfl (en_fn Tryz.call33 rfl) (config_ok hc) ?_
 rintro _ _ ⟨rfl, rfl⟩
 refine tp rfl (lv_assign rfl) (t_done (q_then_n (hK3 _ _ (c_seq (fun K4 hK4 => c_region (tp rfl (lv_move rfl) (tp rfl (lv_neq (r := false) rfl rfl (by decide)) ?_)))))))
 refine t_done (q_then_n (hK4 _ _ (c_false rfl (c_skip (q_then_n (hK2 _ _ (c_seq (fun K5 hK5 => c_seq (fun K6 hK6 => c_region (tp rfl (lv_move rfl) (tp rfl (lv_len Tryz.underlying24 rfl rfl) ?_)))))))))))
 refine tp rfl (lv_gtr rfl rfl (decide_eq_false (by omega))) ?_
 refine t_done (q_then_n (hK6 _ _ (c_false rfl (c_skip (q_then_n (hK5 _ _ (c_seq (fun K7 hK7 => c_region (tp rfl (lv_move rfl) (tp rfl (lv_len Tryz.underlying24 rfl rfl) (tp rfl (lv_assign rfl) ?_)))))))))))
 refine t_done (q_then_n (hK7 _ _ (c_seq (fun K8 hK8 => ?_))))
 refine c_draw (γ := Option Addr × Nat × Nat × Nat × Nat × Nat × Nat × Nat × Nat) (n := 23) Tryz.mixed rfl rfl (fun (bs2, cp3, p6, p7, q8, p9, p10, p11, b12) S => (S 2 = true → SlOk bs2 n) ∧ (S 2 = true → n ≤ cp3)) (fun (bs2, cp3, p6, p7, q8, p9, p10, p11, b12) => [(0, 22, (.agg #[(.int .i64 c.bud), (.int .i64 c.slots), (.int .i64 c.act), (.int .i64 c.que), (.int .i64 c.tries), (.int .i64 c.pre), (.int .i64 c.tmo), (.int .i64 c.bak), (.int .i64 c.most), (.int .i64 c.qu)])), (1, 23, (.slice bb n cb)), (2, 24, (.slice bs2 n cp3)), (3, 25, (vN n)), (4, 26, (vP p6 0)), (5, 27, (vN n)), (6, 28, (vP p7 0)), (7, 29, (vP b1 0)), (8, 30, (.int .i64 c.bud)), (9, 31, (vP b1 1)), (10, 32, (.int .i64 c.slots)), (11, 33, (vP p9 0)), (12, 34, (vP b1 2)), (13, 35, (.int .i64 c.act)), (14, 36, (vP b1 3)), (15, 37, (.int .i64 c.que)), (16, 38, (vP p10 0)), (17, 39, (vP b1 9)), (18, 40, (.int .i64 c.qu)), (19, 41, (vP p11 0)), (20, 42, (.agg #[(.int .i64 c.bud), (.int .i64 c.slots), (.int .i64 c.act), (.int .i64 c.que), (.int .i64 c.tries), (.int .i64 c.pre), (.int .i64 c.tmo), (.int .i64 c.bak), (.int .i64 c.most), (.int .i64 c.qu), (.slice bs2 n cp3), (.slice none 0 0), (.slice none 0 0), (vP p6 0), (vP p7 0), (vP p9 0), (vP p10 0), (vP p11 0), (.int .i64 0), (.int .i64 0), (.slice none 0 0)])), (21, 43, (vP b12 0)), (22, 8, (vP b12 0))]) (fun (bs2, cp3, p6, p7, q8, p9, p10, p11, b12) S => (Blk b1 [(.int .i64 c.bud), (.int .i64 c.slots), (.int .i64 c.act), (.int .i64 c.que), (.int .i64 c.tries), (.int .i64 c.pre), (.int .i64 c.tmo), (.int .i64 c.bak), (.int .i64 c.most), (.int .i64 c.qu)] 23) :: (bif S 2 then (SlV 57 2 (.slice bs2 n cp3) n (pairs al)) else Emp) :: (bif S 4 then (GraphO p6 (clampN ((n : Nat) : Int)) ([] : Es)) else Emp) :: (bif S 6 then (Blk p7 [(vP q8 0)] 132) else Emp) :: (bif S 6 then (HeapO q8 (hclamp ((n : Nat) : Int)) (List.replicate (hclamp ((n : Nat) : Int)) none)) else Emp) :: (bif S 11 then (LedO p9 ⟨max c.bud 0, (min (max c.slots 0) 16).toNat, List.replicate 16 Pl.z, 0⟩) else Emp) :: (bif S 16 then (AdmO p10 (max c.act 1) (max c.que 0) ⟨[], []⟩) else Emp) :: (bif S 19 then (TurnsO p11 (qOf c.qu) [] 0) else Emp) :: (bif S 21 then (Blk b12 [(.int .i64 c.bud), (.int .i64 c.slots), (.int .i64 c.act), (.int .i64 c.que), (.int .i64 c.tries), (.int .i64 c.pre), (.int .i64 c.tmo), (.int .i64 c.bak), (.int .i64 c.most), (.int .i64 c.qu), (.slice bs2 n cp3), (.slice none 0 0), (.slice none 0 0), (vP p6 0), (vP p7 0), (vP p9 0), (vP p10 0), (vP p11 0), (.int .i64 0), (.int .i64 0), (.slice none 0 0)] 73) else Emp) :: R) (none, 0, 0, 0, 0, 0, 0, 0, 0) (by simp [Nat.ble]) (fun _ h => sat_emps [_] 8 h) (fun _ _ h => h) ?_ ?_
 · refine ⟨?_, ?_, ?_, ?_, ?_, ?_, ?_, ?_, ?_, ?_, ?_, ?_, ?_, ?_, ?_, ?_, ?_, ?_, ?_, ?_, ?_, ?_, ?_, trivial⟩
   · rintro ⟨bs2, cp3, p6, p7, q8, p9, p10, p11, b12⟩ S hF hS D hp K hK; try dsimp only
     exact d_lv1 (look_b (t := 2) rfl rfl) (lv_loadAgg (cs := [(.int .i64 c.bud), (.int .i64 c.slots), (.int .i64 c.act), (.int .i64 c.que), (.int .i64 c.tries), (.int .i64 c.pre), (.int .i64 c.tmo), (.int .i64 c.bak), (.int .i64 c.most), (.int .i64 c.qu)]) Tryz.isAgg23 Tryz.sizeOf23 rfl (gives_all10 (gives_blk (.head _) rfl) (gives_blk (.head _) rfl) (gives_blk (.head _) rfl) (gives_blk (.head _) rfl) (gives_blk (.head _) rfl) (gives_blk (.head _) rfl) (gives_blk (.head _) rfl) (gives_blk (.head _) rfl) (gives_blk (.head _) rfl) (gives_blk (.head _) rfl))) 0 rfl rfl hS (hK (bs2, cp3, p6, p7, q8, p9, p10, p11, b12) hF)
   · rintro ⟨bs2, cp3, p6, p7, q8, p9, p10, p11, b12⟩ S hF hS D hp K hK; try dsimp only
     exact d_lv1 (look_b (t := 1) rfl rfl) (lv_move rfl) 1 rfl rfl hS (hK (bs2, cp3, p6, p7, q8, p9, p10, p11, b12) hF)
   · rintro ⟨bs2, cp3, p6, p7, q8, p9, p10, p11, b12⟩ S hF hS D hp K hK
     try dsimp only at hF ⊢
     obtain ⟨hf0, hf1⟩ := hF
     have s1 := hp 1 rfl
     refine d_need (small := [(23, (.slice bb n cb))]) ⟨look_row rfl 1 rfl s1, trivial⟩ ?_
     refine tc rfl (en_fn Tryz.call34 rfl) (clonet_ok al (by omega) (Rd.cons (Rd.cons (Rd.cons (Rd.cons (Rd.cons (Rd.cons (Rd.cons (Rd.cons (Rd.cons hb))))))))) okb (by omega)) ?_
     rintro _ _ ⟨bs2, cp3, hok4, hle5, rfl, rfl⟩
     refine t_f9 ?_
     refine t_cF (nf (nf hS D (k := 20) (i := 2) rfl) D (k := 21) (i := 20) rfl) ?_
     refine t_wF (A := (Blk b12 [(.int .i64 c.bud), (.int .i64 c.slots), (.int .i64 c.act), (.int .i64 c.que), (.int .i64 c.tries), (.int .i64 c.pre), (.int .i64 c.tmo), (.int .i64 c.bak), (.int .i64 c.most), (.int .i64 c.qu), (.slice bs2 n cp3), (.slice none 0 0), (.slice none 0 0), (.pointer (some ⟨p6, 0, none⟩)), (.pointer (some ⟨p7, 0, none⟩)), (.pointer (some ⟨p9, 0, none⟩)), (.pointer (some ⟨p10, 0, none⟩)), (.pointer (some ⟨p11, 0, none⟩)), (.int .i64 0), (.int .i64 0), (.slice none 0 0)] 73)) (nf (nf hS D (k := 20) (i := 2) rfl) D (k := 21) (i := 20) rfl) ?_
     refine t_f9 (t_f9 (t_f9 (t_f9 (t_f9 (t_f9 (t_f9 (t_f9 (t_f9 ?_))))))))
     refine t_sat (fun _ h => sat_put [_] h) ?_
     exact d_closes ⟨look_row rfl 1 rfl s1, trivial⟩ 2 rfl rfl rfl hS (by exact ⟨.inl rfl, .inl rfl, .inr ⟨rfl, rfl, hS⟩, .inl rfl, .inl rfl, .inl rfl, .inl rfl, .inl rfl, .inl rfl, .inl rfl, .inl rfl, .inl rfl, .inl rfl, .inl rfl, .inl rfl, .inl rfl, .inl rfl, .inl rfl, .inl rfl, .inl rfl, .inr ⟨rfl, rfl, (nf hS D (k := 20) (i := 2) rfl)⟩, .inl rfl, .inl rfl, trivial⟩) (t_sat (fun _ h => h) (hK (bs2, cp3, p6, p7, q8, p9, p10, p11, b12) ⟨(fun _ => hok4), (fun _ => hle5)⟩))
   · rintro ⟨bs2, cp3, p6, p7, q8, p9, p10, p11, b12⟩ S hF hS D hp K hK; try dsimp only
     exact d_lv1 (look_b (t := 7) rfl rfl) (lv_move rfl) 3 rfl rfl hS (hK (bs2, cp3, p6, p7, q8, p9, p10, p11, b12) hF)
   · rintro ⟨bs2, cp3, p6, p7, q8, p9, p10, p11, b12⟩ S hF hS D hp K hK
     try dsimp only at hF ⊢
     obtain ⟨hf0, hf1⟩ := hF
     have s2 := hp 2 rfl
     have hok4 := hf0 s2
     have hle5 := hf1 s2
     have s3 := hp 3 rfl
     refine d_need (small := [(25, (vN n))]) ⟨look_row rfl 3 rfl s3, trivial⟩ ?_
     refine tc rfl (en_fn Tryz.call35 rfl) (new_ok ((n : Nat) : Int)) ?_
     rintro _ _ ⟨p6, rfl, rfl⟩
     refine t_f9 ?_
     refine t_cF (nf (nf hS D (k := 20) (i := 4) rfl) D (k := 21) (i := 20) rfl) ?_
     refine t_wF (A := (Blk b12 [(.int .i64 c.bud), (.int .i64 c.slots), (.int .i64 c.act), (.int .i64 c.que), (.int .i64 c.tries), (.int .i64 c.pre), (.int .i64 c.tmo), (.int .i64 c.bak), (.int .i64 c.most), (.int .i64 c.qu), (.slice bs2 n cp3), (.slice none 0 0), (.slice none 0 0), (.pointer (some ⟨p6, 0, none⟩)), (.pointer (some ⟨p7, 0, none⟩)), (.pointer (some ⟨p9, 0, none⟩)), (.pointer (some ⟨p10, 0, none⟩)), (.pointer (some ⟨p11, 0, none⟩)), (.int .i64 0), (.int .i64 0), (.slice none 0 0)] 73)) (nf (nf hS D (k := 20) (i := 4) rfl) D (k := 21) (i := 20) rfl) ?_
     refine t_f9 (t_f9 (t_f9 (t_f9 (t_f9 (t_f9 (t_f9 (t_f9 (t_f9 ?_))))))))
     refine t_sat (fun _ h => sat_put [_, _] h) ?_
     exact d_closes ⟨look_row rfl 3 rfl s3, trivial⟩ 4 rfl rfl rfl hS (by exact ⟨.inl rfl, .inl rfl, .inl rfl, .inl rfl, .inr ⟨rfl, rfl, hS⟩, .inl rfl, .inl rfl, .inl rfl, .inl rfl, .inl rfl, .inl rfl, .inl rfl, .inl rfl, .inl rfl, .inl rfl, .inl rfl, .inl rfl, .inl rfl, .inl rfl, .inl rfl, .inr ⟨rfl, rfl, (nf hS D (k := 20) (i := 4) rfl)⟩, .inl rfl, .inl rfl, trivial⟩) (t_sat (fun _ h => h) (hK (bs2, cp3, p6, p7, q8, p9, p10, p11, b12) ⟨hf0, hf1⟩))
   · rintro ⟨bs2, cp3, p6, p7, q8, p9, p10, p11, b12⟩ S hF hS D hp K hK; try dsimp only
     exact d_lv1 (look_b (t := 7) rfl rfl) (lv_move rfl) 5 rfl rfl hS (hK (bs2, cp3, p6, p7, q8, p9, p10, p11, b12) hF)
   · rintro ⟨bs2, cp3, p6, p7, q8, p9, p10, p11, b12⟩ S hF hS D hp K hK
     try dsimp only at hF ⊢
     obtain ⟨hf0, hf1⟩ := hF
     have s4 := hp 4 rfl
     have s2 := D 4 2 rfl s4
     have hok4 := hf0 s2
     have hle5 := hf1 s2
     have s5 := hp 5 rfl
     refine d_need (small := [(27, (vN n))]) ⟨look_row rfl 5 rfl s5, trivial⟩ ?_
     refine tc rfl (en_fn Tryz.call36 rfl) (tnew_ok ((n : Nat) : Int)) ?_
     rintro _ _ ⟨p7, q8, rfl, rfl⟩
     refine t_f10 ?_
     refine t_cF (nf (nf hS D (k := 20) (i := 6) rfl) D (k := 21) (i := 20) rfl) ?_
     refine t_wF (A := (Blk b12 [(.int .i64 c.bud), (.int .i64 c.slots), (.int .i64 c.act), (.int .i64 c.que), (.int .i64 c.tries), (.int .i64 c.pre), (.int .i64 c.tmo), (.int .i64 c.bak), (.int .i64 c.most), (.int .i64 c.qu), (.slice bs2 n cp3), (.slice none 0 0), (.slice none 0 0), (.pointer (some ⟨p6, 0, none⟩)), (.pointer (some ⟨p7, 0, none⟩)), (.pointer (some ⟨p9, 0, none⟩)), (.pointer (some ⟨p10, 0, none⟩)), (.pointer (some ⟨p11, 0, none⟩)), (.int .i64 0), (.int .i64 0), (.slice none 0 0)] 73)) (nf (nf hS D (k := 20) (i := 6) rfl) D (k := 21) (i := 20) rfl) ?_
     refine t_f10 (t_f10 (t_f10 (t_f10 (t_f10 (t_f10 (t_f10 (t_f10 (t_f10 (t_f10 ?_)))))))))
     refine t_sat (fun _ h => sat_put [_, _, _, _] h) ?_
     refine t_sat (fun _ h => sat_put [_, _, _, _] h) ?_
     exact d_closes ⟨look_row rfl 5 rfl s5, trivial⟩ 6 rfl rfl rfl hS (by exact ⟨.inl rfl, .inl rfl, .inl rfl, .inl rfl, .inl rfl, .inl rfl, .inr ⟨rfl, rfl, hS⟩, .inl rfl, .inl rfl, .inl rfl, .inl rfl, .inl rfl, .inl rfl, .inl rfl, .inl rfl, .inl rfl, .inl rfl, .inl rfl, .inl rfl, .inl rfl, .inr ⟨rfl, rfl, (nf hS D (k := 20) (i := 6) rfl)⟩, .inl rfl, .inl rfl, trivial⟩) (t_sat (fun _ h => h) (hK (bs2, cp3, p6, p7, q8, p9, p10, p11, b12) ⟨hf0, hf1⟩))
   · rintro ⟨bs2, cp3, p6, p7, q8, p9, p10, p11, b12⟩ S hF hS D hp K hK; try dsimp only
     exact d_lv1 (look_b (t := 2) rfl rfl) (lv_fieldAddr (o' := 0) Tryz.underlying23 rfl Tryz.sizeOf3 rfl rfl) 7 rfl rfl hS (hK (bs2, cp3, p6, p7, q8, p9, p10, p11, b12) hF)
   · rintro ⟨bs2, cp3, p6, p7, q8, p9, p10, p11, b12⟩ S hF hS D hp K hK; try dsimp only
     exact d_lv1 (lkr hp 7 rfl rfl) (lv_load Tryz.isAgg3 rfl (gives_blk (.head _) rfl)) 8 rfl rfl hS (hK (bs2, cp3, p6, p7, q8, p9, p10, p11, b12) hF)
   · rintro ⟨bs2, cp3, p6, p7, q8, p9, p10, p11, b12⟩ S hF hS D hp K hK; try dsimp only
     exact d_lv1 (look_b (t := 2) rfl rfl) (lv_fieldAddr (o' := 1) Tryz.underlying23 rfl Tryz.sizeOf3 rfl rfl) 9 rfl rfl hS (hK (bs2, cp3, p6, p7, q8, p9, p10, p11, b12) hF)
   · rintro ⟨bs2, cp3, p6, p7, q8, p9, p10, p11, b12⟩ S hF hS D hp K hK; try dsimp only
     exact d_lv1 (lkr hp 9 rfl rfl) (lv_load Tryz.isAgg3 rfl (gives_blk (.head _) rfl)) 10 rfl rfl hS (hK (bs2, cp3, p6, p7, q8, p9, p10, p11, b12) hF)
   · rintro ⟨bs2, cp3, p6, p7, q8, p9, p10, p11, b12⟩ S hF hS D hp K hK
     try dsimp only at hF ⊢
     obtain ⟨hf0, hf1⟩ := hF
     have s6 := hp 6 rfl
     have s4 := D 6 4 rfl s6
     have s2 := D 4 2 rfl s4
     have hok4 := hf0 s2
     have hle5 := hf1 s2
     have s8 := hp 8 rfl
     have s10 := hp 10 rfl
     refine d_need (small := [(30, (.int .i64 c.bud)), (32, (.int .i64 c.slots))]) ⟨look_row rfl 8 rfl s8, look_row rfl 10 rfl s10, trivial⟩ ?_
     refine tc rfl (en_fn Tryz.call37 rfl) (lnew_ok c.bud c.slots (by omega)) ?_
     rintro _ _ ⟨p9, rfl, rfl⟩
     refine t_f9 ?_
     refine t_cF (nf (nf hS D (k := 20) (i := 11) rfl) D (k := 21) (i := 20) rfl) ?_
     refine t_wF (A := (Blk b12 [(.int .i64 c.bud), (.int .i64 c.slots), (.int .i64 c.act), (.int .i64 c.que), (.int .i64 c.tries), (.int .i64 c.pre), (.int .i64 c.tmo), (.int .i64 c.bak), (.int .i64 c.most), (.int .i64 c.qu), (.slice bs2 n cp3), (.slice none 0 0), (.slice none 0 0), (.pointer (some ⟨p6, 0, none⟩)), (.pointer (some ⟨p7, 0, none⟩)), (.pointer (some ⟨p9, 0, none⟩)), (.pointer (some ⟨p10, 0, none⟩)), (.pointer (some ⟨p11, 0, none⟩)), (.int .i64 0), (.int .i64 0), (.slice none 0 0)] 73)) (nf (nf hS D (k := 20) (i := 11) rfl) D (k := 21) (i := 20) rfl) ?_
     refine t_f9 (t_f9 (t_f9 (t_f9 (t_f9 (t_f9 (t_f9 (t_f9 (t_f9 ?_))))))))
     refine t_sat (fun _ h => sat_put [_, _, _, _, _] h) ?_
     exact d_closes ⟨look_row rfl 8 rfl s8, look_row rfl 10 rfl s10, trivial⟩ 11 rfl rfl rfl hS (by exact ⟨.inl rfl, .inl rfl, .inl rfl, .inl rfl, .inl rfl, .inl rfl, .inl rfl, .inl rfl, .inl rfl, .inl rfl, .inl rfl, .inr ⟨rfl, rfl, hS⟩, .inl rfl, .inl rfl, .inl rfl, .inl rfl, .inl rfl, .inl rfl, .inl rfl, .inl rfl, .inr ⟨rfl, rfl, (nf hS D (k := 20) (i := 11) rfl)⟩, .inl rfl, .inl rfl, trivial⟩) (t_sat (fun _ h => h) (hK (bs2, cp3, p6, p7, q8, p9, p10, p11, b12) ⟨hf0, hf1⟩))
   · rintro ⟨bs2, cp3, p6, p7, q8, p9, p10, p11, b12⟩ S hF hS D hp K hK; try dsimp only
     exact d_lv1 (look_b (t := 2) rfl rfl) (lv_fieldAddr (o' := 2) Tryz.underlying23 rfl Tryz.sizeOf3 rfl rfl) 12 rfl rfl hS (hK (bs2, cp3, p6, p7, q8, p9, p10, p11, b12) hF)
   · rintro ⟨bs2, cp3, p6, p7, q8, p9, p10, p11, b12⟩ S hF hS D hp K hK; try dsimp only
     exact d_lv1 (lkr hp 12 rfl rfl) (lv_load Tryz.isAgg3 rfl (gives_blk (.head _) rfl)) 13 rfl rfl hS (hK (bs2, cp3, p6, p7, q8, p9, p10, p11, b12) hF)
   · rintro ⟨bs2, cp3, p6, p7, q8, p9, p10, p11, b12⟩ S hF hS D hp K hK; try dsimp only
     exact d_lv1 (look_b (t := 2) rfl rfl) (lv_fieldAddr (o' := 3) Tryz.underlying23 rfl Tryz.sizeOf3 rfl rfl) 14 rfl rfl hS (hK (bs2, cp3, p6, p7, q8, p9, p10, p11, b12) hF)
   · rintro ⟨bs2, cp3, p6, p7, q8, p9, p10, p11, b12⟩ S hF hS D hp K hK; try dsimp only
     exact d_lv1 (lkr hp 14 rfl rfl) (lv_load Tryz.isAgg3 rfl (gives_blk (.head _) rfl)) 15 rfl rfl hS (hK (bs2, cp3, p6, p7, q8, p9, p10, p11, b12) hF)
   · rintro ⟨bs2, cp3, p6, p7, q8, p9, p10, p11, b12⟩ S hF hS D hp K hK
     try dsimp only at hF ⊢
     obtain ⟨hf0, hf1⟩ := hF
     have s11 := hp 11 rfl
     have s6 := D 11 6 rfl s11
     have s4 := D 6 4 rfl s6
     have s2 := D 4 2 rfl s4
     have hok4 := hf0 s2
     have hle5 := hf1 s2
     have s13 := hp 13 rfl
     have s15 := hp 15 rfl
     refine d_need (small := [(35, (.int .i64 c.act)), (37, (.int .i64 c.que))]) ⟨look_row rfl 13 rfl s13, look_row rfl 15 rfl s15, trivial⟩ ?_
     refine tc rfl (en_fn Tryz.call38 rfl) (anew_ok c.act c.que) ?_
     rintro _ _ ⟨p10, rfl, rfl⟩
     refine t_f9 ?_
     refine t_cF (nf (nf hS D (k := 20) (i := 16) rfl) D (k := 21) (i := 20) rfl) ?_
     refine t_wF (A := (Blk b12 [(.int .i64 c.bud), (.int .i64 c.slots), (.int .i64 c.act), (.int .i64 c.que), (.int .i64 c.tries), (.int .i64 c.pre), (.int .i64 c.tmo), (.int .i64 c.bak), (.int .i64 c.most), (.int .i64 c.qu), (.slice bs2 n cp3), (.slice none 0 0), (.slice none 0 0), (.pointer (some ⟨p6, 0, none⟩)), (.pointer (some ⟨p7, 0, none⟩)), (.pointer (some ⟨p9, 0, none⟩)), (.pointer (some ⟨p10, 0, none⟩)), (.pointer (some ⟨p11, 0, none⟩)), (.int .i64 0), (.int .i64 0), (.slice none 0 0)] 73)) (nf (nf hS D (k := 20) (i := 16) rfl) D (k := 21) (i := 20) rfl) ?_
     refine t_f9 (t_f9 (t_f9 (t_f9 (t_f9 (t_f9 (t_f9 (t_f9 (t_f9 ?_))))))))
     refine t_sat (fun _ h => sat_put [_, _, _, _, _, _] h) ?_
     exact d_closes ⟨look_row rfl 13 rfl s13, look_row rfl 15 rfl s15, trivial⟩ 16 rfl rfl rfl hS (by exact ⟨.inl rfl, .inl rfl, .inl rfl, .inl rfl, .inl rfl, .inl rfl, .inl rfl, .inl rfl, .inl rfl, .inl rfl, .inl rfl, .inl rfl, .inl rfl, .inl rfl, .inl rfl, .inl rfl, .inr ⟨rfl, rfl, hS⟩, .inl rfl, .inl rfl, .inl rfl, .inr ⟨rfl, rfl, (nf hS D (k := 20) (i := 16) rfl)⟩, .inl rfl, .inl rfl, trivial⟩) (t_sat (fun _ h => h) (hK (bs2, cp3, p6, p7, q8, p9, p10, p11, b12) ⟨hf0, hf1⟩))
   · rintro ⟨bs2, cp3, p6, p7, q8, p9, p10, p11, b12⟩ S hF hS D hp K hK; try dsimp only
     exact d_lv1 (look_b (t := 2) rfl rfl) (lv_fieldAddr (o' := 9) Tryz.underlying23 rfl Tryz.sizeOf3 rfl rfl) 17 rfl rfl hS (hK (bs2, cp3, p6, p7, q8, p9, p10, p11, b12) hF)
   · rintro ⟨bs2, cp3, p6, p7, q8, p9, p10, p11, b12⟩ S hF hS D hp K hK; try dsimp only
     exact d_lv1 (lkr hp 17 rfl rfl) (lv_load Tryz.isAgg3 rfl (gives_blk (.head _) rfl)) 18 rfl rfl hS (hK (bs2, cp3, p6, p7, q8, p9, p10, p11, b12) hF)
   · rintro ⟨bs2, cp3, p6, p7, q8, p9, p10, p11, b12⟩ S hF hS D hp K hK
     try dsimp only at hF ⊢
     obtain ⟨hf0, hf1⟩ := hF
     have s16 := hp 16 rfl
     have s11 := D 16 11 rfl s16
     have s6 := D 11 6 rfl s11
     have s4 := D 6 4 rfl s6
     have s2 := D 4 2 rfl s4
     have hok4 := hf0 s2
     have hle5 := hf1 s2
     have s18 := hp 18 rfl
     refine d_need (small := [(40, (.int .i64 c.qu))]) ⟨look_row rfl 18 rfl s18, trivial⟩ ?_
     refine tc rfl (en_fn Tryz.call39 rfl) (tunew_ok c.qu) ?_
     rintro _ _ ⟨p11, rfl, rfl⟩
     refine t_f9 ?_
     refine t_cF (nf (nf hS D (k := 20) (i := 19) rfl) D (k := 21) (i := 20) rfl) ?_
     refine t_wF (A := (Blk b12 [(.int .i64 c.bud), (.int .i64 c.slots), (.int .i64 c.act), (.int .i64 c.que), (.int .i64 c.tries), (.int .i64 c.pre), (.int .i64 c.tmo), (.int .i64 c.bak), (.int .i64 c.most), (.int .i64 c.qu), (.slice bs2 n cp3), (.slice none 0 0), (.slice none 0 0), (.pointer (some ⟨p6, 0, none⟩)), (.pointer (some ⟨p7, 0, none⟩)), (.pointer (some ⟨p9, 0, none⟩)), (.pointer (some ⟨p10, 0, none⟩)), (.pointer (some ⟨p11, 0, none⟩)), (.int .i64 0), (.int .i64 0), (.slice none 0 0)] 73)) (nf (nf hS D (k := 20) (i := 19) rfl) D (k := 21) (i := 20) rfl) ?_
     refine t_f9 (t_f9 (t_f9 (t_f9 (t_f9 (t_f9 (t_f9 (t_f9 (t_f9 ?_))))))))
     refine t_sat (fun _ h => sat_put [_, _, _, _, _, _, _] h) ?_
     exact d_closes ⟨look_row rfl 18 rfl s18, trivial⟩ 19 rfl rfl rfl hS (by exact ⟨.inl rfl, .inl rfl, .inl rfl, .inl rfl, .inl rfl, .inl rfl, .inl rfl, .inl rfl, .inl rfl, .inl rfl, .inl rfl, .inl rfl, .inl rfl, .inl rfl, .inl rfl, .inl rfl, .inl rfl, .inl rfl, .inl rfl, .inr ⟨rfl, rfl, hS⟩, .inr ⟨rfl, rfl, (nf hS D (k := 20) (i := 19) rfl)⟩, .inl rfl, .inl rfl, trivial⟩) (t_sat (fun _ h => h) (hK (bs2, cp3, p6, p7, q8, p9, p10, p11, b12) ⟨hf0, hf1⟩))
   · rintro ⟨bs2, cp3, p6, p7, q8, p9, p10, p11, b12⟩ S hF hS D hp K hK
     try dsimp only at hF ⊢
     obtain ⟨hf0, hf1⟩ := hF
     have s2 := hp 2 rfl
     have hok4 := hf0 s2
     have hle5 := hf1 s2
     have s0 := hp 0 rfl
     have s4 := hp 4 rfl
     have s6 := hp 6 rfl
     have s11 := hp 11 rfl
     have s16 := hp 16 rfl
     have s19 := hp 19 rfl
     refine d_need (small := [(22, (.agg #[(.int .i64 c.bud), (.int .i64 c.slots), (.int .i64 c.act), (.int .i64 c.que), (.int .i64 c.tries), (.int .i64 c.pre), (.int .i64 c.tmo), (.int .i64 c.bak), (.int .i64 c.most), (.int .i64 c.qu)])), (24, (.slice bs2 n cp3)), (26, (vP p6 0)), (28, (vP p7 0)), (33, (vP p9 0)), (38, (vP p10 0)), (41, (vP p11 0))]) ⟨look_row rfl 0 rfl s0, look_row rfl 2 rfl s2, look_row rfl 4 rfl s4, look_row rfl 6 rfl s6, look_row rfl 11 rfl s11, look_row rfl 16 rfl s16, look_row rfl 19 rfl s19, trivial⟩ ?_
     refine tp rfl (lv_build (cs := [(.int .i64 c.bud), (.int .i64 c.slots), (.int .i64 c.act), (.int .i64 c.que), (.int .i64 c.tries), (.int .i64 c.pre), (.int .i64 c.tmo), (.int .i64 c.bak), (.int .i64 c.most), (.int .i64 c.qu), (.slice bs2 n cp3), (.slice none 0 0), (.slice none 0 0), (.pointer (some ⟨p6, 0, none⟩)), (.pointer (some ⟨p7, 0, none⟩)), (.pointer (some ⟨p9, 0, none⟩)), (.pointer (some ⟨p10, 0, none⟩)), (.pointer (some ⟨p11, 0, none⟩)), (.int .i64 0), (.int .i64 0), (.slice none 0 0)]) (pl := [(0, 10), (10, 1), (11, 1), (12, 1), (13, 1), (14, 1), (15, 1), (16, 1), (17, 1), (18, 1), (19, 1), (20, 1)]) Tryz.underlying73 Tryz.zeroValue73 (fun _ => by simp) rfl rfl) ?_
     exact d_closes ⟨look_row rfl 0 rfl s0, look_row rfl 2 rfl s2, look_row rfl 4 rfl s4, look_row rfl 6 rfl s6, look_row rfl 11 rfl s11, look_row rfl 16 rfl s16, look_row rfl 19 rfl s19, trivial⟩ 20 rfl rfl rfl hS (AgreeR.refl _) (t_sat (fun _ h => h) (hK (bs2, cp3, p6, p7, q8, p9, p10, p11, b12) ⟨hf0, hf1⟩))
   · rintro ⟨bs2, cp3, p6, p7, q8, p9, p10, p11, b12⟩ S hF hS D hp K hK
     try dsimp only at hF ⊢
     obtain ⟨hf0, hf1⟩ := hF
     have s20 := hp 20 rfl
     have s2 := D 20 2 rfl s20
     have hok4 := hf0 s2
     have hle5 := hf1 s2
     refine d_need (small := [(42, (.agg #[(.int .i64 c.bud), (.int .i64 c.slots), (.int .i64 c.act), (.int .i64 c.que), (.int .i64 c.tries), (.int .i64 c.pre), (.int .i64 c.tmo), (.int .i64 c.bak), (.int .i64 c.most), (.int .i64 c.qu), (.slice bs2 n cp3), (.slice none 0 0), (.slice none 0 0), (vP p6 0), (vP p7 0), (vP p9 0), (vP p10 0), (vP p11 0), (.int .i64 0), (.int .i64 0), (.slice none 0 0)]))]) ⟨look_row rfl 20 rfl s20, trivial⟩ ?_
     refine tm rfl (mv_box rfl rfl) ?_
     rintro _ _ ⟨b12, rfl, rfl⟩
     refine t_sat (fun _ h => sat_put [_, _, _, _, _, _, _, _] h) ?_
     exact d_closes ⟨look_row rfl 20 rfl s20, trivial⟩ 21 rfl rfl rfl hS (by exact ⟨.inl rfl, .inl rfl, .inl rfl, .inl rfl, .inl rfl, .inl rfl, .inl rfl, .inl rfl, .inl rfl, .inl rfl, .inl rfl, .inl rfl, .inl rfl, .inl rfl, .inl rfl, .inl rfl, .inl rfl, .inl rfl, .inl rfl, .inl rfl, .inl rfl, .inr ⟨rfl, rfl, hS⟩, .inr ⟨rfl, rfl, (nf hS D (k := 22) (i := 21) rfl)⟩, trivial⟩) (t_sat (fun _ h => h) (hK (bs2, cp3, p6, p7, q8, p9, p10, p11, b12) ⟨hf0, hf1⟩))
   · rintro ⟨bs2, cp3, p6, p7, q8, p9, p10, p11, b12⟩ S hF hS D hp K hK; try dsimp only
     exact d_lv1 (lkr hp 21 rfl rfl) (lv_assign rfl) 22 rfl rfl hS (hK (bs2, cp3, p6, p7, q8, p9, p10, p11, b12) hF)
 · rintro ⟨bs2, cp3, p6, p7, q8, p9, p10, p11, b12⟩ hF
   try dsimp only at hF ⊢
   obtain ⟨hf0, hf1⟩ := hF
   have hok4 := hf0 rfl
   have hle5 := hf1 rfl
   refine t_weak (E' := [(0, (.agg #[(.int .i64 c.bud), (.int .i64 c.slots), (.int .i64 c.act), (.int .i64 c.que), (.int .i64 c.tries), (.int .i64 c.pre), (.int .i64 c.tmo), (.int .i64 c.bak), (.int .i64 c.most), (.int .i64 c.qu)])), (1, (.slice bb n cb)), (2, (vP b1 0)), (4, (.pointer none)), (5, (.int .i64 0)), (6, (.int .i64 0)), (7, (vN n)), (8, (vP b12 0)), (15, (.bool false)), (19, (.bool false))]) ⟨rfl, rfl, rfl, rfl, rfl, rfl, rfl, rfl, rfl, rfl, trivial⟩ ?_
   refine q_then_n (hK8 _ _ (c_seq (fun K9 hK9 => c_seq (fun K10 hK10 => c_region ?_))))
   have hcl : clampN ((n : Nat) : Int) = n := by unfold clampN; omega
   rw [hcl]
   refine tp rfl (lv_move rfl) (tp rfl (lv_len Tryz.underlying24 rfl rfl) (tp rfl (lv_move rfl) (t_done (q_then_n (hK10 _ _ (c_block ?_))))))
   refine t_sat (fun _ h => sat_nilsl 64 1 h) ?_
   refine t_noB (κ := Nat × Nat) TTk Prod.fst tkC ?_
   refine t_noB (κ := Nat × Nat) TLf Prod.snd (fun _ => lfC) ?_
   refine c_loop (γ := (Nat) × (List (Nat × Nat)) × (Option Addr) × (Nat)) (fun (k, ks, bt, ct) => k ≤ n ∧ ks.length = k ∧ SlOk bt k ∧ k ≤ ct) (fun (k, ks, bt, ct) => [(0, (.agg #[(.int .i64 c.bud), (.int .i64 c.slots), (.int .i64 c.act), (.int .i64 c.que), (.int .i64 c.tries), (.int .i64 c.pre), (.int .i64 c.tmo), (.int .i64 c.bak), (.int .i64 c.most), (.int .i64 c.qu)])), (1, (.slice bb n cb)), (2, (vP b1 0)), (6, (.int .i64 0)), (7, (vN n)), (8, (vP b12 0)), (15, (.bool false)), (19, (.bool false)), (44, (.slice bb n cb)), (45, (vN n)), (46, (vN k))]) (fun (k, ks, bt, ct) => (Join (blks TLf Prod.snd (fun _ => lfC) ks (List.replicate k (newLf c)))) :: (Join (blks TTk Prod.fst tkC ks ((al.map newTk).take k))) :: (SlV 64 1 (.slice bt k ct) k (recs ptrF (ks.map Prod.fst))) :: (Blk b1 [(.int .i64 c.bud), (.int .i64 c.slots), (.int .i64 c.act), (.int .i64 c.que), (.int .i64 c.tries), (.int .i64 c.pre), (.int .i64 c.tmo), (.int .i64 c.bak), (.int .i64 c.most), (.int .i64 c.qu)] 23) :: (SlV 57 2 (.slice bs2 n cp3) n (pairs al)) :: (GraphO p6 n []) :: (Blk p7 [(vP q8 0)] 132) :: (HeapO q8 (hclamp ((n : Nat) : Int)) (List.replicate (hclamp ((n : Nat) : Int)) none)) :: (LedO p9 ⟨max c.bud 0, (min (max c.slots 0) 16).toNat, List.replicate 16 Pl.z, 0⟩) :: (AdmO p10 (max c.act 1) (max c.que 0) ⟨[], []⟩) :: (TurnsO p11 (qOf c.qu) [] 0) :: (Blk b12 [(.int .i64 c.bud), (.int .i64 c.slots), (.int .i64 c.act), (.int .i64 c.que), (.int .i64 c.tries), (.int .i64 c.pre), (.int .i64 c.tmo), (.int .i64 c.bak), (.int .i64 c.most), (.int .i64 c.qu), (.slice bs2 n cp3), (.slice bt k ct), (.slice none 0 0), (vP p6 0), (vP p7 0), (vP p9 0), (vP p10 0), (vP p11 0), (.int .i64 0), (.int .i64 0), (.slice none 0 0)] 73) :: R) (fun (k, ks, bt, ct) => n - k) (0, [], none, 0) ⟨Nat.zero_le _, rfl, slok_none, Nat.le_refl _⟩ ⟨rfl, rfl, rfl, rfl, rfl, rfl, rfl, rfl, rfl, rfl, rfl, trivial⟩ (fun _ h => h) ?_
   rintro ⟨k, ks, bt, ct⟩ K11 hF hK11
   try dsimp only at hF hK11 ⊢
   obtain ⟨hk, hkl, hok, hle⟩ := hF
   refine c_seq (fun K12 hK12 => c_region ?_)
   by_cases h13 : ((k : Nat) : Int) < ((n : Nat) : Int)
   · refine tp rfl (lv_lss rfl rfl (decide_eq_true h13)) (t_done (q_then_n (hK12 _ _ (c_seq (fun K13 hK13 => c_true rfl (c_skip (q_then_n (hK13 _ _ (c_seq (fun K14 hK14 => c_block (c_seq (fun K15 hK15 => ?_))))))))))))
     refine c_region (tp rfl (lv_indexAddr (k' := k * 2) Tryz.underlying24 Tryz.sizeOf57 rfl rfl okb (by omega) (by omega) (by omega)) ?_)
     refine tp rfl (lv_loadAgg_ad (cs := [(.int .i64 (((al).getD k (0, 0)).1)), (.int .i64 (((al).getD k (0, 0)).2))]) Tryz.isAgg57 Tryz.sizeOf57 rfl (gives_all2 (Rd.gives (Rd.cons (Rd.cons (Rd.cons (Rd.cons (Rd.cons (Rd.cons (Rd.cons (Rd.cons (Rd.cons (Rd.cons (Rd.cons (Rd.cons hb)))))))))))) (pairs_get0 (by omega))) (Rd.gives (Rd.cons (Rd.cons (Rd.cons (Rd.cons (Rd.cons (Rd.cons (Rd.cons (Rd.cons (Rd.cons (Rd.cons (Rd.cons (Rd.cons hb)))))))))))) (pairs_get1 (by omega))))) ?_
     refine tm rfl (mv_alloc Tryz.zeroValue57 rfl) ?_
     rintro _ _ ⟨b14, rfl, rfl⟩
     refine ts (sv_blkAgg (news := [(.int .i64 (((al).getD k (0, 0)).1)), (.int .i64 (((al).getD k (0, 0)).2))]) Tryz.sizeOf57 rfl rfl rfl rfl (Nat.le_of_ble_eq_true rfl) rfl) ?_
     refine t_done (q_then_n (hK15 _ _ (c_seq (fun K16 hK16 => c_seq (fun K17 hK17 => c_region ?_)))))
     have hal1 := hal k (by omega)
     refine tp rfl (lv_loadAgg (cs := [(.int .i64 (((al).getD k (0, 0)).1)), (.int .i64 (((al).getD k (0, 0)).2))]) Tryz.isAgg57 Tryz.sizeOf57 rfl (gives_all2 (gives_blk (.head _) rfl) (gives_blk (.head _) rfl))) ?_
     refine tc rfl (en_fn Tryz.call40 rfl) (ctask_ok hal1) ?_
     rintro _ _ ⟨rfl, rfl⟩
     refine tp rfl (lv_assign rfl) (t_done (q_then_n (hK17 _ _ (c_seq (fun K18 hK18 => c_region (tp rfl (lv_move rfl) (tp rfl (lv_neq (r := false) rfl rfl (by decide)) ?_)))))))
     refine t_done (q_then_n (hK18 _ _ (c_false rfl (c_skip (q_then_n (hK16 _ _ ?_))))))
     refine c_draw (γ := Nat × Nat × Option Addr × Nat × Option Addr × Nat) (n := 18) Tryz.mixed rfl rfl (fun (p15, b16, bs17, cp18, bs21, cp22) S => (S 13 = true → SlOk bs17 1) ∧ (S 13 = true → 1 ≤ cp18) ∧ (S 14 = true → SlOk bs21 (k + 1)) ∧ (S 14 = true → k + 1 ≤ cp22)) (fun (p15, b16, bs17, cp18, bs21, cp22) => [(0, 55, (vP b12 0)), (1, 56, (vP b12 0)), (2, 57, (vP b12 0)), (3, 58, (vP b12 11)), (4, 59, (.slice bt k ct)), (5, 60, (.agg #[(.int .i64 (((al).getD k (0, 0)).1)), (.int .i64 (((al).getD k (0, 0)).2))])), (6, 61, (vP b1 4)), (7, 62, (.int .i64 c.tries)), (8, 63, (vP b1 5)), (9, 64, (.int .i64 c.pre)), (10, 65, (vP p15 0)), (11, 66, (.agg #[(.int .i64 (((al).getD k (0, 0)).1)), (.int .i64 (((al).getD k (0, 0)).2)), (vP p15 0), (.int .i64 (-1)), (.int .i64 0), (.slice none 0 0)])), (12, 67, (vP b16 0)), (13, 68, (.slice bs17 1 cp18)), (14, 69, (.slice bs21 (k + 1) cp22)), (15, 70, (vP b12 0)), (16, 71, (vP b12 11))]) (fun (p15, b16, bs17, cp18, bs21, cp22) S => (Blk b14 [(.int .i64 (((al).getD k (0, 0)).1)), (.int .i64 (((al).getD k (0, 0)).2))] 57) :: (Join (blks TLf Prod.snd (fun _ => lfC) ks (List.replicate k (newLf c)))) :: (Join (blks TTk Prod.fst tkC ks ((al.map newTk).take k))) :: (bif S 14 then (SlV 64 1 (.slice bs21 (k + 1) cp22) (k + 1) (recs ptrF ((ks.map Prod.fst) ++ [b16]))) else (SlV 64 1 (.slice bt k ct) k (recs ptrF (ks.map Prod.fst)))) :: (Blk b1 [(.int .i64 c.bud), (.int .i64 c.slots), (.int .i64 c.act), (.int .i64 c.que), (.int .i64 c.tries), (.int .i64 c.pre), (.int .i64 c.tmo), (.int .i64 c.bak), (.int .i64 c.most), (.int .i64 c.qu)] 23) :: (SlV 57 2 (.slice bs2 n cp3) n (pairs al)) :: (GraphO p6 n []) :: (Blk p7 [(vP q8 0)] 132) :: (HeapO q8 (hclamp ((n : Nat) : Int)) (List.replicate (hclamp ((n : Nat) : Int)) none)) :: (LedO p9 ⟨max c.bud 0, (min (max c.slots 0) 16).toNat, List.replicate 16 Pl.z, 0⟩) :: (AdmO p10 (max c.act 1) (max c.que 0) ⟨[], []⟩) :: (TurnsO p11 (qOf c.qu) [] 0) :: (bif S 17 then (Blk b12 [(.int .i64 c.bud), (.int .i64 c.slots), (.int .i64 c.act), (.int .i64 c.que), (.int .i64 c.tries), (.int .i64 c.pre), (.int .i64 c.tmo), (.int .i64 c.bak), (.int .i64 c.most), (.int .i64 c.qu), (.slice bs2 n cp3), (.slice bs21 (k + 1) cp22), (.slice none 0 0), (vP p6 0), (vP p7 0), (vP p9 0), (vP p10 0), (vP p11 0), (.int .i64 0), (.int .i64 0), (.slice none 0 0)] 73) else (Blk b12 [(.int .i64 c.bud), (.int .i64 c.slots), (.int .i64 c.act), (.int .i64 c.que), (.int .i64 c.tries), (.int .i64 c.pre), (.int .i64 c.tmo), (.int .i64 c.bak), (.int .i64 c.most), (.int .i64 c.qu), (.slice bs2 n cp3), (.slice bt k ct), (.slice none 0 0), (vP p6 0), (vP p7 0), (vP p9 0), (vP p10 0), (vP p11 0), (.int .i64 0), (.int .i64 0), (.slice none 0 0)] 73)) :: (bif S 10 then (Blk p15 [(.int .i64 0), (.int .i64 0), (.int .i64 0), (.int .i64 0), (.int .i64 (max c.tries 1)), (.int .i64 (max c.pre 0))] 92) else Emp) :: (bif S 12 then (Blk b16 [(.int .i64 (((al).getD k (0, 0)).1)), (.int .i64 (((al).getD k (0, 0)).2)), (vP p15 0), (.int .i64 (-1)), (.int .i64 0), (.slice none 0 0)] 76) else Emp) :: (bif S 13 then (SlV 64 1 (.slice bs17 1 cp18) 1 [(vP b16 0)]) else Emp) :: R) (0, 0, none, 0, none, 0) (by simp [Nat.ble]) (fun _ h => sat_emps [_, _, _, _, _, _, _, _, _, _, _, _, _] 3 h) (fun _ _ h => h) ?_ ?_
     · refine ⟨?_, ?_, ?_, ?_, ?_, ?_, ?_, ?_, ?_, ?_, ?_, ?_, ?_, ?_, ?_, ?_, ?_, ?_, trivial⟩
       · rintro ⟨p15, b16, bs17, cp18, bs21, cp22⟩ S hF hS D hp K hK; try dsimp only
         exact d_lv1 (look_b (t := 8) rfl rfl) (lv_move rfl) 0 rfl rfl hS (hK (p15, b16, bs17, cp18, bs21, cp22) hF)
       · rintro ⟨p15, b16, bs17, cp18, bs21, cp22⟩ S hF hS D hp K hK; try dsimp only
         exact d_lv1 (look_b (t := 8) rfl rfl) (lv_move rfl) 1 rfl rfl hS (hK (p15, b16, bs17, cp18, bs21, cp22) hF)
       · rintro ⟨p15, b16, bs17, cp18, bs21, cp22⟩ S hF hS D hp K hK; try dsimp only
         exact d_lv1 (lkr hp 1 rfl rfl) (lv_nilCheck rfl) 2 rfl rfl hS (hK (p15, b16, bs17, cp18, bs21, cp22) hF)
       · rintro ⟨p15, b16, bs17, cp18, bs21, cp22⟩ S hF hS D hp K hK; try dsimp only
         exact d_lv1 (lkr hp 2 rfl rfl) (lv_fieldAddr (o' := 11) Tryz.underlying73 rfl Tryz.sizeOf65 rfl rfl) 3 rfl rfl hS (hK (p15, b16, bs17, cp18, bs21, cp22) hF)
       · rintro ⟨p15, b16, bs17, cp18, bs21, cp22⟩ S hF hS D hp K hK; try dsimp only
         exact d_lv1 (lkr hp 3 rfl rfl) (lv_load Tryz.isAgg65 rfl (gives_blk (mem_cF (nf hS D (k := 17) (i := 4) rfl) (.tail _ (.tail _ (.tail _ (.tail _ (.tail _ (.tail _ (.tail _ (.tail _ (.tail _ (.tail _ (.tail _ (.tail _ (.head _)))))))))))))) rfl)) 4 rfl rfl hS (hK (p15, b16, bs17, cp18, bs21, cp22) hF)
       · rintro ⟨p15, b16, bs17, cp18, bs21, cp22⟩ S hF hS D hp K hK; try dsimp only
         exact d_lv1 (look_b (t := 10) rfl rfl) (lv_loadAgg (cs := [(.int .i64 (((al).getD k (0, 0)).1)), (.int .i64 (((al).getD k (0, 0)).2))]) Tryz.isAgg57 Tryz.sizeOf57 rfl (gives_all2 (gives_blk (.head _) rfl) (gives_blk (.head _) rfl))) 5 rfl rfl hS (hK (p15, b16, bs17, cp18, bs21, cp22) hF)
       · rintro ⟨p15, b16, bs17, cp18, bs21, cp22⟩ S hF hS D hp K hK; try dsimp only
         exact d_lv1 (look_b (t := 2) rfl rfl) (lv_fieldAddr (o' := 4) Tryz.underlying23 rfl Tryz.sizeOf3 rfl rfl) 6 rfl rfl hS (hK (p15, b16, bs17, cp18, bs21, cp22) hF)
       · rintro ⟨p15, b16, bs17, cp18, bs21, cp22⟩ S hF hS D hp K hK; try dsimp only
         exact d_lv1 (lkr hp 6 rfl rfl) (lv_load Tryz.isAgg3 rfl (gives_blk (.tail _ (.tail _ (.tail _ (.tail _ (.head _))))) rfl)) 7 rfl rfl hS (hK (p15, b16, bs17, cp18, bs21, cp22) hF)
       · rintro ⟨p15, b16, bs17, cp18, bs21, cp22⟩ S hF hS D hp K hK; try dsimp only
         exact d_lv1 (look_b (t := 2) rfl rfl) (lv_fieldAddr (o' := 5) Tryz.underlying23 rfl Tryz.sizeOf3 rfl rfl) 8 rfl rfl hS (hK (p15, b16, bs17, cp18, bs21, cp22) hF)
       · rintro ⟨p15, b16, bs17, cp18, bs21, cp22⟩ S hF hS D hp K hK; try dsimp only
         exact d_lv1 (lkr hp 8 rfl rfl) (lv_load Tryz.isAgg3 rfl (gives_blk (.tail _ (.tail _ (.tail _ (.tail _ (.head _))))) rfl)) 9 rfl rfl hS (hK (p15, b16, bs17, cp18, bs21, cp22) hF)
       · rintro ⟨p15, b16, bs17, cp18, bs21, cp22⟩ S hF hS D hp K hK
         try dsimp only at hF ⊢
         obtain ⟨hf0, hf1, hf2, hf3⟩ := hF
         have s7 := hp 7 rfl
         have s9 := hp 9 rfl
         refine d_need (small := [(62, (.int .i64 c.tries)), (64, (.int .i64 c.pre))]) ⟨look_row rfl 7 rfl s7, look_row rfl 9 rfl s9, trivial⟩ ?_
         refine tc rfl (en_fn Tryz.call41 rfl) (lNew_ok c.tries c.pre) ?_
         rintro _ _ ⟨p15, rfl, rfl⟩
         refine t_f15 ?_
         refine t_cF (nf (nf hS D (k := 11) (i := 10) rfl) D (k := 12) (i := 11) rfl) ?_
         refine t_wF (A := (Blk b16 [(.int .i64 (((al).getD k (0, 0)).1)), (.int .i64 (((al).getD k (0, 0)).2)), (.pointer (some ⟨p15, 0, none⟩)), (.int .i64 (-1)), (.int .i64 0), (.slice none 0 0)] 76)) (nf (nf hS D (k := 11) (i := 10) rfl) D (k := 12) (i := 11) rfl) ?_
         refine t_f15 (t_f15 (t_f15 (t_f15 (t_f15 (t_f15 (t_f15 (t_f15 (t_f15 (t_f15 ?_)))))))))
         refine t_f15 (t_f15 (t_f15 (t_f15 (t_f15 ?_))))
         refine t_sat (fun _ h => sat_put [_, _, _, _, _, _, _, _, _, _, _, _, _] h) ?_
         exact d_closes ⟨look_row rfl 7 rfl s7, look_row rfl 9 rfl s9, trivial⟩ 10 rfl rfl rfl hS (by exact ⟨.inl rfl, .inl rfl, .inl rfl, .inl rfl, .inl rfl, .inl rfl, .inl rfl, .inl rfl, .inl rfl, .inl rfl, .inr ⟨rfl, rfl, hS⟩, .inr ⟨rfl, rfl, (nf hS D (k := 11) (i := 10) rfl)⟩, .inl rfl, .inl rfl, .inl rfl, .inl rfl, .inl rfl, trivial⟩) (t_sat (fun _ h => h) (hK (p15, b16, bs17, cp18, bs21, cp22) ⟨hf0, hf1, hf2, hf3⟩))
       · rintro ⟨p15, b16, bs17, cp18, bs21, cp22⟩ S hF hS D hp K hK; try dsimp only
         exact d_lv2 (lkr hp 5 rfl rfl) (lkr hp 10 rfl rfl) (lv_build (cs := [(.int .i64 (((al).getD k (0, 0)).1)), (.int .i64 (((al).getD k (0, 0)).2)), (.pointer (some ⟨p15, 0, none⟩)), (.int .i64 (-1)), (.int .i64 0), (.slice none 0 0)]) (pl := [(0, 2), (2, 1), (3, 1), (4, 1), (5, 1)]) Tryz.underlying76 Tryz.zeroValue76 (fun _ => by simp) rfl rfl) 11 rfl rfl hS (hK (p15, b16, bs17, cp18, bs21, cp22) hF)
       · rintro ⟨p15, b16, bs17, cp18, bs21, cp22⟩ S hF hS D hp K hK
         try dsimp only at hF ⊢
         obtain ⟨hf0, hf1, hf2, hf3⟩ := hF
         have s11 := hp 11 rfl
         refine d_need (small := [(66, (.agg #[(.int .i64 (((al).getD k (0, 0)).1)), (.int .i64 (((al).getD k (0, 0)).2)), (vP p15 0), (.int .i64 (-1)), (.int .i64 0), (.slice none 0 0)]))]) ⟨look_row rfl 11 rfl s11, trivial⟩ ?_
         refine t_f3 ?_
         refine t_cF (nf (nf hS D (k := 13) (i := 12) rfl) D (k := 14) (i := 13) rfl) ?_
         refine tm rfl (mv_box rfl rfl) ?_
         rintro _ _ ⟨b16, rfl, rfl⟩
         refine t_f1 ?_
         refine t_wF (A := (SlV 64 1 (.slice bs21 (k + 1) cp22) (k + 1) (recs ptrF ((ks.map Prod.fst) ++ [b16])))) (nf (nf hS D (k := 13) (i := 12) rfl) D (k := 14) (i := 13) rfl) ?_
         refine t_f16 ?_
         refine t_cF (nf hS D (k := 13) (i := 12) rfl) ?_
         refine t_wF (A := (SlV 64 1 (.slice bs17 1 cp18) 1 [(.pointer (some ⟨b16, 0, none⟩))])) (nf hS D (k := 13) (i := 12) rfl) ?_
         refine t_f16 (t_f16 (t_f16 (t_f16 (t_f16 (t_f16 (t_f16 (t_f16 (t_f16 (t_f16 ?_)))))))))
         refine t_f16 (t_f12 (t_f16 (t_f16 (t_f16 (t_f16 ?_)))))
         refine t_sat (fun _ h => sat_put [_, _, _, _, _, _, _, _, _, _, _, _, _, _] h) ?_
         exact d_closes ⟨look_row rfl 11 rfl s11, trivial⟩ 12 rfl rfl rfl hS (by exact ⟨.inl rfl, .inl rfl, .inl rfl, .inl rfl, .inl rfl, .inl rfl, .inl rfl, .inl rfl, .inl rfl, .inl rfl, .inl rfl, .inl rfl, .inr ⟨rfl, rfl, hS⟩, .inl rfl, .inl rfl, .inl rfl, .inl rfl, trivial⟩) (t_sat (fun _ h => h) (hK (p15, b16, bs17, cp18, bs21, cp22) ⟨hf0, hf1, hf2, hf3⟩))
       · rintro ⟨p15, b16, bs17, cp18, bs21, cp22⟩ S hF hS D hp K hK
         try dsimp only at hF ⊢
         obtain ⟨hf0, hf1, hf2, hf3⟩ := hF
         have s12 := hp 12 rfl
         refine d_need (small := [(67, (vP b16 0))]) ⟨look_row rfl 12 rfl s12, trivial⟩ ?_
         refine tm rfl (mv_buildSlice (cs := [(.pointer (some ⟨b16, 0, none⟩))]) Tryz.underlying65 Tryz.sizeOf64 Tryz.zeroValue64 (by decide) rfl rfl rfl rfl) ?_
         rintro _ _ ⟨bs17, cp18, hok19, hle20, rfl, rfl⟩
         refine t_sat (fun _ h => sat_put [_, _, _, _, _, _, _, _, _, _, _, _, _, _, _] h) ?_
         exact d_closes ⟨look_row rfl 12 rfl s12, trivial⟩ 13 rfl rfl rfl hS (by exact ⟨.inl rfl, .inl rfl, .inl rfl, .inl rfl, .inl rfl, .inl rfl, .inl rfl, .inl rfl, .inl rfl, .inl rfl, .inl rfl, .inl rfl, .inl rfl, .inr ⟨rfl, rfl, hS⟩, .inl rfl, .inl rfl, .inl rfl, trivial⟩) (t_sat (fun _ h => h) (hK (p15, b16, bs17, cp18, bs21, cp22) ⟨(fun _ => hok19), (fun _ => hle20), hf2, hf3⟩))
       · rintro ⟨p15, b16, bs17, cp18, bs21, cp22⟩ S hF hS D hp K hK
         try dsimp only at hF ⊢
         obtain ⟨hf0, hf1, hf2, hf3⟩ := hF
         have s13 := hp 13 rfl
         have hok19 := hf0 s13
         have hle20 := hf1 s13
         have s4 := hp 4 rfl
         refine d_need (small := [(59, (.slice bt k ct)), (68, (.slice bs17 1 cp18))]) ⟨look_row rfl 4 rfl s4, look_row rfl 13 rfl s13, trivial⟩ ?_
         refine t_f3 ?_
         refine t_cF hS ?_
         refine t_f12 ?_
         refine t_cF (nf hS D (k := 17) (i := 14) rfl) ?_
         refine t_f13 ?_
         have s10 := hp 10 rfl
         refine t_cT s10 ?_
         refine t_f14 ?_
         have s12 := D 13 12 rfl s13
         refine t_cT s12 ?_
         refine t_f15 ?_
         refine t_cT s13 ?_
         refine t_f4 ?_
         refine tm rfl (mv_append (i := Tryz.t64) Tryz.underlying65 Tryz.type64 rfl rfl rfl (by decide) rfl rfl hok19 (by first | (simp; done) | (simp; omega)) (rd_sl (.tail _ (.head _))) (by simp [Value.oneCell']) (by rw [show Tryz.t64.bytes = 8 from rfl]; omega)) ?_
         rintro _ _ ⟨bs21, cp22, hok23, hle24, rfl, rfl⟩
         rw [show recs ptrF (ks.map Prod.fst) ++ [(.pointer (some ⟨b16, 0, none⟩))] = recs ptrF ((ks.map Prod.fst) ++ [b16]) from recs_snoc ptrF (ks.map Prod.fst) b16]
         refine t_f4 ?_
         refine t_wF (A := (Blk b12 [(.int .i64 c.bud), (.int .i64 c.slots), (.int .i64 c.act), (.int .i64 c.que), (.int .i64 c.tries), (.int .i64 c.pre), (.int .i64 c.tmo), (.int .i64 c.bak), (.int .i64 c.most), (.int .i64 c.qu), (.slice bs2 n cp3), (.slice bs21 (k + 1) cp22), (.slice none 0 0), (.pointer (some ⟨p6, 0, none⟩)), (.pointer (some ⟨p7, 0, none⟩)), (.pointer (some ⟨p9, 0, none⟩)), (.pointer (some ⟨p10, 0, none⟩)), (.pointer (some ⟨p11, 0, none⟩)), (.int .i64 0), (.int .i64 0), (.slice none 0 0)] 73)) (nf hS D (k := 17) (i := 14) rfl) ?_
         refine t_f4 ?_
         refine t_wT (B := Emp) s10 ?_
         refine t_f4 ?_
         refine t_wT (B := Emp) s12 ?_
         refine t_f4 ?_
         refine t_wT (B := Emp) s13 ?_
         refine t_f1 (t_f2 (t_f3 (t_f15 (t_f15 (t_f15 (t_f15 (t_f15 (t_f15 (t_f15 ?_)))))))))
         refine t_f15 (t_f12 (t_f15 (t_f15 (t_f15 ?_))))
         exact d_closes ⟨look_row rfl 4 rfl s4, look_row rfl 13 rfl s13, trivial⟩ 14 rfl rfl rfl hS (by exact ⟨.inl rfl, .inl rfl, .inl rfl, .inl rfl, .inl rfl, .inl rfl, .inl rfl, .inl rfl, .inl rfl, .inl rfl, .inl rfl, .inl rfl, .inl rfl, .inl rfl, .inr ⟨rfl, rfl, hS⟩, .inl rfl, .inl rfl, trivial⟩) (t_sat (fun _ h => h) (hK (p15, b16, bs17, cp18, bs21, cp22) ⟨hf0, hf1, (fun _ => hok23), (fun _ => hle24)⟩))
       · rintro ⟨p15, b16, bs17, cp18, bs21, cp22⟩ S hF hS D hp K hK; try dsimp only
         exact d_lv1 (lkr hp 0 rfl rfl) (lv_nilCheck rfl) 15 rfl rfl hS (hK (p15, b16, bs17, cp18, bs21, cp22) hF)
       · rintro ⟨p15, b16, bs17, cp18, bs21, cp22⟩ S hF hS D hp K hK; try dsimp only
         exact d_lv1 (lkr hp 15 rfl rfl) (lv_fieldAddr (o' := 11) Tryz.underlying73 rfl Tryz.sizeOf65 rfl rfl) 16 rfl rfl hS (hK (p15, b16, bs17, cp18, bs21, cp22) hF)
       · rintro ⟨p15, b16, bs17, cp18, bs21, cp22⟩ S hF hS D hp K hK
         try dsimp only at hF ⊢
         obtain ⟨hf0, hf1, hf2, hf3⟩ := hF
         have s13 := hp 13 rfl
         have hok19 := hf0 s13
         have hle20 := hf1 s13
         have s14 := hp 14 rfl
         have hok23 := hf2 s14
         have hle24 := hf3 s14
         have s16 := hp 16 rfl
         refine d_need (small := [(69, (.slice bs21 (k + 1) cp22)), (71, (vP b12 11))]) ⟨look_row rfl 14 rfl s14, look_row rfl 16 rfl s16, trivial⟩ ?_
         refine t_f12 ?_
         refine t_cF hS ?_
         refine ts (sv_blk Tryz.sizeOf65 rfl rfl rfl (Nat.le_of_ble_eq_true rfl) rfl) ?_
         refine t_f12 (t_f12 (t_f12 (t_f12 (t_f12 (t_f12 (t_f12 (t_f12 (t_f12 (t_f12 ?_)))))))))
         refine t_f12 (t_f12 ?_)
         exact d_closes0 ⟨look_row rfl 14 rfl s14, look_row rfl 16 rfl s16, trivial⟩ rfl (t_sat (fun _ h => h) (hK (p15, b16, bs17, cp18, bs21, cp22) ⟨hf0, hf1, hf2, hf3⟩))
     · rintro ⟨p15, b16, bs17, cp18, bs21, cp22⟩ hF
       try dsimp only at hF ⊢
       obtain ⟨hf0, hf1, hf2, hf3⟩ := hF
       have hok19 := hf0 rfl
       have hle20 := hf1 rfl
       have hok23 := hf2 rfl
       have hle24 := hf3 rfl
       refine t_weak (E' := [(0, (.agg #[(.int .i64 c.bud), (.int .i64 c.slots), (.int .i64 c.act), (.int .i64 c.que), (.int .i64 c.tries), (.int .i64 c.pre), (.int .i64 c.tmo), (.int .i64 c.bak), (.int .i64 c.most), (.int .i64 c.qu)])), (1, (.slice bb n cb)), (2, (vP b1 0)), (6, (.int .i64 0)), (7, (vN n)), (8, (vP b12 0)), (10, (vP b14 0)), (11, (.int .i64 0)), (15, (.bool false)), (19, (.bool false)), (44, (.slice bb n cb)), (45, (vN n)), (46, (vN k)), (47, (.bool true)), (53, (.bool false))]) ⟨rfl, rfl, rfl, rfl, rfl, rfl, rfl, rfl, rfl, rfl, rfl, rfl, rfl, rfl, rfl, trivial⟩ ?_
       refine q_in_n (q_then_n (hK14 _ _ (c_region (tp rfl (lv_add (c := ((k + 1 : Nat) : Int)) rfl rfl (wr_i64_succ (by omega))) ?_))))
       refine tp rfl (lv_move rfl) (t_done (q_then_n (t_f2 (t_f14 ?_))))
       refine t_addB (pk := Prod.fst) (F := tkC) (b16, p15) (newTk (al.getD k (0, 0))) (by rw [hkl, List.length_take, List.length_map]; omega) rfl rfl ?_
       rw [newTk_snoc (by omega)]
       refine t_f2 (t_f13 ?_)
       refine t_addB (pk := Prod.snd) (F := fun _ => lfC) (b16, p15) (newLf c) (by rw [hkl, List.length_replicate]) rfl rfl ?_
       rw [newLf_snoc]
       rw [show ks.map Prod.fst ++ [b16] = (ks ++ [(b16, p15)]).map Prod.fst from by simp]
       refine t_f2 (t_drop (t_f12 (t_drop ?_)))
       exact t_weak (by exact ⟨rfl, rfl, rfl, rfl, rfl, rfl, rfl, rfl, rfl, rfl, rfl, trivial⟩) ((hK11 (k + 1, ks ++ [(b16, p15)], bs21, cp22) ⟨by omega, by rw [List.length_append, hkl]; rfl, hok23, hle24⟩ (by dsimp only; omega)))
   · refine tp rfl (lv_lss rfl rfl (decide_eq_false h13)) (t_done (q_then_n (hK12 _ _ (c_seq (fun K13 hK13 => c_false rfl (c_exit (q_then_x (q_then_x (q_in_x (q_then_n (hK9 _ _ ?_)))))))))))
     refine c_seq (fun K14 hK14 => c_region (tp rfl (lv_move rfl) (tp rfl (lv_assign rfl) (tp rfl (lv_assign rfl) (t_done (q_then_n (hK14 _ _ (c_ret ?_))))))))
     obtain rfl : k = n := by omega
     rw [show (al.map newTk).take k = al.map newTk from List.take_of_length_le (by rw [List.length_map]; omega)]
     refine t_f1 (t_f2 (t_f4 (t_f11 ?_)))
     refine t_shutNw hc hln hn hkl hok4 hle5 hok hle ?_
     refine t_f1 (t_drop (t_f5 (t_f6 (t_f3 (t_f5 (t_f5 (t_f6 (t_f6 ?_))))))))
     refine q_ret2 rfl rfl rfl ?_
     exact ⟨_, _, _, rfl, rfl, rfl, rfl⟩
end Go.Proofs.YtanfdikglplkaaaGreatDoor
