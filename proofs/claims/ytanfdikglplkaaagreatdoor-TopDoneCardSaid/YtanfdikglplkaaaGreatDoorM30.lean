/- Parts Er: own lemmas and contracts of the code that the claim reaches. -/
import Derived.Test.YtanfdikglplkaaaGreatDoorM03
import Derived.Test.YtanfdikglplkaaaGreatDoorM29
import Derived.Test.YtanfdikglplkaaaGreatDoorM11
import Derived.Test.YtanfdikglplkaaaGreatDoorM12
set_option linter.unusedSimpArgs false
set_option linter.unusedVariables false
set_option maxRecDepth 100000
namespace Go.Proofs.YtanfdikglplkaaaGreatDoor
open Go Go.Proofs Sp
theorem cut_ok {R : List HP} (n l m : Int) (h : 0 ≤ l ∧ l ≤ m ∧ m ≤ 1000) :
    Ok Tryz.prog 14 [(.int .i64 n), (.int .i64 l), (.int .i64 m)] R
      (fun v M => v = .int .i64 (cutF n l m) ∧ M = R) := by
 refine ok_of (N := 16) Tryz.func14 rfl rfl rfl (fun W => ?_)
 have h1 := Int.emod_nonneg (n % 1048576) (show m - l + 1 ≠ 0 by omega)
 have h2 := Int.emod_lt_of_pos (n % 1048576) (show 0 < m - l + 1 by omega)
 have h3 : 0 ≤ n % 1048576 := Int.emod_nonneg _ (by decide)
 refine c_seq (fun K1 hK1 => c_region (tp rfl (lv_assign rfl) (t_done (q_then_n (hK1 _ _ (c_seq (fun K2 hK2 => c_region (tp rfl (lv_move rfl) (tp rfl (lv_move rfl) (tp rfl (lv_and (c := n % 1048576) rfl rfl (and_pow 20 (by decide) n)) ?_))))))))))
 refine tp rfl (lv_move rfl) (tp rfl (lv_move rfl) (tp rfl (lv_sub (c := m - l) rfl rfl (wr_i64 (by omega) (by omega))) ?_))
 refine tp rfl (lv_add (c := (m - l) + 1) rfl rfl (wr_i64 (by omega) (by omega))) ?_
 refine tp rfl (lv_rem (c := (n % 1048576) % ((m - l) + 1)) rfl rfl (by omega) (Int.tmod_eq_emod_of_nonneg (by omega))) ?_
 refine tp rfl (lv_add (c := l + ((n % 1048576) % ((m - l) + 1))) rfl rfl (wr_i64 (by omega) (by omega))) ?_
 refine tp rfl (lv_assign rfl) (t_done (q_then_n (hK2 _ _ (c_ret ?_))))
 refine q_ret rfl rfl ?_
 exact ⟨rfl, rfl⟩
set_option maxHeartbeats 4000000 in
theorem config_x {R : List HP} {c : Cfg} {wide : Bool} :
    Ok Tryz.prog 8 [(.agg #[(.int .i64 c.bud), (.int .i64 c.slots), (.int .i64 c.act), (.int .i64 c.que), (.int .i64 c.tries), (.int .i64 c.pre), (.int .i64 c.tmo), (.int .i64 c.bak), (.int .i64 c.most), (.int .i64 c.qu)]), (.bool wide)] R
      (fun v M => v = .agg #[.int .i64 (cfgX c wide).bud, .int .i64 (cfgX c wide).slots, .int .i64 (cfgX c wide).act, .int .i64 (cfgX c wide).que, .int .i64 (cfgX c wide).tries, .int .i64 (cfgX c wide).pre, .int .i64 (cfgX c wide).tmo, .int .i64 (cfgX c wide).bak, .int .i64 (cfgX c wide).most, .int .i64 (cfgX c wide).qu] ∧ M = R) := by
 refine ok_of (N := 41) Tryz.func8 rfl rfl rfl (fun W => ?_)
 refine c_seq (fun K1 hK1 => c_region ?_)
 refine tm rfl (mv_box rfl rfl) ?_
 rintro _ _ ⟨b1, rfl, rfl⟩
 refine tm rfl (mv_alloc Tryz.zeroValue23 rfl) ?_
 rintro _ _ ⟨b2, rfl, rfl⟩
 refine t_done (q_then_n (hK1 _ _ (c_seq (fun K2 hK2 => ?_))))
 refine c_draw (γ := Nat) (n := 33) Tryz.mixed rfl rfl (fun (b3 : Nat) S => True) (fun (b3 : Nat) => [(0, 6, (vP b1 0)), (1, 7, (.int .i64 c.bud)), (2, 8, (.int .i64 (cutF c.bud 12 40))), (3, 9, (vP b1 1)), (4, 10, (.int .i64 c.slots)), (5, 11, (.int .i64 (cutF c.slots 1 4))), (6, 12, (vP b1 2)), (7, 13, (.int .i64 c.act)), (8, 14, (.int .i64 (cutF c.act 1 5))), (9, 15, (vP b1 3)), (10, 16, (.int .i64 c.que)), (11, 17, (.int .i64 (cutF c.que 0 4))), (12, 18, (vP b1 4)), (13, 19, (.int .i64 c.tries)), (14, 20, (.int .i64 (cutF c.tries 1 3))), (15, 21, (vP b1 5)), (16, 22, (.int .i64 c.pre)), (17, 23, (.int .i64 (cutF c.pre 0 2))), (18, 24, (vP b1 6)), (19, 25, (.int .i64 c.tmo)), (20, 26, (.int .i64 (cutF c.tmo 1 4))), (21, 27, (vP b1 7)), (22, 28, (.int .i64 c.bak)), (23, 29, (.int .i64 (cutF c.bak 1 3))), (24, 30, (vP b1 8)), (25, 31, (.int .i64 c.most)), (26, 32, (.int .i64 (cutF c.most 1 6))), (27, 33, (vP b1 9)), (28, 34, (.int .i64 c.qu)), (29, 35, (.int .i64 (cutF c.qu 1 30))), (30, 36, (.agg #[(.int .i64 (cutF c.bud 12 40)), (.int .i64 (cutF c.slots 1 4)), (.int .i64 (cutF c.act 1 5)), (.int .i64 (cutF c.que 0 4)), (.int .i64 (cutF c.tries 1 3)), (.int .i64 (cutF c.pre 0 2)), (.int .i64 (cutF c.tmo 1 4)), (.int .i64 (cutF c.bak 1 3)), (.int .i64 (cutF c.most 1 6)), (.int .i64 (cutF c.qu 1 30))])), (31, 5, (vP b3 0))]) (fun (b3 : Nat) S => (Blk b2 [(.int .i64 0), (.int .i64 0), (.int .i64 0), (.int .i64 0), (.int .i64 0), (.int .i64 0), (.int .i64 0), (.int .i64 0), (.int .i64 0), (.int .i64 0)] 23) :: (Blk b1 [(.int .i64 c.bud), (.int .i64 c.slots), (.int .i64 c.act), (.int .i64 c.que), (.int .i64 c.tries), (.int .i64 c.pre), (.int .i64 c.tmo), (.int .i64 c.bak), (.int .i64 c.most), (.int .i64 c.qu)] 23) :: (bif S 32 then (Blk b3 [(.int .i64 (cutF c.bud 12 40)), (.int .i64 (cutF c.slots 1 4)), (.int .i64 (cutF c.act 1 5)), (.int .i64 (cutF c.que 0 4)), (.int .i64 (cutF c.tries 1 3)), (.int .i64 (cutF c.pre 0 2)), (.int .i64 (cutF c.tmo 1 4)), (.int .i64 (cutF c.bak 1 3)), (.int .i64 (cutF c.most 1 6)), (.int .i64 (cutF c.qu 1 30))] 23) else (bif S 31 then (Blk b3 [(.int .i64 0), (.int .i64 0), (.int .i64 0), (.int .i64 0), (.int .i64 0), (.int .i64 0), (.int .i64 0), (.int .i64 0), (.int .i64 0), (.int .i64 0)] 23) else Emp)) :: R) (0) trivial (fun _ h => sat_emps [_, _] 1 h) (fun _ _ h => h) ?_ ?_
 · refine ⟨?_, ?_, ?_, ?_, ?_, ?_, ?_, ?_, ?_, ?_, ?_, ?_, ?_, ?_, ?_, ?_, ?_, ?_, ?_, ?_, ?_, ?_, ?_, ?_, ?_, ?_, ?_, ?_, ?_, ?_, ?_, ?_, ?_, trivial⟩
   · rintro b3 S hF hS D hp K hK; try dsimp only
     exact d_lv1 (look_b (t := 2) rfl rfl) (lv_fieldAddr (o' := 0) Tryz.underlying23 rfl Tryz.sizeOf3 rfl rfl) 0 rfl rfl hS (hK b3 hF)
   · rintro b3 S hF hS D hp K hK; try dsimp only
     exact d_lv1 (lkr hp 0 rfl rfl) (lv_load Tryz.isAgg3 rfl (gives_blk (.tail _ (.head _)) rfl)) 1 rfl rfl hS (hK b3 hF)
   · rintro b3 S hF hS D hp K hK
     try dsimp only at hF ⊢
     have s1 := hp 1 rfl
     refine d_need (small := [(7, (.int .i64 c.bud))]) ⟨look_row rfl 1 rfl s1, trivial⟩ ?_
     refine tc rfl (en_fn Tryz.call14 rfl) (cut_ok c.bud 12 40 (by omega)) ?_
     rintro _ _ ⟨rfl, rfl⟩
     exact d_closes ⟨look_row rfl 1 rfl s1, trivial⟩ 2 rfl rfl rfl hS (AgreeR.refl _) (t_sat (fun _ h => h) (hK b3 trivial))
   · rintro b3 S hF hS D hp K hK; try dsimp only
     exact d_lv1 (look_b (t := 2) rfl rfl) (lv_fieldAddr (o' := 1) Tryz.underlying23 rfl Tryz.sizeOf3 rfl rfl) 3 rfl rfl hS (hK b3 hF)
   · rintro b3 S hF hS D hp K hK; try dsimp only
     exact d_lv1 (lkr hp 3 rfl rfl) (lv_load Tryz.isAgg3 rfl (gives_blk (.tail _ (.head _)) rfl)) 4 rfl rfl hS (hK b3 hF)
   · rintro b3 S hF hS D hp K hK
     try dsimp only at hF ⊢
     have s4 := hp 4 rfl
     refine d_need (small := [(10, (.int .i64 c.slots))]) ⟨look_row rfl 4 rfl s4, trivial⟩ ?_
     refine tc rfl (en_fn Tryz.call14 rfl) (cut_ok c.slots 1 4 (by omega)) ?_
     rintro _ _ ⟨rfl, rfl⟩
     exact d_closes ⟨look_row rfl 4 rfl s4, trivial⟩ 5 rfl rfl rfl hS (AgreeR.refl _) (t_sat (fun _ h => h) (hK b3 trivial))
   · rintro b3 S hF hS D hp K hK; try dsimp only
     exact d_lv1 (look_b (t := 2) rfl rfl) (lv_fieldAddr (o' := 2) Tryz.underlying23 rfl Tryz.sizeOf3 rfl rfl) 6 rfl rfl hS (hK b3 hF)
   · rintro b3 S hF hS D hp K hK; try dsimp only
     exact d_lv1 (lkr hp 6 rfl rfl) (lv_load Tryz.isAgg3 rfl (gives_blk (.tail _ (.head _)) rfl)) 7 rfl rfl hS (hK b3 hF)
   · rintro b3 S hF hS D hp K hK
     try dsimp only at hF ⊢
     have s7 := hp 7 rfl
     refine d_need (small := [(13, (.int .i64 c.act))]) ⟨look_row rfl 7 rfl s7, trivial⟩ ?_
     refine tc rfl (en_fn Tryz.call14 rfl) (cut_ok c.act 1 5 (by omega)) ?_
     rintro _ _ ⟨rfl, rfl⟩
     exact d_closes ⟨look_row rfl 7 rfl s7, trivial⟩ 8 rfl rfl rfl hS (AgreeR.refl _) (t_sat (fun _ h => h) (hK b3 trivial))
   · rintro b3 S hF hS D hp K hK; try dsimp only
     exact d_lv1 (look_b (t := 2) rfl rfl) (lv_fieldAddr (o' := 3) Tryz.underlying23 rfl Tryz.sizeOf3 rfl rfl) 9 rfl rfl hS (hK b3 hF)
   · rintro b3 S hF hS D hp K hK; try dsimp only
     exact d_lv1 (lkr hp 9 rfl rfl) (lv_load Tryz.isAgg3 rfl (gives_blk (.tail _ (.head _)) rfl)) 10 rfl rfl hS (hK b3 hF)
   · rintro b3 S hF hS D hp K hK
     try dsimp only at hF ⊢
     have s10 := hp 10 rfl
     refine d_need (small := [(16, (.int .i64 c.que))]) ⟨look_row rfl 10 rfl s10, trivial⟩ ?_
     refine tc rfl (en_fn Tryz.call14 rfl) (cut_ok c.que 0 4 (by omega)) ?_
     rintro _ _ ⟨rfl, rfl⟩
     exact d_closes ⟨look_row rfl 10 rfl s10, trivial⟩ 11 rfl rfl rfl hS (AgreeR.refl _) (t_sat (fun _ h => h) (hK b3 trivial))
   · rintro b3 S hF hS D hp K hK; try dsimp only
     exact d_lv1 (look_b (t := 2) rfl rfl) (lv_fieldAddr (o' := 4) Tryz.underlying23 rfl Tryz.sizeOf3 rfl rfl) 12 rfl rfl hS (hK b3 hF)
   · rintro b3 S hF hS D hp K hK; try dsimp only
     exact d_lv1 (lkr hp 12 rfl rfl) (lv_load Tryz.isAgg3 rfl (gives_blk (.tail _ (.head _)) rfl)) 13 rfl rfl hS (hK b3 hF)
   · rintro b3 S hF hS D hp K hK
     try dsimp only at hF ⊢
     have s13 := hp 13 rfl
     refine d_need (small := [(19, (.int .i64 c.tries))]) ⟨look_row rfl 13 rfl s13, trivial⟩ ?_
     refine tc rfl (en_fn Tryz.call14 rfl) (cut_ok c.tries 1 3 (by omega)) ?_
     rintro _ _ ⟨rfl, rfl⟩
     exact d_closes ⟨look_row rfl 13 rfl s13, trivial⟩ 14 rfl rfl rfl hS (AgreeR.refl _) (t_sat (fun _ h => h) (hK b3 trivial))
   · rintro b3 S hF hS D hp K hK; try dsimp only
     exact d_lv1 (look_b (t := 2) rfl rfl) (lv_fieldAddr (o' := 5) Tryz.underlying23 rfl Tryz.sizeOf3 rfl rfl) 15 rfl rfl hS (hK b3 hF)
   · rintro b3 S hF hS D hp K hK; try dsimp only
     exact d_lv1 (lkr hp 15 rfl rfl) (lv_load Tryz.isAgg3 rfl (gives_blk (.tail _ (.head _)) rfl)) 16 rfl rfl hS (hK b3 hF)
   · rintro b3 S hF hS D hp K hK
     try dsimp only at hF ⊢
     have s16 := hp 16 rfl
     refine d_need (small := [(22, (.int .i64 c.pre))]) ⟨look_row rfl 16 rfl s16, trivial⟩ ?_
     refine tc rfl (en_fn Tryz.call14 rfl) (cut_ok c.pre 0 2 (by omega)) ?_
     rintro _ _ ⟨rfl, rfl⟩
     exact d_closes ⟨look_row rfl 16 rfl s16, trivial⟩ 17 rfl rfl rfl hS (AgreeR.refl _) (t_sat (fun _ h => h) (hK b3 trivial))
   · rintro b3 S hF hS D hp K hK; try dsimp only
     exact d_lv1 (look_b (t := 2) rfl rfl) (lv_fieldAddr (o' := 6) Tryz.underlying23 rfl Tryz.sizeOf3 rfl rfl) 18 rfl rfl hS (hK b3 hF)
   · rintro b3 S hF hS D hp K hK; try dsimp only
     exact d_lv1 (lkr hp 18 rfl rfl) (lv_load Tryz.isAgg3 rfl (gives_blk (.tail _ (.head _)) rfl)) 19 rfl rfl hS (hK b3 hF)
   · rintro b3 S hF hS D hp K hK
     try dsimp only at hF ⊢
     have s19 := hp 19 rfl
     refine d_need (small := [(25, (.int .i64 c.tmo))]) ⟨look_row rfl 19 rfl s19, trivial⟩ ?_
     refine tc rfl (en_fn Tryz.call14 rfl) (cut_ok c.tmo 1 4 (by omega)) ?_
     rintro _ _ ⟨rfl, rfl⟩
     exact d_closes ⟨look_row rfl 19 rfl s19, trivial⟩ 20 rfl rfl rfl hS (AgreeR.refl _) (t_sat (fun _ h => h) (hK b3 trivial))
   · rintro b3 S hF hS D hp K hK; try dsimp only
     exact d_lv1 (look_b (t := 2) rfl rfl) (lv_fieldAddr (o' := 7) Tryz.underlying23 rfl Tryz.sizeOf3 rfl rfl) 21 rfl rfl hS (hK b3 hF)
   · rintro b3 S hF hS D hp K hK; try dsimp only
     exact d_lv1 (lkr hp 21 rfl rfl) (lv_load Tryz.isAgg3 rfl (gives_blk (.tail _ (.head _)) rfl)) 22 rfl rfl hS (hK b3 hF)
   · rintro b3 S hF hS D hp K hK
     try dsimp only at hF ⊢
     have s22 := hp 22 rfl
     refine d_need (small := [(28, (.int .i64 c.bak))]) ⟨look_row rfl 22 rfl s22, trivial⟩ ?_
     refine tc rfl (en_fn Tryz.call14 rfl) (cut_ok c.bak 1 3 (by omega)) ?_
     rintro _ _ ⟨rfl, rfl⟩
     exact d_closes ⟨look_row rfl 22 rfl s22, trivial⟩ 23 rfl rfl rfl hS (AgreeR.refl _) (t_sat (fun _ h => h) (hK b3 trivial))
   · rintro b3 S hF hS D hp K hK; try dsimp only
     exact d_lv1 (look_b (t := 2) rfl rfl) (lv_fieldAddr (o' := 8) Tryz.underlying23 rfl Tryz.sizeOf3 rfl rfl) 24 rfl rfl hS (hK b3 hF)
   · rintro b3 S hF hS D hp K hK; try dsimp only
     exact d_lv1 (lkr hp 24 rfl rfl) (lv_load Tryz.isAgg3 rfl (gives_blk (.tail _ (.head _)) rfl)) 25 rfl rfl hS (hK b3 hF)
   · rintro b3 S hF hS D hp K hK
     try dsimp only at hF ⊢
     have s25 := hp 25 rfl
     refine d_need (small := [(31, (.int .i64 c.most))]) ⟨look_row rfl 25 rfl s25, trivial⟩ ?_
     refine tc rfl (en_fn Tryz.call14 rfl) (cut_ok c.most 1 6 (by omega)) ?_
     rintro _ _ ⟨rfl, rfl⟩
     exact d_closes ⟨look_row rfl 25 rfl s25, trivial⟩ 26 rfl rfl rfl hS (AgreeR.refl _) (t_sat (fun _ h => h) (hK b3 trivial))
   · rintro b3 S hF hS D hp K hK; try dsimp only
     exact d_lv1 (look_b (t := 2) rfl rfl) (lv_fieldAddr (o' := 9) Tryz.underlying23 rfl Tryz.sizeOf3 rfl rfl) 27 rfl rfl hS (hK b3 hF)
   · rintro b3 S hF hS D hp K hK; try dsimp only
     exact d_lv1 (lkr hp 27 rfl rfl) (lv_load Tryz.isAgg3 rfl (gives_blk (.tail _ (.head _)) rfl)) 28 rfl rfl hS (hK b3 hF)
   · rintro b3 S hF hS D hp K hK
     try dsimp only at hF ⊢
     have s28 := hp 28 rfl
     refine d_need (small := [(34, (.int .i64 c.qu))]) ⟨look_row rfl 28 rfl s28, trivial⟩ ?_
     refine tc rfl (en_fn Tryz.call14 rfl) (cut_ok c.qu 1 30 (by omega)) ?_
     rintro _ _ ⟨rfl, rfl⟩
     exact d_closes ⟨look_row rfl 28 rfl s28, trivial⟩ 29 rfl rfl rfl hS (AgreeR.refl _) (t_sat (fun _ h => h) (hK b3 trivial))
   · rintro b3 S hF hS D hp K hK
     try dsimp only at hF ⊢
     have s2 := hp 2 rfl
     have s5 := hp 5 rfl
     have s8 := hp 8 rfl
     have s11 := hp 11 rfl
     have s14 := hp 14 rfl
     have s17 := hp 17 rfl
     have s20 := hp 20 rfl
     have s23 := hp 23 rfl
     have s26 := hp 26 rfl
     have s29 := hp 29 rfl
     refine d_need (small := [(8, (.int .i64 (cutF c.bud 12 40))), (11, (.int .i64 (cutF c.slots 1 4))), (14, (.int .i64 (cutF c.act 1 5))), (17, (.int .i64 (cutF c.que 0 4))), (20, (.int .i64 (cutF c.tries 1 3))), (23, (.int .i64 (cutF c.pre 0 2))), (26, (.int .i64 (cutF c.tmo 1 4))), (29, (.int .i64 (cutF c.bak 1 3))), (32, (.int .i64 (cutF c.most 1 6))), (35, (.int .i64 (cutF c.qu 1 30)))]) ⟨look_row rfl 2 rfl s2, look_row rfl 5 rfl s5, look_row rfl 8 rfl s8, look_row rfl 11 rfl s11, look_row rfl 14 rfl s14, look_row rfl 17 rfl s17, look_row rfl 20 rfl s20, look_row rfl 23 rfl s23, look_row rfl 26 rfl s26, look_row rfl 29 rfl s29, trivial⟩ ?_
     refine tp rfl (lv_build (cs := [(.int .i64 (cutF c.bud 12 40)), (.int .i64 (cutF c.slots 1 4)), (.int .i64 (cutF c.act 1 5)), (.int .i64 (cutF c.que 0 4)), (.int .i64 (cutF c.tries 1 3)), (.int .i64 (cutF c.pre 0 2)), (.int .i64 (cutF c.tmo 1 4)), (.int .i64 (cutF c.bak 1 3)), (.int .i64 (cutF c.most 1 6)), (.int .i64 (cutF c.qu 1 30))]) (pl := [(0, 1), (1, 1), (2, 1), (3, 1), (4, 1), (5, 1), (6, 1), (7, 1), (8, 1), (9, 1)]) Tryz.underlying23 Tryz.zeroValue23 (fun _ => by simp) rfl rfl) ?_
     exact d_closes ⟨look_row rfl 2 rfl s2, look_row rfl 5 rfl s5, look_row rfl 8 rfl s8, look_row rfl 11 rfl s11, look_row rfl 14 rfl s14, look_row rfl 17 rfl s17, look_row rfl 20 rfl s20, look_row rfl 23 rfl s23, look_row rfl 26 rfl s26, look_row rfl 29 rfl s29, trivial⟩ 30 rfl rfl rfl hS (AgreeR.refl _) (t_sat (fun _ h => h) (hK b3 trivial))
   · rintro b3 S hF hS D hp K hK
     try dsimp only at hF ⊢
     refine d_need (small := []) trivial ?_
     refine t_f2 ?_
     refine t_cF (nf hS D (k := 32) (i := 31) rfl) ?_
     refine t_cF hS ?_
     refine tm rfl (mv_alloc Tryz.zeroValue23 rfl) ?_
     rintro _ _ ⟨b3, rfl, rfl⟩
     refine t_f1 ?_
     refine t_wF (A := (Blk b3 [(.int .i64 0), (.int .i64 0), (.int .i64 0), (.int .i64 0), (.int .i64 0), (.int .i64 0), (.int .i64 0), (.int .i64 0), (.int .i64 0), (.int .i64 0)] 23)) hS ?_
     refine t_wF (A := (Blk b3 [(.int .i64 (cutF c.bud 12 40)), (.int .i64 (cutF c.slots 1 4)), (.int .i64 (cutF c.act 1 5)), (.int .i64 (cutF c.que 0 4)), (.int .i64 (cutF c.tries 1 3)), (.int .i64 (cutF c.pre 0 2)), (.int .i64 (cutF c.tmo 1 4)), (.int .i64 (cutF c.bak 1 3)), (.int .i64 (cutF c.most 1 6)), (.int .i64 (cutF c.qu 1 30))] 23)) (nf hS D (k := 32) (i := 31) rfl) ?_
     refine t_f1 ?_
     refine t_wF (A := (Blk b3 [(.int .i64 (cutF c.bud 12 40)), (.int .i64 (cutF c.slots 1 4)), (.int .i64 (cutF c.act 1 5)), (.int .i64 (cutF c.que 0 4)), (.int .i64 (cutF c.tries 1 3)), (.int .i64 (cutF c.pre 0 2)), (.int .i64 (cutF c.tmo 1 4)), (.int .i64 (cutF c.bak 1 3)), (.int .i64 (cutF c.most 1 6)), (.int .i64 (cutF c.qu 1 30))] 23)) (nf hS D (k := 32) (i := 31) rfl) ?_
     refine t_f1 (t_f3 (t_f3 (t_f3 ?_)))
     refine t_sat (fun _ h => sat_put [_, _] h) ?_
     exact d_closes trivial 31 rfl rfl rfl hS (by exact ⟨.inl rfl, .inl rfl, .inl rfl, .inl rfl, .inl rfl, .inl rfl, .inl rfl, .inl rfl, .inl rfl, .inl rfl, .inl rfl, .inl rfl, .inl rfl, .inl rfl, .inl rfl, .inl rfl, .inl rfl, .inl rfl, .inl rfl, .inl rfl, .inl rfl, .inl rfl, .inl rfl, .inl rfl, .inl rfl, .inl rfl, .inl rfl, .inl rfl, .inl rfl, .inl rfl, .inl rfl, .inr ⟨rfl, rfl, hS⟩, trivial⟩) (t_sat (fun _ h => h) (hK b3 trivial))
   · rintro b3 S hF hS D hp K hK
     try dsimp only at hF ⊢
     have s31 := hp 31 rfl
     have s30 := hp 30 rfl
     refine d_need (small := [(5, (vP b3 0)), (36, (.agg #[(.int .i64 (cutF c.bud 12 40)), (.int .i64 (cutF c.slots 1 4)), (.int .i64 (cutF c.act 1 5)), (.int .i64 (cutF c.que 0 4)), (.int .i64 (cutF c.tries 1 3)), (.int .i64 (cutF c.pre 0 2)), (.int .i64 (cutF c.tmo 1 4)), (.int .i64 (cutF c.bak 1 3)), (.int .i64 (cutF c.most 1 6)), (.int .i64 (cutF c.qu 1 30))]))]) ⟨look_row rfl 31 rfl s31, look_row rfl 30 rfl s30, trivial⟩ ?_
     refine t_f2 ?_
     refine t_cF hS ?_
     refine t_cT s31 ?_
     refine ts (sv_blkAgg (news := [(.int .i64 (cutF c.bud 12 40)), (.int .i64 (cutF c.slots 1 4)), (.int .i64 (cutF c.act 1 5)), (.int .i64 (cutF c.que 0 4)), (.int .i64 (cutF c.tries 1 3)), (.int .i64 (cutF c.pre 0 2)), (.int .i64 (cutF c.tmo 1 4)), (.int .i64 (cutF c.bak 1 3)), (.int .i64 (cutF c.most 1 6)), (.int .i64 (cutF c.qu 1 30))]) Tryz.sizeOf23 rfl rfl rfl rfl (Nat.le_of_ble_eq_true rfl) rfl) ?_
     refine t_f2 (t_f2 ?_)
     exact d_closes0 ⟨look_row rfl 31 rfl s31, look_row rfl 30 rfl s30, trivial⟩ rfl (t_sat (fun _ h => h) (hK b3 trivial))
 · rintro b3 hF
   try dsimp only at hF ⊢
   refine t_weak (E' := [(0, (.agg #[(.int .i64 c.bud), (.int .i64 c.slots), (.int .i64 c.act), (.int .i64 c.que), (.int .i64 c.tries), (.int .i64 c.pre), (.int .i64 c.tmo), (.int .i64 c.bak), (.int .i64 c.most), (.int .i64 c.qu)])), (1, (.bool wide)), (2, (vP b1 0)), (4, (vP b2 0)), (5, (vP b3 0))]) ⟨rfl, rfl, rfl, rfl, rfl, trivial⟩ ?_
   refine q_then_n (hK2 _ _ (c_seq (fun K3 hK3 => c_seq (fun K4 hK4 => c_region (tp rfl (lv_move rfl) (t_done (q_then_n (hK4 _ _ ?_))))))))
   refine c_split rfl (fun c4 => ?_) (fun c4 => ?_)
   · refine c_seq (fun K5 hK5 => c_region (tp rfl (lv_fieldAddr (o' := 0) Tryz.underlying23 rfl Tryz.sizeOf3 rfl rfl) (t_f2 ?_)))
     refine ts (sv_blk Tryz.sizeOf3 rfl rfl rfl (Nat.le_of_ble_eq_true rfl) rfl) ?_
     refine t_done (q_then_n (hK5 _ _ (c_region (tp rfl (lv_fieldAddr (o' := 2) Tryz.underlying23 rfl Tryz.sizeOf3 rfl rfl) ?_))))
     refine ts (sv_blk Tryz.sizeOf3 rfl rfl rfl (Nat.le_of_ble_eq_true rfl) rfl) ?_
     refine t_done (q_then_n (hK3 _ _ (c_seq (fun K6 hK6 => c_region (tp rfl (lv_loadAgg (cs := [(.int .i64 1000), (.int .i64 (cutF c.slots 1 4)), (.int .i64 16), (.int .i64 (cutF c.que 0 4)), (.int .i64 (cutF c.tries 1 3)), (.int .i64 (cutF c.pre 0 2)), (.int .i64 (cutF c.tmo 1 4)), (.int .i64 (cutF c.bak 1 3)), (.int .i64 (cutF c.most 1 6)), (.int .i64 (cutF c.qu 1 30))]) Tryz.isAgg23 Tryz.sizeOf23 rfl (gives_all10 (gives_blk (.head _) rfl) (gives_blk (.head _) rfl) (gives_blk (.head _) rfl) (gives_blk (.head _) rfl) (gives_blk (.head _) rfl) (gives_blk (.head _) rfl) (gives_blk (.head _) rfl) (gives_blk (.head _) rfl) (gives_blk (.head _) rfl) (gives_blk (.head _) rfl))) (t_f1 ?_))))))
     refine ts (sv_blkAgg (news := [(.int .i64 1000), (.int .i64 (cutF c.slots 1 4)), (.int .i64 16), (.int .i64 (cutF c.que 0 4)), (.int .i64 (cutF c.tries 1 3)), (.int .i64 (cutF c.pre 0 2)), (.int .i64 (cutF c.tmo 1 4)), (.int .i64 (cutF c.bak 1 3)), (.int .i64 (cutF c.most 1 6)), (.int .i64 (cutF c.qu 1 30))]) Tryz.sizeOf23 rfl rfl rfl rfl (Nat.le_of_ble_eq_true rfl) rfl) ?_
     refine t_done (q_then_n (hK6 _ _ (c_ret (t_f1 (t_drop (t_f1 (t_drop ?_)))))))
     refine q_retc (cs := [(.int .i64 1000), (.int .i64 (cutF c.slots 1 4)), (.int .i64 16), (.int .i64 (cutF c.que 0 4)), (.int .i64 (cutF c.tries 1 3)), (.int .i64 (cutF c.pre 0 2)), (.int .i64 (cutF c.tmo 1 4)), (.int .i64 (cutF c.bak 1 3)), (.int .i64 (cutF c.most 1 6)), (.int .i64 (cutF c.qu 1 30))]) rfl rfl Tryz.isAgg23 Tryz.sizeOf23 (gives_all10 (gives_blk (.head _) rfl) (gives_blk (.head _) rfl) (gives_blk (.head _) rfl) (gives_blk (.head _) rfl) (gives_blk (.head _) rfl) (gives_blk (.head _) rfl) (gives_blk (.head _) rfl) (gives_blk (.head _) rfl) (gives_blk (.head _) rfl) (gives_blk (.head _) rfl)) (fun _ h => h.drop) ?_
     exact ⟨by rw [show wide = true from by assumption]; rfl, rfl⟩
   · refine c_skip (q_then_n (hK3 _ _ (c_seq (fun K5 hK5 => c_region (tp rfl (lv_loadAgg (cs := [(.int .i64 (cutF c.bud 12 40)), (.int .i64 (cutF c.slots 1 4)), (.int .i64 (cutF c.act 1 5)), (.int .i64 (cutF c.que 0 4)), (.int .i64 (cutF c.tries 1 3)), (.int .i64 (cutF c.pre 0 2)), (.int .i64 (cutF c.tmo 1 4)), (.int .i64 (cutF c.bak 1 3)), (.int .i64 (cutF c.most 1 6)), (.int .i64 (cutF c.qu 1 30))]) Tryz.isAgg23 Tryz.sizeOf23 rfl (gives_all10 (gives_blk (.tail _ (.tail _ (.head _))) rfl) (gives_blk (.tail _ (.tail _ (.head _))) rfl) (gives_blk (.tail _ (.tail _ (.head _))) rfl) (gives_blk (.tail _ (.tail _ (.head _))) rfl) (gives_blk (.tail _ (.tail _ (.head _))) rfl) (gives_blk (.tail _ (.tail _ (.head _))) rfl) (gives_blk (.tail _ (.tail _ (.head _))) rfl) (gives_blk (.tail _ (.tail _ (.head _))) rfl) (gives_blk (.tail _ (.tail _ (.head _))) rfl) (gives_blk (.tail _ (.tail _ (.head _))) rfl))) ?_)))))
     refine ts (sv_blkAgg (news := [(.int .i64 (cutF c.bud 12 40)), (.int .i64 (cutF c.slots 1 4)), (.int .i64 (cutF c.act 1 5)), (.int .i64 (cutF c.que 0 4)), (.int .i64 (cutF c.tries 1 3)), (.int .i64 (cutF c.pre 0 2)), (.int .i64 (cutF c.tmo 1 4)), (.int .i64 (cutF c.bak 1 3)), (.int .i64 (cutF c.most 1 6)), (.int .i64 (cutF c.qu 1 30))]) Tryz.sizeOf23 rfl rfl rfl rfl (Nat.le_of_ble_eq_true rfl) rfl) ?_
     refine t_done (q_then_n (hK5 _ _ (c_ret (t_f1 (t_drop (t_f1 (t_drop ?_)))))))
     refine q_retc (cs := [(.int .i64 (cutF c.bud 12 40)), (.int .i64 (cutF c.slots 1 4)), (.int .i64 (cutF c.act 1 5)), (.int .i64 (cutF c.que 0 4)), (.int .i64 (cutF c.tries 1 3)), (.int .i64 (cutF c.pre 0 2)), (.int .i64 (cutF c.tmo 1 4)), (.int .i64 (cutF c.bak 1 3)), (.int .i64 (cutF c.most 1 6)), (.int .i64 (cutF c.qu 1 30))]) rfl rfl Tryz.isAgg23 Tryz.sizeOf23 (gives_all10 (gives_blk (.head _) rfl) (gives_blk (.head _) rfl) (gives_blk (.head _) rfl) (gives_blk (.head _) rfl) (gives_blk (.head _) rfl) (gives_blk (.head _) rfl) (gives_blk (.head _) rfl) (gives_blk (.head _) rfl) (gives_blk (.head _) rfl) (gives_blk (.head _) rfl)) (fun _ h => h.drop) ?_
     exact ⟨by rw [show wide = false from by assumption]; rfl, rfl⟩
set_option maxHeartbeats 4000000 in
theorem tasks_ok {R : List HP} {bb : Option Addr} {n cb : Nat} (al : List (Int × Int)) (hn : al.length = n) (hb : Rd R bb (pairs al)) (okb : SlOk bb n) :
    Ok Tryz.prog 6 [(.slice bb n cb)] R
      (fun v M => ∃ bs cp n', (tasksF al).length = n' ∧ SlOk bs n' ∧ n' ≤ cp ∧ v = .slice bs n' cp ∧ M = SlV 57 2 (.slice bs n' cp) n' (pairs (tasksF al)) :: R) := by
 refine ok_of (N := 39) Tryz.func6 rfl rfl rfl (fun W => ?_)
 refine c_seq (fun K1 hK1 => c_region (tp rfl (lv_assign rfl) (t_done (q_then_n (hK1 _ _ (c_seq (fun K2 hK2 => c_region (tp rfl (lv_assign rfl) (t_done (q_then_n (hK2 _ _ ?_)))))))))))
 refine c_seq (fun K3 hK3 => c_seq (fun K4 hK4 => c_region (tp rfl (lv_assign rfl) (t_done (q_then_n (hK4 _ _ (c_block ?_)))))))
 refine t_sat (fun _ h => sat_nilsl 57 2 h) ?_
 refine c_loop (γ := (Nat) × (Option Addr) × (Nat)) (fun (k, bt, ct) => k ≤ n ∧ k ≤ 8 ∧ SlOk bt k ∧ k ≤ ct) (fun (k, bt, ct) => [(0, (.slice bb n cb)), (2, (.slice none 0 0)), (3, (.slice bt k ct)), (4, (vN k))]) (fun (k, bt, ct) => (SlV 57 2 (.slice bt k ct) k (pairs ((al.map tskF).take k))) :: R) (fun (k, bt, ct) => n - k) (0, none, 0) ⟨Nat.zero_le _, Nat.zero_le _, slok_none, Nat.le_refl _⟩ ⟨rfl, rfl, rfl, rfl, trivial⟩ (fun _ h => h) ?_
 rintro ⟨k, bt, ct⟩ K5 hF hK5
 try dsimp only at hF hK5 ⊢
 obtain ⟨hk, hk8, hok, hle⟩ := hF
 refine c_seq (fun K6 hK6 => c_seq (fun K7 hK7 => c_region ?_))
 by_cases hc1 : ((k : Nat) : Int) < ((n : Nat) : Int) ∧ ((k : Nat) : Int) < 8
 · have hc1a := hc1.1
   have hc1b := hc1.2
   refine tp rfl (lv_move rfl) (tp rfl (lv_move rfl) (tp rfl (lv_len Tryz.underlying24 rfl rfl) (tp rfl (lv_lss rfl rfl (decide_eq_true hc1.1)) (tp rfl (lv_move rfl) ?_))))
   refine t_guard rfl rfl ?_
   refine tp rfl (lv_move rfl) ?_
   refine t_guard rfl rfl ?_
   refine tp rfl (lv_lss rfl rfl (decide_eq_true hc1.2)) (tp rfl (lv_pick_t rfl rfl) (t_done (q_then_n (hK7 _ _ (c_true rfl (c_skip (q_then_n (hK6 _ _ (c_seq (fun K8 hK8 => c_block ?_))))))))))
   refine c_draw (γ := Option Addr × Nat × Option Addr × Nat) (n := 17) Tryz.mixed rfl rfl (fun (bs2, cp3, bs6, cp7) S => (S 14 = true → SlOk bs2 1) ∧ (S 14 = true → 1 ≤ cp3) ∧ (S 15 = true → SlOk bs6 (k + 1)) ∧ (S 15 = true → k + 1 ≤ cp7)) (fun (bs2, cp3, bs6, cp7) => [(0, 15, (.slice bt k ct)), (1, 16, (.slice bb n cb)), (2, 17, (vN k)), (3, 18, (.pointer (some (ad bb (k * 2))))), (4, 19, (.pointer (some (ad bb (k * 2))))), (5, 20, (.int .i64 (((al).getD k (0, 0)).1))), (6, 21, (.int .i64 (cutF (((al).getD k (0, 0)).1) 1 12))), (7, 22, (.slice bb n cb)), (8, 23, (vN k)), (9, 24, (.pointer (some (ad bb (k * 2))))), (10, 25, (.pointer (some (ad bb (k * 2 + 1))))), (11, 26, (.int .i64 (((al).getD k (0, 0)).2))), (12, 27, (.int .i64 (cutF (((al).getD k (0, 0)).2) 1 30))), (13, 28, (.agg #[(.int .i64 (cutF (((al).getD k (0, 0)).1) 1 12)), (.int .i64 (cutF (((al).getD k (0, 0)).2) 1 30))])), (14, 29, (.slice bs2 1 cp3)), (15, 30, (.slice bs6 (k + 1) cp7)), (16, 3, (.slice bs6 (k + 1) cp7))]) (fun (bs2, cp3, bs6, cp7) S => (bif S 15 then (SlV 57 2 (.slice bs6 (k + 1) cp7) (k + 1) (pairs (((al.map tskF).take k) ++ [(cutF (((al).getD k (0, 0)).1) 1 12, cutF (((al).getD k (0, 0)).2) 1 30)]))) else (SlV 57 2 (.slice bt k ct) k (pairs ((al.map tskF).take k)))) :: (bif S 14 then (SlV 57 2 (.slice bs2 1 cp3) 1 [(.int .i64 (cutF (((al).getD k (0, 0)).1) 1 12)), (.int .i64 (cutF (((al).getD k (0, 0)).2) 1 30))]) else Emp) :: R) (none, 0, none, 0) (by simp [Nat.ble]) (fun _ h => sat_emps [_] 1 h) (fun _ _ h => h) ?_ ?_
   · refine ⟨?_, ?_, ?_, ?_, ?_, ?_, ?_, ?_, ?_, ?_, ?_, ?_, ?_, ?_, ?_, ?_, ?_, trivial⟩
     · rintro ⟨bs2, cp3, bs6, cp7⟩ S hF hS D hp K hK; try dsimp only
       exact d_lv1 (look_b1 (t := 3) 16 (nf hS D (k := 16) (i := 0) rfl) rfl rfl) (lv_move rfl) 0 rfl rfl hS (hK (bs2, cp3, bs6, cp7) hF)
     · rintro ⟨bs2, cp3, bs6, cp7⟩ S hF hS D hp K hK; try dsimp only
       exact d_lv1 (look_b (t := 0) rfl rfl) (lv_move rfl) 1 rfl rfl hS (hK (bs2, cp3, bs6, cp7) hF)
     · rintro ⟨bs2, cp3, bs6, cp7⟩ S hF hS D hp K hK; try dsimp only
       exact d_lv1 (look_b (t := 4) rfl rfl) (lv_move rfl) 2 rfl rfl hS (hK (bs2, cp3, bs6, cp7) hF)
     · rintro ⟨bs2, cp3, bs6, cp7⟩ S hF hS D hp K hK; try dsimp only
       exact d_lv2 (lkr hp 1 rfl rfl) (lkr hp 2 rfl rfl) (lv_indexAddr (k' := k * 2) Tryz.underlying24 Tryz.sizeOf57 rfl rfl okb (by omega) (by omega) (by omega)) 3 rfl rfl hS (hK (bs2, cp3, bs6, cp7) hF)
     · rintro ⟨bs2, cp3, bs6, cp7⟩ S hF hS D hp K hK; try dsimp only
       exact d_lv1 (lkr hp 3 rfl rfl) (lv_fieldAddr_ad (o' := k * 2) Tryz.underlying57 rfl Tryz.sizeOf3 rfl rfl) 4 rfl rfl hS (hK (bs2, cp3, bs6, cp7) hF)
     · rintro ⟨bs2, cp3, bs6, cp7⟩ S hF hS D hp K hK; try dsimp only
       exact d_lv1 (lkr hp 4 rfl rfl) (lv_load Tryz.isAgg3 rfl (Rd.gives (Rd.cons (Rd.cons hb)) (pairs_get0 (by first | omega | (simp; omega))))) 5 rfl rfl hS (hK (bs2, cp3, bs6, cp7) hF)
     · rintro ⟨bs2, cp3, bs6, cp7⟩ S hF hS D hp K hK
       try dsimp only at hF ⊢
       obtain ⟨hf0, hf1, hf2, hf3⟩ := hF
       have s5 := hp 5 rfl
       refine d_need (small := [(20, (.int .i64 (((al).getD k (0, 0)).1)))]) ⟨look_row rfl 5 rfl s5, trivial⟩ ?_
       refine tc rfl (en_fn Tryz.call14 rfl) (cut_ok (((al).getD k (0, 0)).1) 1 12 (by omega)) ?_
       rintro _ _ ⟨rfl, rfl⟩
       exact d_closes ⟨look_row rfl 5 rfl s5, trivial⟩ 6 rfl rfl rfl hS (AgreeR.refl _) (t_sat (fun _ h => h) (hK (bs2, cp3, bs6, cp7) ⟨hf0, hf1, hf2, hf3⟩))
     · rintro ⟨bs2, cp3, bs6, cp7⟩ S hF hS D hp K hK; try dsimp only
       exact d_lv1 (look_b (t := 0) rfl rfl) (lv_move rfl) 7 rfl rfl hS (hK (bs2, cp3, bs6, cp7) hF)
     · rintro ⟨bs2, cp3, bs6, cp7⟩ S hF hS D hp K hK; try dsimp only
       exact d_lv1 (look_b (t := 4) rfl rfl) (lv_move rfl) 8 rfl rfl hS (hK (bs2, cp3, bs6, cp7) hF)
     · rintro ⟨bs2, cp3, bs6, cp7⟩ S hF hS D hp K hK; try dsimp only
       exact d_lv2 (lkr hp 7 rfl rfl) (lkr hp 8 rfl rfl) (lv_indexAddr (k' := k * 2) Tryz.underlying24 Tryz.sizeOf57 rfl rfl okb (by omega) (by omega) (by omega)) 9 rfl rfl hS (hK (bs2, cp3, bs6, cp7) hF)
     · rintro ⟨bs2, cp3, bs6, cp7⟩ S hF hS D hp K hK; try dsimp only
       exact d_lv1 (lkr hp 9 rfl rfl) (lv_fieldAddr_ad (o' := k * 2 + 1) Tryz.underlying57 rfl Tryz.sizeOf3 rfl rfl) 10 rfl rfl hS (hK (bs2, cp3, bs6, cp7) hF)
     · rintro ⟨bs2, cp3, bs6, cp7⟩ S hF hS D hp K hK; try dsimp only
       exact d_lv1 (lkr hp 10 rfl rfl) (lv_load Tryz.isAgg3 rfl (Rd.gives (Rd.cons (Rd.cons hb)) (pairs_get1 (by first | omega | (simp; omega))))) 11 rfl rfl hS (hK (bs2, cp3, bs6, cp7) hF)
     · rintro ⟨bs2, cp3, bs6, cp7⟩ S hF hS D hp K hK
       try dsimp only at hF ⊢
       obtain ⟨hf0, hf1, hf2, hf3⟩ := hF
       have s11 := hp 11 rfl
       refine d_need (small := [(26, (.int .i64 (((al).getD k (0, 0)).2)))]) ⟨look_row rfl 11 rfl s11, trivial⟩ ?_
       refine tc rfl (en_fn Tryz.call14 rfl) (cut_ok (((al).getD k (0, 0)).2) 1 30 (by omega)) ?_
       rintro _ _ ⟨rfl, rfl⟩
       exact d_closes ⟨look_row rfl 11 rfl s11, trivial⟩ 12 rfl rfl rfl hS (AgreeR.refl _) (t_sat (fun _ h => h) (hK (bs2, cp3, bs6, cp7) ⟨hf0, hf1, hf2, hf3⟩))
     · rintro ⟨bs2, cp3, bs6, cp7⟩ S hF hS D hp K hK; try dsimp only
       exact d_lv2 (lkr hp 6 rfl rfl) (lkr hp 12 rfl rfl) (lv_build (cs := [(.int .i64 (cutF (((al).getD k (0, 0)).1) 1 12)), (.int .i64 (cutF (((al).getD k (0, 0)).2) 1 30))]) (pl := [(0, 1), (1, 1)]) Tryz.underlying57 Tryz.zeroValue57 (fun _ => by simp) rfl rfl) 13 rfl rfl hS (hK (bs2, cp3, bs6, cp7) hF)
     · rintro ⟨bs2, cp3, bs6, cp7⟩ S hF hS D hp K hK
       try dsimp only at hF ⊢
       obtain ⟨hf0, hf1, hf2, hf3⟩ := hF
       have s13 := hp 13 rfl
       refine d_need (small := [(28, (.agg #[(.int .i64 (cutF (((al).getD k (0, 0)).1) 1 12)), (.int .i64 (cutF (((al).getD k (0, 0)).2) 1 30))]))]) ⟨look_row rfl 13 rfl s13, trivial⟩ ?_
       refine tm rfl (mv_buildSlice (cs := [(.int .i64 (cutF (((al).getD k (0, 0)).1) 1 12)), (.int .i64 (cutF (((al).getD k (0, 0)).2) 1 30))]) Tryz.underlying24 Tryz.sizeOf57 Tryz.zeroValue57 (by decide) rfl rfl rfl rfl) ?_
       rintro _ _ ⟨bs2, cp3, hok4, hle5, rfl, rfl⟩
       refine t_sat (fun _ h => sat_put [_] h) ?_
       exact d_closes ⟨look_row rfl 13 rfl s13, trivial⟩ 14 rfl rfl rfl hS (by exact ⟨.inl rfl, .inl rfl, .inl rfl, .inl rfl, .inl rfl, .inl rfl, .inl rfl, .inl rfl, .inl rfl, .inl rfl, .inl rfl, .inl rfl, .inl rfl, .inl rfl, .inr ⟨rfl, rfl, hS⟩, .inl rfl, .inl rfl, trivial⟩) (t_sat (fun _ h => h) (hK (bs2, cp3, bs6, cp7) ⟨(fun _ => hok4), (fun _ => hle5), hf2, hf3⟩))
     · rintro ⟨bs2, cp3, bs6, cp7⟩ S hF hS D hp K hK
       try dsimp only at hF ⊢
       obtain ⟨hf0, hf1, hf2, hf3⟩ := hF
       have s14 := hp 14 rfl
       have hok4 := hf0 s14
       have hle5 := hf1 s14
       have s0 := hp 0 rfl
       refine d_need (small := [(15, (.slice bt k ct)), (29, (.slice bs2 1 cp3))]) ⟨look_row rfl 0 rfl s0, look_row rfl 14 rfl s14, trivial⟩ ?_
       refine t_cF hS ?_
       refine t_f1 ?_
       refine t_cT s14 ?_
       refine t_f1 ?_
       refine tm rfl (mv_append (i := Tryz.t57) Tryz.underlying24 Tryz.type57 rfl rfl rfl (by decide) rfl rfl hok4 (by first | (simp; done) | (simp; omega)) (rd_sl (.tail _ (.head _))) (by simp [Value.oneCell']) (by rw [show Tryz.t57.bytes = 16 from rfl]; omega)) ?_
       rintro _ _ ⟨bs6, cp7, hok8, hle9, rfl, rfl⟩
       rw [show pairs ((al.map tskF).take k) ++ [(.int .i64 (cutF (((al).getD k (0, 0)).1) 1 12)), (.int .i64 (cutF (((al).getD k (0, 0)).2) 1 30))] = pairs (((al.map tskF).take k) ++ [(cutF (((al).getD k (0, 0)).1) 1 12, cutF (((al).getD k (0, 0)).2) 1 30)]) from pairs_snoc _ _ _]
       refine t_f1 ?_
       refine t_wT (B := Emp) s14 ?_
       refine t_f1 ?_
       exact d_closes ⟨look_row rfl 0 rfl s0, look_row rfl 14 rfl s14, trivial⟩ 15 rfl rfl rfl hS (by exact ⟨.inl rfl, .inl rfl, .inl rfl, .inl rfl, .inl rfl, .inl rfl, .inl rfl, .inl rfl, .inl rfl, .inl rfl, .inl rfl, .inl rfl, .inl rfl, .inl rfl, .inl rfl, .inr ⟨rfl, rfl, hS⟩, .inr ⟨rfl, rfl, (nf hS D (k := 16) (i := 15) rfl)⟩, trivial⟩) (t_sat (fun _ h => h) (hK (bs2, cp3, bs6, cp7) ⟨hf0, hf1, (fun _ => hok8), (fun _ => hle9)⟩))
     · rintro ⟨bs2, cp3, bs6, cp7⟩ S hF hS D hp K hK; try dsimp only
       exact d_lv1 (lkr hp 15 rfl rfl) (lv_assign rfl) 16 rfl rfl hS (hK (bs2, cp3, bs6, cp7) hF)
   · rintro ⟨bs2, cp3, bs6, cp7⟩ hF
     try dsimp only at hF ⊢
     obtain ⟨hf0, hf1, hf2, hf3⟩ := hF
     have hok4 := hf0 rfl
     have hle5 := hf1 rfl
     have hok8 := hf2 rfl
     have hle9 := hf3 rfl
     refine t_weak (E' := [(0, (.slice bb n cb)), (2, (.slice none 0 0)), (3, (.slice bs6 (k + 1) cp7)), (4, (vN k)), (12, (.bool true))]) ⟨rfl, rfl, rfl, rfl, rfl, trivial⟩ ?_
     refine q_in_n (q_then_n (hK8 _ _ (c_region ?_)))
     rw [show ((al.map tskF).take k) ++ [(cutF (((al).getD k (0, 0)).1) 1 12, cutF (((al).getD k (0, 0)).2) 1 30)] = (al.map tskF).take (k + 1) from tskF_snoc (by omega)]
     refine tp rfl (lv_move rfl) (tp rfl (lv_add (c := ((k + 1 : Nat) : Int)) rfl rfl (wr_i64_succ (by omega))) ?_)
     refine tp rfl (lv_assign rfl) (t_done (q_then_n (t_f1 (t_drop ?_))))
     exact t_weak (by exact ⟨rfl, rfl, rfl, rfl, trivial⟩) ((hK5 (k + 1, bs6, cp7) ⟨by omega, by omega, hok8, hle9⟩ (by dsimp only; omega)))
 · refine t_cut0 (E' := [(0, (.slice bb n cb)), (2, (.slice none 0 0)), (3, (.slice bt k ct)), (4, (.int .i64 ((k : Nat) : Int))), (12, (.bool false))]) ?_ (fun KK hKK => ?_)
   ·
    refine q_then_n (hK7 _ _ (c_false rfl (c_exit (q_then_x (q_then_x (q_in_x (q_then_n (hK3 _ _ (c_seq (fun K8 hK8 => c_seq (fun K9 hK9 => c_region ?_)))))))))))
    refine tp rfl (lv_move rfl) (tp rfl (lv_len Tryz.underlying24 rfl rfl) ?_)
    by_cases h10 : ((k : Nat) : Int) = 0
    · refine tp rfl (lv_eql rfl rfl (beq_iff_eq.2 h10)) (t_done (q_then_n (hK9 _ _ (c_true rfl (c_region (tp rfl (lv_move rfl) (tp rfl (lv_build (cs := [(.int .i64 1), (.int .i64 1)]) (pl := [(0, 1), (1, 1)]) Tryz.underlying57 Tryz.zeroValue57 (fun _ => by simp) rfl rfl) ?_)))))))
      refine tm rfl (mv_buildSlice (cs := [(.int .i64 1), (.int .i64 1)]) Tryz.underlying24 Tryz.sizeOf57 Tryz.zeroValue57 (by decide) rfl rfl rfl rfl) ?_
      rintro _ _ ⟨bs11, cp12, hok13, hle14, rfl, rfl⟩
      refine t_f1 ?_
      refine tm rfl (mv_append (i := Tryz.t57) Tryz.underlying24 Tryz.type57 rfl rfl rfl (by decide) rfl rfl hok13 (by first | (simp; done) | (simp; omega)) (rd_sl (.tail _ (.head _))) (by simp [Value.oneCell']) (by rw [show Tryz.t57.bytes = 16 from rfl]; omega)) ?_
      rintro _ _ ⟨bs15, cp16, hok17, hle18, rfl, rfl⟩
      rw [show pairs ((al.map tskF).take k) ++ [(.int .i64 1), (.int .i64 1)] = pairs (((al.map tskF).take k) ++ [(1, 1)]) from pairs_snoc _ _ _]
      refine tp rfl (lv_assign rfl) (t_done (q_then_n (hK8 _ _ (c_seq (fun K10 hK10 => c_region (tp rfl (lv_move rfl) (tp rfl (lv_assign rfl) (t_done (q_then_n (hK10 _ _ (c_ret ?_)))))))))))
      have htf : ((al.map tskF).take k) ++ [(1, 1)] = tasksF al := by
        unfold tasksF; rw [if_pos (by omega), show k = 0 by omega]; rfl
      rw [htf]
      refine t_f1 (t_drop ?_)
      refine q_ret rfl rfl ?_
      exact ⟨_, _, _, (by rw [← htf]; simp; omega), hok17, hle18, rfl, rfl⟩
    · refine tp rfl (lv_eql rfl rfl (beq_eq_false_iff_ne.2 h10)) (t_done (q_then_n (hK9 _ _ (c_false rfl (c_skip (q_then_n (hK8 _ _ (c_seq (fun K10 hK10 => c_region (tp rfl (lv_move rfl) (tp rfl (lv_assign rfl) ?_)))))))))))
      refine t_done (q_then_n (hK10 _ _ (c_ret ?_)))
      have htf : (al.map tskF).take k = tasksF al := by
        unfold tasksF; rw [if_neg (by omega)]; exact take_end8 (by rw [List.length_map]; omega)
      rw [htf]
      refine q_ret rfl rfl ?_
      exact ⟨_, _, _, (by rw [← htf]; simp; omega), hok, hle, rfl, rfl⟩
   · by_cases hc1A : ((k : Nat) : Int) < ((n : Nat) : Int)
     ·
      have hc1B : ¬ (((k : Nat) : Int) < 8) := fun hh => hc1 ⟨hc1A, hh⟩
      refine tp rfl (lv_move rfl) (tp rfl (lv_move rfl) (tp rfl (lv_len Tryz.underlying24 rfl rfl) (tp rfl (lv_lss rfl rfl (decide_eq_true hc1A)) (tp rfl (lv_move rfl) ?_))))
      refine t_guard rfl rfl ?_
      refine tp rfl (lv_move rfl) ?_
      refine t_guard rfl rfl ?_
      refine tp rfl (lv_lss rfl rfl (decide_eq_false hc1B)) (tp rfl (lv_pick_t rfl rfl) ?_)
      exact t_done (t_weak (by exact ⟨rfl, rfl, rfl, rfl, rfl, trivial⟩) hKK)
     ·
      refine tp rfl (lv_move rfl) (tp rfl (lv_move rfl) (tp rfl (lv_len Tryz.underlying24 rfl rfl) (tp rfl (lv_lss rfl rfl (decide_eq_false hc1A)) (tp rfl (lv_move rfl) ?_))))
      refine t_skip rfl rfl rfl ?_
      refine t_skip rfl rfl rfl ?_
      refine tp rfl (lv_pick_f rfl rfl) ?_
      exact t_done (t_weak (by exact ⟨rfl, rfl, rfl, rfl, rfl, trivial⟩) hKK)
theorem made_ok {R : List HP} {c : Cfg} {al : List (Int × Int)} {bb : Option Addr} {n cb : Nat} (hS : Sml c al) (hln : al.length = n) (hb : Rd R bb (pairs al)) (okb : SlOk bb n) :
    Ok Tryz.prog 7 [(.agg #[(.int .i64 c.bud), (.int .i64 c.slots), (.int .i64 c.act), (.int .i64 c.que), (.int .i64 c.tries), (.int .i64 c.pre), (.int .i64 c.tmo), (.int .i64 c.bak), (.int .i64 c.most), (.int .i64 c.qu)]), (.slice bb n cb)] R
      (fun v M => ∃ (e : Nat) (T : YT), YRest c al 0 (fun _ => False) 0 T ∧ v = .pointer (some ⟨e, 0, none⟩) ∧ M = YardO e T :: R) := by
 refine ok_of (N := 16) Tryz.func7 rfl rfl rfl (fun W => ?_)
 refine c_seq (fun K1 hK1 => c_region ?_)
 refine tm rfl (mv_box rfl rfl) ?_
 rintro _ _ ⟨b1, rfl, rfl⟩
 refine tp rfl (lv_assign rfl) (t_done (q_then_n (hK1 _ _ (c_seq (fun K2 hK2 => c_region (tp rfl (lv_loadAgg (cs := [(.int .i64 c.bud), (.int .i64 c.slots), (.int .i64 c.act), (.int .i64 c.que), (.int .i64 c.tries), (.int .i64 c.pre), (.int .i64 c.tmo), (.int .i64 c.bak), (.int .i64 c.most), (.int .i64 c.qu)]) Tryz.isAgg23 Tryz.sizeOf23 rfl (gives_all10 (gives_blk (.head _) rfl) (gives_blk (.head _) rfl) (gives_blk (.head _) rfl) (gives_blk (.head _) rfl) (gives_blk (.head _) rfl) (gives_blk (.head _) rfl) (gives_blk (.head _) rfl) (gives_blk (.head _) rfl) (gives_blk (.head _) rfl) (gives_blk (.head _) rfl))) (tp rfl (lv_move rfl) ?_)))))))
 refine tc rfl (en_fn Tryz.call18 rfl) (yd_new hS hln (Rd.cons hb) okb) ?_
 rintro _ _ ⟨e2, yt3, hyr4, rfl, rfl⟩
 refine tp rfl (lv_move rfl) (tp rfl (lv_extract rfl rfl) (tp rfl (lv_extract rfl rfl) (tp rfl (lv_assign rfl) (tp rfl (lv_assign rfl) (t_done (q_then_n (hK2 _ _ (c_seq (fun K3 hK3 => c_seq (fun K4 hK4 => c_region ?_))))))))))
 refine tp rfl (lv_move rfl) (tp rfl (lv_neq (r := false) rfl rfl (by decide)) ?_)
 refine t_done (q_then_n (hK4 _ _ (c_false rfl (c_skip (q_then_n (hK3 _ _ (c_seq (fun K5 hK5 => c_region (tp rfl (lv_move rfl) (tp rfl (lv_assign rfl) (t_done ?_)))))))))))
 refine q_then_n (hK5 _ _ (c_ret (t_f1 (t_drop ?_))))
 refine q_ret rfl rfl ?_
 exact ⟨_, _, hyr4, rfl, rfl⟩
set_option maxHeartbeats 4000000 in
theorem works_ok {R : List HP} {vr : Nat} (hT : Tab R) (hV : VTab vr R) :
    Ok Tryz.prog 5 [] R
      (fun v M => v = .bool true ∧ M = R) := by
 refine ok_of (N := 63) Tryz.func5 rfl rfl rfl (fun W => ?_)
 refine c_seq (fun K1 hK1 => c_region (tp rfl (lv_assign rfl) (t_done (q_then_n (hK1 _ _ (c_seq (fun K2 hK2 => c_region (tp rfl (lv_build (cs := [(.int .i64 0), (.int .i64 0), (.int .i64 0), (.int .i64 0), (.int .i64 0), (.int .i64 0), (.int .i64 0), (.int .i64 0), (.int .i64 0), (.int .i64 0)]) (pl := [(0, 1), (1, 1), (2, 1), (3, 1), (4, 1), (5, 1), (6, 1), (7, 1), (8, 1), (9, 1)]) Tryz.underlying23 Tryz.zeroValue23 (fun _ => by simp) rfl rfl) ?_))))))))
 refine tc rfl (en_fn Tryz.call8 rfl) (config_x (c := cfg0) (wide := true)) ?_
 rintro _ _ ⟨rfl, hMR⟩
 rw [hMR]; clear hMR
 refine tc rfl (en_fn Tryz.call6 rfl) (tasks_ok (n := 0) [] (by first | rfl | omega) rd_nil slok_none) ?_
 rintro _ _ ⟨bs1, cp2, n3, hnl4, hok5, hle6, rfl, rfl⟩
 refine tc rfl (en_fn Tryz.call7 rfl) (made_ok (c := cfgW cfg0) (sml_W cfg0 []) hnl4 (rd_sl (.head _)) hok5) ?_
 rintro _ _ ⟨e7, yt8, hyr9, rfl, rfl⟩
 refine tp rfl (lv_assign rfl) (t_done (q_then_n (hK2 _ _ (c_seq (fun K3 hK3 => c_seq (fun K4 hK4 => c_region (tp rfl (lv_move rfl) (tp rfl (lv_eqnil Tryz.underlying28 rfl rfl) (t_done (q_then_n (hK4 _ _ ?_)))))))))))
 refine c_false rfl (c_skip (q_then_n (hK3 _ _ (c_seq (fun K5 hK5 => c_region (tp rfl (lv_move rfl) (tp rfl (lv_build (cs := [(.int .i64 1), (.int .i64 0), (.int .i64 2), (.int .i64 3), (.int .i64 0)]) (pl := [(0, 1), (1, 1), (2, 1), (3, 1), (4, 1)]) Tryz.underlying32 Tryz.zeroValue32 (fun _ => by simp) rfl rfl) ?_)))))))
 refine tc rfl (en_fn Tryz.call13 rfl) (yd_sub (T := yt8) (sml_W cfg0 []) hyr9 0 (by decide) (by omega) (by omega) (VTab.cons hV)) ?_
 rintro _ _ ⟨yj10, hyq11, rfl, rfl⟩
 refine tp rfl (lv_move rfl) (tp rfl (lv_extract rfl rfl) (tp rfl (lv_extract rfl rfl) ?_))
 refine tm rfl (mv_alloc Tryz.zeroValue40 rfl) ?_
 rintro _ _ ⟨b12, rfl, rfl⟩
 refine ts (sv_blkAgg (news := [(.int .i64 yj10.a), (.int .i64 yj10.b), (.int .i64 yj10.c), (.int .i64 yj10.d), (.int .i64 yj10.e)]) Tryz.sizeOf40 rfl rfl rfl rfl (Nat.le_of_ble_eq_true rfl) rfl) ?_
 refine tp rfl (lv_assign rfl) (t_done (q_then_n (hK5 _ _ (c_seq (fun K6 hK6 => c_region ?_)))))
 obtain ⟨hf1, hR1⟩ := hyq11.resolve_left (fun hh => hh.2.2 (first_sub hyr9))
 refine tp rfl (lv_move rfl) (tp rfl (lv_build (cs := [(.int .i64 4), (.int .i64 0), (.int .i64 0), (.int .i64 0), (.int .i64 0)]) (pl := [(0, 1), (1, 1), (2, 1), (3, 1), (4, 1)]) Tryz.underlying32 Tryz.zeroValue32 (fun _ => by simp) rfl rfl) ?_)
 refine t_f1 ?_
 refine tc rfl (en_fn Tryz.call13 rfl) (yd_disp (T := yj10.T) (sml_W cfg0 []) hR1 (Tab.cons (Tab.cons hT))) ?_
 rintro _ _ ⟨yj13, hyq14, rfl, rfl⟩
 refine tp rfl (lv_move rfl) (tp rfl (lv_extract rfl rfl) (tp rfl (lv_extract rfl rfl) ?_))
 refine tm rfl (mv_alloc Tryz.zeroValue40 rfl) ?_
 rintro _ _ ⟨b15, rfl, rfl⟩
 refine ts (sv_blkAgg (news := [(.int .i64 yj13.a), (.int .i64 yj13.b), (.int .i64 yj13.c), (.int .i64 yj13.d), (.int .i64 yj13.e)]) Tryz.sizeOf40 rfl rfl rfl rfl (Nat.le_of_ble_eq_true rfl) rfl) ?_
 refine tp rfl (lv_assign rfl) (t_done (q_then_n (hK6 _ _ (c_seq (fun K7 hK7 => c_region ?_)))))
 obtain ⟨hf2, _, hM1⟩ := hyq14.resolve_left (fun hh => some_act hR1 (t := 0) (by decide) (.inr rfl) rfl hh.2.2)
 refine tp rfl (lv_move rfl) (tp rfl (lv_fieldAddr (o' := 3) Tryz.underlying40 rfl Tryz.sizeOf3 rfl rfl) (tp rfl (lv_load Tryz.isAgg3 rfl (gives_blk (.head _) rfl)) (tp rfl (lv_fieldAddr (o' := 4) Tryz.underlying40 rfl Tryz.sizeOf3 rfl rfl) (tp rfl (lv_load Tryz.isAgg3 rfl (gives_blk (.head _) rfl)) (tp rfl (lv_build (cs := [(.int .i64 5), (.int .i64 yj13.d), (.int .i64 yj13.e), (.int .i64 1), (.int .i64 0)]) (pl := [(0, 1), (1, 1), (2, 1), (3, 1), (4, 1)]) Tryz.underlying32 Tryz.zeroValue32 (fun _ => by simp) rfl rfl) ?_)))))
 refine t_f1 ?_
 refine tc rfl (en_fn Tryz.call13 rfl) (yd_did (T := yj13.T) (sml_W cfg0 []) hM1 (VTab.cons (VTab.cons (VTab.cons hV)))) ?_
 rintro _ _ ⟨yj16, hyq17, rfl, rfl⟩
 refine tp rfl (lv_move rfl) (tp rfl (lv_extract rfl rfl) (tp rfl (lv_extract rfl rfl) ?_))
 refine tm rfl (mv_alloc Tryz.zeroValue40 rfl) ?_
 rintro _ _ ⟨b18, rfl, rfl⟩
 refine ts (sv_blkAgg (news := [(.int .i64 yj16.a), (.int .i64 yj16.b), (.int .i64 yj16.c), (.int .i64 yj16.d), (.int .i64 yj16.e)]) Tryz.sizeOf40 rfl rfl rfl rfl (Nat.le_of_ble_eq_true rfl) rfl) ?_
 refine tp rfl (lv_assign rfl) (t_done (q_then_n (hK7 _ _ (c_seq (fun K8 hK8 => c_region ?_)))))
 obtain ⟨hf3, hR2⟩ := hyq17
 have hxm := hR2.xm
 refine tp rfl (lv_move rfl) (tp rfl (lv_build (cs := [(.int .i64 6), (.int .i64 0), (.int .i64 0), (.int .i64 0), (.int .i64 0)]) (pl := [(0, 1), (1, 1), (2, 1), (3, 1), (4, 1)]) Tryz.underlying32 Tryz.zeroValue32 (fun _ => by simp) rfl rfl) ?_)
 refine t_f1 ?_
 refine tc rfl (en_fn Tryz.call13 rfl) (yd_qry (T := yj16.T) 0 (by omega)) ?_
 rintro _ _ ⟨yj19, hyq20, rfl, rfl⟩
 refine tp rfl (lv_move rfl) (tp rfl (lv_extract rfl rfl) (tp rfl (lv_extract rfl rfl) ?_))
 refine tm rfl (mv_alloc Tryz.zeroValue40 rfl) ?_
 rintro _ _ ⟨b21, rfl, rfl⟩
 refine ts (sv_blkAgg (news := [(.int .i64 yj19.a), (.int .i64 yj19.b), (.int .i64 yj19.c), (.int .i64 yj19.d), (.int .i64 yj19.e)]) Tryz.sizeOf40 rfl rfl rfl rfl (Nat.le_of_ble_eq_true rfl) rfl) ?_
 refine tp rfl (lv_assign rfl) (t_done (q_then_n (hK8 _ _ (c_seq (fun K9 hK9 => c_region ?_)))))
 obtain ⟨hf4, hT4, hb4⟩ := hyq20
 have hend := works_end hR2 rfl
 rw [hend] at hb4
 refine tp rfl (lv_move rfl) (tp rfl (lv_eql rfl rfl (beq_iff_eq.2 hf1)) (tp rfl (lv_move rfl) ?_))
 refine t_guard rfl rfl ?_
 refine tp rfl (lv_move rfl) ?_
 refine t_guard rfl rfl ?_
 refine tp rfl (lv_eql rfl rfl (beq_iff_eq.2 hf2)) (tp rfl (lv_pick_t rfl rfl) (tp rfl (lv_move rfl) ?_))
 refine t_guard rfl rfl ?_
 refine tp rfl (lv_move rfl) ?_
 refine t_guard rfl rfl ?_
 refine tp rfl (lv_eql rfl rfl (beq_iff_eq.2 hf3)) (tp rfl (lv_pick_t rfl rfl) (tp rfl (lv_move rfl) ?_))
 refine t_guard rfl rfl ?_
 refine tp rfl (lv_move rfl) ?_
 refine t_guard rfl rfl ?_
 refine tp rfl (lv_eql rfl rfl (beq_iff_eq.2 hf4)) (tp rfl (lv_pick_t rfl rfl) (tp rfl (lv_move rfl) ?_))
 refine t_guard rfl rfl ?_
 refine tp rfl (lv_fieldAddr (o' := 1) Tryz.underlying40 rfl Tryz.sizeOf3 rfl rfl) ?_
 refine t_guard rfl rfl ?_
 refine tp rfl (lv_load Tryz.isAgg3 rfl (gives_blk (.head _) rfl)) ?_
 refine t_guard rfl rfl ?_
 refine tp rfl (lv_eql rfl rfl (beq_iff_eq.2 hb4)) (tp rfl (lv_pick_t rfl rfl) (tp rfl (lv_assign rfl) (t_done (q_then_n (hK9 _ _ (c_ret (t_drop (t_drop (t_drop (t_drop ?_))))))))))
 refine t_drop (t_drop ?_)
 refine q_ret rfl rfl ?_
 exact ⟨rfl, rfl⟩
end Go.Proofs.YtanfdikglplkaaaGreatDoor
