/- Parts Ha: own lemmas and contracts of the code that the claim reaches. -/
import Derived.Test.YtanfdikglplkaaaGreatDoorM03
import Derived.Test.YtanfdikglplkaaaGreatDoorM13
import Derived.Test.YtanfdikglplkaaaGreatDoorM07
set_option linter.unusedSimpArgs false
set_option linter.unusedVariables false
set_option maxRecDepth 100000
namespace Go.Proofs.YtanfdikglplkaaaGreatDoor
open Go Go.Proofs Sp
theorem meth_Len (v : Value) (args : Array Value) (w : World) : (callMethod (.iface 178 v) "Len" args).run Tryz.prog w = .ok (.enter 198 (#[v] ++ args)) w := by kernel_rfl
theorem meth_Less (v : Value) (args : Array Value) (w : World) : (callMethod (.iface 178 v) "Less" args).run Tryz.prog w = .ok (.enter 199 (#[v] ++ args)) w := by kernel_rfl
theorem meth_Swap (v : Value) (args : Array Value) (w : World) : (callMethod (.iface 178 v) "Swap" args).run Tryz.prog w = .ok (.enter 202 (#[v] ++ args)) w := by kernel_rfl
theorem meth_Push (v : Value) (args : Array Value) (w : World) : (callMethod (.iface 178 v) "Push" args).run Tryz.prog w = .ok (.enter 201 (#[v] ++ args)) w := by kernel_rfl
theorem meth_Pop (v : Value) (args : Array Value) (w : World) : (callMethod (.iface 178 v) "Pop" args).run Tryz.prog w = .ok (.enter 200 (#[v] ++ args)) w := by kernel_rfl
theorem rlen_ok {R : List HP} {p n : Nat} {l Kk : List Int} :
    Ok Tryz.prog 198 [(.pointer (some ⟨p, 0, none⟩))] ((RowsO p n l Kk) :: R)
      (fun v M => v = .int .i64 ((l.length : Nat) : Int) ∧ M = RowsO p n l Kk :: R) := by
 refine ok_of (N := 8) Tryz.func198 rfl rfl rfl (fun W => ?_)
 refine t_openW (fun at1 bs2 cp3 bs4 cp5 bs6 cp7 hR8 => ?_)
 have hal := hR8.ato.len
 have hkl := hR8.lk
 have hbg := hR8.big
 have hll := hR8.hi.le
 have hcl := hR8.cpl
 refine c_seq (fun K1 hK1 => c_region (tp rfl (lv_assign rfl) (t_done (q_then_n (hK1 _ _ (c_seq (fun K2 hK2 => c_region (tp rfl (lv_move rfl) (tp rfl (lv_nilCheck rfl) (tp rfl (lv_fieldAddr (o' := 0) Tryz.underlying171 rfl Tryz.sizeOf34 rfl rfl) ?_))))))))))
 refine tp rfl (lv_load Tryz.isAgg34 rfl (gives_blk (.head _) rfl)) (tp rfl (lv_len Tryz.underlying34 rfl rfl) (tp rfl (lv_assign rfl) (t_done (q_then_n (hK2 _ _ (c_ret (t_f3 (t_f3 (t_f3 (t_f3 ?_))))))))))
 refine t_shutW rfl hR8 ?_
 refine q_ret rfl rfl ?_
 exact ⟨rfl, rfl⟩
set_option maxHeartbeats 4000000 in
theorem rless_ok {R : List HP} {p n : Nat} {l Kk : List Int} (i k : Nat) (hi : i < l.length) (hk : k < l.length) :
    Ok Tryz.prog 199 [(.pointer (some ⟨p, 0, none⟩)), (.int .i64 ((i : Nat) : Int)), (.int .i64 ((k : Nat) : Int))] ((RowsO p n l Kk) :: R)
      (fun v M => v = .bool (decide (LtK Kk (l.getD i 0) (l.getD k 0))) ∧ M = RowsO p n l Kk :: R) := by
 refine ok_of (N := 60) Tryz.func199 rfl rfl rfl (fun W => ?_)
 refine t_openW (fun at1 bs2 cp3 bs4 cp5 bs6 cp7 hR8 => ?_)
 have hal := hR8.ato.len
 have hkl := hR8.lk
 have hbg := hR8.big
 have hll := hR8.hi.le
 have hcl := hR8.cpl
 have hbi := hR8.hi.bd i hi
 have hbk := hR8.hi.bd k hk
 refine c_seq (fun K1 hK1 => c_region (tp rfl (lv_assign rfl) (t_done (q_then_n (hK1 _ _ (c_seq (fun K2 hK2 => ?_)))))))
 refine c_draw (γ := Unit) (n := 16) Tryz.mixed rfl rfl (fun _ S => True) (fun _ => [(0, 9, (vP p 0)), (1, 10, (vP p 0)), (2, 11, (vP p 0)), (3, 12, (.slice bs2 l.length cp3)), (4, 13, (vN i)), (5, 14, (.pointer (some (ad bs2 i)))), (6, 15, (.int .i64 ((l).getD i 0))), (7, 16, (vP p 0)), (8, 17, (vP p 0)), (9, 18, (vP p 0)), (10, 19, (.slice bs2 l.length cp3)), (11, 20, (vN k)), (12, 21, (.pointer (some (ad bs2 k)))), (13, 22, (.int .i64 ((l).getD k 0))), (14, 7, (.int .i64 ((l).getD i 0))), (15, 8, (.int .i64 ((l).getD k 0)))]) (fun _ S => (Blk p [(.slice bs2 l.length cp3), (.slice bs4 n cp5), (.slice bs6 n cp7)] 173) :: (SlV 3 1 (.slice bs2 l.length cp3) l.length (ints .i64 l)) :: (SlV 3 1 (.slice bs4 n cp5) n (ints .i64 at1)) :: (SlV 3 1 (.slice bs6 n cp7) n (ints .i64 Kk)) :: R) (()) trivial (fun _ h => h) (fun _ _ h => h) ?_ ?_
 · refine ⟨?_, ?_, ?_, ?_, ?_, ?_, ?_, ?_, ?_, ?_, ?_, ?_, ?_, ?_, ?_, ?_, trivial⟩
   · intro _ S h s D p K k; exact d_lv1 (look_b (t := 0) rfl rfl) (lv_move rfl) 0 rfl rfl s (k () h)
   · intro _ S h s D p K k; exact d_lv1 (lkr p 0 rfl rfl) (lv_nilCheck rfl) 1 rfl rfl s (k () h)
   · intro _ S h s D p K k; exact d_lv1 (lkr p 1 rfl rfl) (lv_fieldAddr (o' := 0) Tryz.underlying171 rfl Tryz.sizeOf34 rfl rfl) 2 rfl rfl s (k () h)
   · intro _ S h s D p K k; exact d_lv1 (lkr p 2 rfl rfl) (lv_load Tryz.isAgg34 rfl (gives_blk (.head _) rfl)) 3 rfl rfl s (k () h)
   · intro _ S h s D p K k; exact d_lv1 (look_b (t := 1) rfl rfl) (lv_move rfl) 4 rfl rfl s (k () h)
   · rintro _ S hF hS D hp K hK; try dsimp only
     exact d_lv2 (lkr hp 3 rfl rfl) (lkr hp 4 rfl rfl) (lv_indexAddr (k' := i) Tryz.underlying34 Tryz.sizeOf3 rfl rfl hR8.okl (by omega) (by omega) (by omega)) 5 rfl rfl hS (hK () hF)
   · intro _ S h s D p K k; exact d_lv1 (lkr p 5 rfl rfl) (lv_load Tryz.isAgg3 rfl (gives_sl (.tail _ (.head _)) (ints_get (by omega)))) 6 rfl rfl s (k () h)
   · intro _ S h s D p K k; exact d_lv1 (look_b (t := 0) rfl rfl) (lv_move rfl) 7 rfl rfl s (k () h)
   · intro _ S h s D p K k; exact d_lv1 (lkr p 7 rfl rfl) (lv_nilCheck rfl) 8 rfl rfl s (k () h)
   · intro _ S h s D p K k; exact d_lv1 (lkr p 8 rfl rfl) (lv_fieldAddr (o' := 0) Tryz.underlying171 rfl Tryz.sizeOf34 rfl rfl) 9 rfl rfl s (k () h)
   · intro _ S h s D p K k; exact d_lv1 (lkr p 9 rfl rfl) (lv_load Tryz.isAgg34 rfl (gives_blk (.head _) rfl)) 10 rfl rfl s (k () h)
   · intro _ S h s D p K k; exact d_lv1 (look_b (t := 2) rfl rfl) (lv_move rfl) 11 rfl rfl s (k () h)
   · rintro _ S hF hS D hp K hK; try dsimp only
     exact d_lv2 (lkr hp 10 rfl rfl) (lkr hp 11 rfl rfl) (lv_indexAddr (k' := k) Tryz.underlying34 Tryz.sizeOf3 rfl rfl hR8.okl (by omega) (by omega) (by omega)) 12 rfl rfl hS (hK () hF)
   · intro _ S h s D p K k; exact d_lv1 (lkr p 12 rfl rfl) (lv_load Tryz.isAgg3 rfl (gives_sl (.tail _ (.head _)) (ints_get (by omega)))) 13 rfl rfl s (k () h)
   · intro _ S h s D p K k; exact d_lv1 (lkr p 6 rfl rfl) (lv_assign rfl) 14 rfl rfl s (k () h)
   · intro _ S h s D p K k; exact d_lv1 (lkr p 13 rfl rfl) (lv_assign rfl) 15 rfl rfl s (k () h)
 · rintro _ hF
   try dsimp only at hF ⊢
   refine t_weak (E' := [(0, (vP p 0)), (1, (vN i)), (2, (vN k)), (6, (.bool false)), (7, (.int .i64 ((l).getD i 0))), (8, (.int .i64 ((l).getD k 0)))]) ⟨rfl, rfl, rfl, rfl, rfl, rfl, trivial⟩ ?_
   refine q_then_n (hK2 _ _ (c_seq (fun K3 hK3 => ?_)))
   by_cases h9 : ((Kk).getD (((l).getD i 0).toNat) 0) < ((Kk).getD (((l).getD k 0).toNat) 0)
   · refine c_draw (γ := Unit) (n := 38) Tryz.mixed rfl rfl (fun _ S => True) (fun _ => [(0, 23, (vP p 0)), (1, 24, (vP p 0)), (2, 25, (vP p 2)), (3, 26, (.slice bs6 n cp7)), (4, 27, (.int .i64 ((l).getD i 0))), (5, 28, (.pointer (some (ad bs6 (((l).getD i 0).toNat))))), (6, 29, (.int .i64 ((Kk).getD (((l).getD i 0).toNat) 0))), (7, 30, (vP p 0)), (8, 31, (vP p 0)), (9, 32, (vP p 2)), (10, 33, (.slice bs6 n cp7)), (11, 34, (.int .i64 ((l).getD k 0))), (12, 35, (.pointer (some (ad bs6 (((l).getD k 0).toNat))))), (13, 36, (.int .i64 ((Kk).getD (((l).getD k 0).toNat) 0))), (14, 37, (.bool true)), (15, 38, (.bool true)), (16, 39, undef), (17, 40, undef), (18, 41, undef), (19, 42, undef), (20, 43, undef), (21, 44, undef), (22, 45, undef), (23, 46, undef), (24, 47, undef), (25, 48, undef), (26, 49, undef), (27, 50, undef), (28, 51, undef), (29, 52, undef), (30, 53, undef), (31, 54, undef), (32, 55, undef), (33, 56, undef), (34, 57, undef), (35, 58, undef), (36, 59, (.bool true)), (37, 6, (.bool true))]) (fun _ S => (Blk p [(.slice bs2 l.length cp3), (.slice bs4 n cp5), (.slice bs6 n cp7)] 173) :: (SlV 3 1 (.slice bs2 l.length cp3) l.length (ints .i64 l)) :: (SlV 3 1 (.slice bs4 n cp5) n (ints .i64 at1)) :: (SlV 3 1 (.slice bs6 n cp7) n (ints .i64 Kk)) :: R) (()) trivial (fun _ h => h) (fun _ _ h => h) ?_ ?_
     · refine ⟨?_, ?_, ?_, ?_, ?_, ?_, ?_, ?_, ?_, ?_, ?_, ?_, ?_, ?_, ?_, ?_, ?_, ?_, ?_, ?_, ?_, ?_, ?_, ?_, ?_, ?_, ?_, ?_, ?_, ?_, ?_, ?_, ?_, ?_, ?_, ?_, ?_, ?_, trivial⟩
       · intro _ S h s D p K k; exact d_lv1 (look_b (t := 0) rfl rfl) (lv_move rfl) 0 rfl rfl s (k () h)
       · intro _ S h s D p K k; exact d_lv1 (lkr p 0 rfl rfl) (lv_nilCheck rfl) 1 rfl rfl s (k () h)
       · intro _ S h s D p K k; exact d_lv1 (lkr p 1 rfl rfl) (lv_fieldAddr (o' := 2) Tryz.underlying171 rfl Tryz.sizeOf34 rfl rfl) 2 rfl rfl s (k () h)
       · intro _ S h s D p K k; exact d_lv1 (lkr p 2 rfl rfl) (lv_load Tryz.isAgg34 rfl (gives_blk (.head _) rfl)) 3 rfl rfl s (k () h)
       · intro _ S h s D p K k; exact d_lv1 (look_b (t := 7) rfl rfl) (lv_move rfl) 4 rfl rfl s (k () h)
       · rintro _ S hF hS D hp K hK; try dsimp only
         exact d_lv2 (lkr hp 3 rfl rfl) (lkr hp 4 rfl rfl) (lv_indexAddr (k' := ((l).getD i 0).toNat) Tryz.underlying34 Tryz.sizeOf3 rfl rfl hR8.okk (by omega) (by omega) (by omega)) 5 rfl rfl hS (hK () hF)
       · intro _ S h s D p K k; exact d_lv1 (lkr p 5 rfl rfl) (lv_load Tryz.isAgg3 rfl (gives_sl (.tail _ (.tail _ (.tail _ (.head _)))) (ints_get (by omega)))) 6 rfl rfl s (k () h)
       · intro _ S h s D p K k; exact d_lv1 (look_b (t := 0) rfl rfl) (lv_move rfl) 7 rfl rfl s (k () h)
       · intro _ S h s D p K k; exact d_lv1 (lkr p 7 rfl rfl) (lv_nilCheck rfl) 8 rfl rfl s (k () h)
       · intro _ S h s D p K k; exact d_lv1 (lkr p 8 rfl rfl) (lv_fieldAddr (o' := 2) Tryz.underlying171 rfl Tryz.sizeOf34 rfl rfl) 9 rfl rfl s (k () h)
       · intro _ S h s D p K k; exact d_lv1 (lkr p 9 rfl rfl) (lv_load Tryz.isAgg34 rfl (gives_blk (.head _) rfl)) 10 rfl rfl s (k () h)
       · intro _ S h s D p K k; exact d_lv1 (look_b (t := 8) rfl rfl) (lv_move rfl) 11 rfl rfl s (k () h)
       · rintro _ S hF hS D hp K hK; try dsimp only
         exact d_lv2 (lkr hp 10 rfl rfl) (lkr hp 11 rfl rfl) (lv_indexAddr (k' := ((l).getD k 0).toNat) Tryz.underlying34 Tryz.sizeOf3 rfl rfl hR8.okk (by omega) (by omega) (by omega)) 12 rfl rfl hS (hK () hF)
       · intro _ S h s D p K k; exact d_lv1 (lkr p 12 rfl rfl) (lv_load Tryz.isAgg3 rfl (gives_sl (.tail _ (.tail _ (.tail _ (.head _)))) (ints_get (by omega)))) 13 rfl rfl s (k () h)
       · intro _ S h s D p K k; exact d_lv2 (lkr p 6 rfl rfl) (lkr p 13 rfl rfl) (lv_lss rfl rfl (decide_eq_true h9)) 14 rfl rfl s (k () h)
       · intro _ S h s D p K k; exact d_lv1 (lkr p 14 rfl rfl) (lv_move rfl) 15 rfl rfl s (k () h)
       · intro _ S h s D p K k; exact d_sk2 (look_b (t := 0) rfl rfl) (lkr p 15 rfl rfl) rfl rfl 16 rfl rfl s (k () h)
       · intro _ S h s D p K k; exact d_sk2 (lkr p 15 rfl rfl) (lkr p 16 rfl rfl) rfl rfl 17 rfl rfl s (k () h)
       · intro _ S h s D p K k; exact d_sk2 (lkr p 15 rfl rfl) (lkr p 17 rfl rfl) rfl rfl 18 rfl rfl s (k () h)
       · intro _ S h s D p K k; exact d_sk2 (lkr p 15 rfl rfl) (lkr p 18 rfl rfl) rfl rfl 19 rfl rfl s (k () h)
       · intro _ S h s D p K k; exact d_sk2 (look_b (t := 7) rfl rfl) (lkr p 15 rfl rfl) rfl rfl 20 rfl rfl s (k () h)
       · intro _ S h s D p K k; exact d_sk3 (lkr p 15 rfl rfl) (lkr p 19 rfl rfl) (lkr p 20 rfl rfl) rfl rfl 21 rfl rfl s (k () h)
       · intro _ S h s D p K k; exact d_sk2 (lkr p 15 rfl rfl) (lkr p 21 rfl rfl) rfl rfl 22 rfl rfl s (k () h)
       · intro _ S h s D p K k; exact d_sk2 (look_b (t := 0) rfl rfl) (lkr p 15 rfl rfl) rfl rfl 23 rfl rfl s (k () h)
       · intro _ S h s D p K k; exact d_sk2 (lkr p 15 rfl rfl) (lkr p 23 rfl rfl) rfl rfl 24 rfl rfl s (k () h)
       · intro _ S h s D p K k; exact d_sk2 (lkr p 15 rfl rfl) (lkr p 24 rfl rfl) rfl rfl 25 rfl rfl s (k () h)
       · intro _ S h s D p K k; exact d_sk2 (lkr p 15 rfl rfl) (lkr p 25 rfl rfl) rfl rfl 26 rfl rfl s (k () h)
       · intro _ S h s D p K k; exact d_sk2 (look_b (t := 8) rfl rfl) (lkr p 15 rfl rfl) rfl rfl 27 rfl rfl s (k () h)
       · intro _ S h s D p K k; exact d_sk3 (lkr p 15 rfl rfl) (lkr p 26 rfl rfl) (lkr p 27 rfl rfl) rfl rfl 28 rfl rfl s (k () h)
       · intro _ S h s D p K k; exact d_sk2 (lkr p 15 rfl rfl) (lkr p 28 rfl rfl) rfl rfl 29 rfl rfl s (k () h)
       · intro _ S h s D p K k; exact d_sk3 (lkr p 15 rfl rfl) (lkr p 22 rfl rfl) (lkr p 29 rfl rfl) rfl rfl 30 rfl rfl s (k () h)
       · intro _ S h s D p K k; exact d_sk2 (lkr p 15 rfl rfl) (lkr p 30 rfl rfl) rfl rfl 31 rfl rfl s (k () h)
       · rintro _ S hF hS D hp K hK
         try dsimp only at hF ⊢
         have s31 := hp 31 rfl
         refine d_need (small := [(7, (.int .i64 ((l).getD i 0))), (54, undef)]) ⟨look_b rfl rfl, look_row rfl 31 rfl s31, trivial⟩ ?_
         refine t_skipu rfl rfl rfl ?_
         exact d_closes ⟨look_b rfl rfl, look_row rfl 31 rfl s31, trivial⟩ 32 rfl rfl rfl hS (AgreeR.refl _) (t_sat (fun _ h => h) (hK () trivial))
       · rintro _ S hF hS D hp K hK
         try dsimp only at hF ⊢
         have s31 := hp 31 rfl
         refine d_need (small := [(8, (.int .i64 ((l).getD k 0))), (54, undef)]) ⟨look_b rfl rfl, look_row rfl 31 rfl s31, trivial⟩ ?_
         refine t_skipu rfl rfl rfl ?_
         exact d_closes ⟨look_b rfl rfl, look_row rfl 31 rfl s31, trivial⟩ 33 rfl rfl rfl hS (AgreeR.refl _) (t_sat (fun _ h => h) (hK () trivial))
       · rintro _ S hF hS D hp K hK
         try dsimp only at hF ⊢
         have s31 := hp 31 rfl
         have s32 := hp 32 rfl
         have s33 := hp 33 rfl
         refine d_need (small := [(54, undef), (55, undef), (56, undef)]) ⟨look_row rfl 31 rfl s31, look_row rfl 32 rfl s32, look_row rfl 33 rfl s33, trivial⟩ ?_
         refine t_skipu rfl rfl rfl ?_
         exact d_closes ⟨look_row rfl 31 rfl s31, look_row rfl 32 rfl s32, look_row rfl 33 rfl s33, trivial⟩ 34 rfl rfl rfl hS (AgreeR.refl _) (t_sat (fun _ h => h) (hK () trivial))
       · intro _ S h s D p K k; exact d_sk3 (lkr p 15 rfl rfl) (lkr p 31 rfl rfl) (lkr p 34 rfl rfl) rfl rfl 35 rfl rfl s (k () h)
       · intro _ S h s D p K k; exact d_lv2 (lkr p 15 rfl rfl) (lkr p 35 rfl rfl) (lv_pick_t rfl rfl) 36 rfl rfl s (k () h)
       · intro _ S h s D p K k; exact d_lv1 (lkr p 36 rfl rfl) (lv_assign rfl) 37 rfl rfl s (k () h)
     · rintro _ hF
       try dsimp only at hF ⊢
       refine t_weak (E' := [(0, (vP p 0)), (1, (vN i)), (2, (vN k)), (6, (.bool true)), (7, (.int .i64 ((l).getD i 0))), (8, (.int .i64 ((l).getD k 0)))]) ⟨rfl, rfl, rfl, rfl, rfl, rfl, trivial⟩ ?_
       refine q_then_n (hK3 _ _ (c_ret (t_f3 (t_f3 (t_f3 (t_f3 ?_))))))
       refine t_shutW rfl hR8 ?_
       refine q_ret rfl rfl ?_
       refine ⟨?_, rfl⟩
       congr 1
       first | exact less_t (by assumption) | exact less_e (by assumption) (by assumption) | exact less_f (by assumption) (by assumption)
   · by_cases h10 : ((Kk).getD (((l).getD i 0).toNat) 0) = ((Kk).getD (((l).getD k 0).toNat) 0)
     · refine c_draw (γ := Unit) (n := 38) Tryz.mixed rfl rfl (fun _ S => True) (fun _ => [(0, 23, (vP p 0)), (1, 24, (vP p 0)), (2, 25, (vP p 2)), (3, 26, (.slice bs6 n cp7)), (4, 27, (.int .i64 ((l).getD i 0))), (5, 28, (.pointer (some (ad bs6 (((l).getD i 0).toNat))))), (6, 29, (.int .i64 ((Kk).getD (((l).getD i 0).toNat) 0))), (7, 30, (vP p 0)), (8, 31, (vP p 0)), (9, 32, (vP p 2)), (10, 33, (.slice bs6 n cp7)), (11, 34, (.int .i64 ((l).getD k 0))), (12, 35, (.pointer (some (ad bs6 (((l).getD k 0).toNat))))), (13, 36, (.int .i64 ((Kk).getD (((l).getD k 0).toNat) 0))), (14, 37, (.bool false)), (15, 38, (.bool false)), (16, 39, (vP p 0)), (17, 40, (vP p 0)), (18, 41, (vP p 2)), (19, 42, (.slice bs6 n cp7)), (20, 43, (.int .i64 ((l).getD i 0))), (21, 44, (.pointer (some (ad bs6 (((l).getD i 0).toNat))))), (22, 45, (.int .i64 ((Kk).getD (((l).getD i 0).toNat) 0))), (23, 46, (vP p 0)), (24, 47, (vP p 0)), (25, 48, (vP p 2)), (26, 49, (.slice bs6 n cp7)), (27, 50, (.int .i64 ((l).getD k 0))), (28, 51, (.pointer (some (ad bs6 (((l).getD k 0).toNat))))), (29, 52, (.int .i64 ((Kk).getD (((l).getD k 0).toNat) 0))), (30, 53, (.bool true)), (31, 54, (.bool true)), (32, 55, (.int .i64 ((l).getD i 0))), (33, 56, (.int .i64 ((l).getD k 0))), (34, 57, (.bool (decide (((l).getD i 0) < ((l).getD k 0))))), (35, 58, (.bool (decide (((l).getD i 0) < ((l).getD k 0))))), (36, 59, (.bool (decide (((l).getD i 0) < ((l).getD k 0))))), (37, 6, (.bool (decide (((l).getD i 0) < ((l).getD k 0)))))]) (fun _ S => (Blk p [(.slice bs2 l.length cp3), (.slice bs4 n cp5), (.slice bs6 n cp7)] 173) :: (SlV 3 1 (.slice bs2 l.length cp3) l.length (ints .i64 l)) :: (SlV 3 1 (.slice bs4 n cp5) n (ints .i64 at1)) :: (SlV 3 1 (.slice bs6 n cp7) n (ints .i64 Kk)) :: R) (()) trivial (fun _ h => h) (fun _ _ h => h) ?_ ?_
       · refine ⟨?_, ?_, ?_, ?_, ?_, ?_, ?_, ?_, ?_, ?_, ?_, ?_, ?_, ?_, ?_, ?_, ?_, ?_, ?_, ?_, ?_, ?_, ?_, ?_, ?_, ?_, ?_, ?_, ?_, ?_, ?_, ?_, ?_, ?_, ?_, ?_, ?_, ?_, trivial⟩
         · intro _ S h s D p K k; exact d_lv1 (look_b (t := 0) rfl rfl) (lv_move rfl) 0 rfl rfl s (k () h)
         · intro _ S h s D p K k; exact d_lv1 (lkr p 0 rfl rfl) (lv_nilCheck rfl) 1 rfl rfl s (k () h)
         · intro _ S h s D p K k; exact d_lv1 (lkr p 1 rfl rfl) (lv_fieldAddr (o' := 2) Tryz.underlying171 rfl Tryz.sizeOf34 rfl rfl) 2 rfl rfl s (k () h)
         · intro _ S h s D p K k; exact d_lv1 (lkr p 2 rfl rfl) (lv_load Tryz.isAgg34 rfl (gives_blk (.head _) rfl)) 3 rfl rfl s (k () h)
         · intro _ S h s D p K k; exact d_lv1 (look_b (t := 7) rfl rfl) (lv_move rfl) 4 rfl rfl s (k () h)
         · rintro _ S hF hS D hp K hK; try dsimp only
           exact d_lv2 (lkr hp 3 rfl rfl) (lkr hp 4 rfl rfl) (lv_indexAddr (k' := ((l).getD i 0).toNat) Tryz.underlying34 Tryz.sizeOf3 rfl rfl hR8.okk (by omega) (by omega) (by omega)) 5 rfl rfl hS (hK () hF)
         · intro _ S h s D p K k; exact d_lv1 (lkr p 5 rfl rfl) (lv_load Tryz.isAgg3 rfl (gives_sl (.tail _ (.tail _ (.tail _ (.head _)))) (ints_get (by omega)))) 6 rfl rfl s (k () h)
         · intro _ S h s D p K k; exact d_lv1 (look_b (t := 0) rfl rfl) (lv_move rfl) 7 rfl rfl s (k () h)
         · intro _ S h s D p K k; exact d_lv1 (lkr p 7 rfl rfl) (lv_nilCheck rfl) 8 rfl rfl s (k () h)
         · intro _ S h s D p K k; exact d_lv1 (lkr p 8 rfl rfl) (lv_fieldAddr (o' := 2) Tryz.underlying171 rfl Tryz.sizeOf34 rfl rfl) 9 rfl rfl s (k () h)
         · intro _ S h s D p K k; exact d_lv1 (lkr p 9 rfl rfl) (lv_load Tryz.isAgg34 rfl (gives_blk (.head _) rfl)) 10 rfl rfl s (k () h)
         · intro _ S h s D p K k; exact d_lv1 (look_b (t := 8) rfl rfl) (lv_move rfl) 11 rfl rfl s (k () h)
         · rintro _ S hF hS D hp K hK; try dsimp only
           exact d_lv2 (lkr hp 10 rfl rfl) (lkr hp 11 rfl rfl) (lv_indexAddr (k' := ((l).getD k 0).toNat) Tryz.underlying34 Tryz.sizeOf3 rfl rfl hR8.okk (by omega) (by omega) (by omega)) 12 rfl rfl hS (hK () hF)
         · intro _ S h s D p K k; exact d_lv1 (lkr p 12 rfl rfl) (lv_load Tryz.isAgg3 rfl (gives_sl (.tail _ (.tail _ (.tail _ (.head _)))) (ints_get (by omega)))) 13 rfl rfl s (k () h)
         · intro _ S h s D p K k; exact d_lv2 (lkr p 6 rfl rfl) (lkr p 13 rfl rfl) (lv_lss rfl rfl (decide_eq_false h9)) 14 rfl rfl s (k () h)
         · intro _ S h s D p K k; exact d_lv1 (lkr p 14 rfl rfl) (lv_move rfl) 15 rfl rfl s (k () h)
         · intro _ S h s D p K k; exact d_gd2 (look_b (t := 0) rfl rfl) (lkr p 15 rfl rfl) rfl rfl (lv_move rfl) 16 rfl rfl s (k () h)
         · intro _ S h s D p K k; exact d_gd2 (lkr p 15 rfl rfl) (lkr p 16 rfl rfl) rfl rfl (lv_nilCheck rfl) 17 rfl rfl s (k () h)
         · intro _ S h s D p K k; exact d_gd2 (lkr p 15 rfl rfl) (lkr p 17 rfl rfl) rfl rfl (lv_fieldAddr (o' := 2) Tryz.underlying171 rfl Tryz.sizeOf34 rfl rfl) 18 rfl rfl s (k () h)
         · intro _ S h s D p K k; exact d_gd2 (lkr p 15 rfl rfl) (lkr p 18 rfl rfl) rfl rfl (lv_load Tryz.isAgg34 rfl (gives_blk (.head _) rfl)) 19 rfl rfl s (k () h)
         · intro _ S h s D p K k; exact d_gd2 (look_b (t := 7) rfl rfl) (lkr p 15 rfl rfl) rfl rfl (lv_move rfl) 20 rfl rfl s (k () h)
         · rintro _ S hF hS D hp K hK; try dsimp only
           exact d_gd3 (lkr hp 15 rfl rfl) (lkr hp 19 rfl rfl) (lkr hp 20 rfl rfl) rfl rfl (lv_indexAddr (k' := ((l).getD i 0).toNat) Tryz.underlying34 Tryz.sizeOf3 rfl rfl hR8.okk (by omega) (by omega) (by omega)) 21 rfl rfl hS (hK () hF)
         · intro _ S h s D p K k; exact d_gd2 (lkr p 15 rfl rfl) (lkr p 21 rfl rfl) rfl rfl (lv_load Tryz.isAgg3 rfl (gives_sl (.tail _ (.tail _ (.tail _ (.head _)))) (ints_get (by omega)))) 22 rfl rfl s (k () h)
         · intro _ S h s D p K k; exact d_gd2 (look_b (t := 0) rfl rfl) (lkr p 15 rfl rfl) rfl rfl (lv_move rfl) 23 rfl rfl s (k () h)
         · intro _ S h s D p K k; exact d_gd2 (lkr p 15 rfl rfl) (lkr p 23 rfl rfl) rfl rfl (lv_nilCheck rfl) 24 rfl rfl s (k () h)
         · intro _ S h s D p K k; exact d_gd2 (lkr p 15 rfl rfl) (lkr p 24 rfl rfl) rfl rfl (lv_fieldAddr (o' := 2) Tryz.underlying171 rfl Tryz.sizeOf34 rfl rfl) 25 rfl rfl s (k () h)
         · intro _ S h s D p K k; exact d_gd2 (lkr p 15 rfl rfl) (lkr p 25 rfl rfl) rfl rfl (lv_load Tryz.isAgg34 rfl (gives_blk (.head _) rfl)) 26 rfl rfl s (k () h)
         · intro _ S h s D p K k; exact d_gd2 (look_b (t := 8) rfl rfl) (lkr p 15 rfl rfl) rfl rfl (lv_move rfl) 27 rfl rfl s (k () h)
         · rintro _ S hF hS D hp K hK; try dsimp only
           exact d_gd3 (lkr hp 15 rfl rfl) (lkr hp 26 rfl rfl) (lkr hp 27 rfl rfl) rfl rfl (lv_indexAddr (k' := ((l).getD k 0).toNat) Tryz.underlying34 Tryz.sizeOf3 rfl rfl hR8.okk (by omega) (by omega) (by omega)) 28 rfl rfl hS (hK () hF)
         · intro _ S h s D p K k; exact d_gd2 (lkr p 15 rfl rfl) (lkr p 28 rfl rfl) rfl rfl (lv_load Tryz.isAgg3 rfl (gives_sl (.tail _ (.tail _ (.tail _ (.head _)))) (ints_get (by omega)))) 29 rfl rfl s (k () h)
         · intro _ S h s D p K k; exact d_gd3 (lkr p 15 rfl rfl) (lkr p 22 rfl rfl) (lkr p 29 rfl rfl) rfl rfl (lv_eql rfl rfl (beq_iff_eq.2 h10)) 30 rfl rfl s (k () h)
         · intro _ S h s D p K k; exact d_gd2 (lkr p 15 rfl rfl) (lkr p 30 rfl rfl) rfl rfl (lv_move rfl) 31 rfl rfl s (k () h)
         · intro _ S h s D p K k; exact d_gd2 (look_b (t := 7) rfl rfl) (lkr p 31 rfl rfl) rfl rfl (lv_move rfl) 32 rfl rfl s (k () h)
         · intro _ S h s D p K k; exact d_gd2 (look_b (t := 8) rfl rfl) (lkr p 31 rfl rfl) rfl rfl (lv_move rfl) 33 rfl rfl s (k () h)
         · intro _ S h s D p K k; exact d_gd3 (lkr p 31 rfl rfl) (lkr p 32 rfl rfl) (lkr p 33 rfl rfl) rfl rfl (lv_lss rfl rfl rfl) 34 rfl rfl s (k () h)
         · intro _ S h s D p K k; exact d_gd3 (lkr p 15 rfl rfl) (lkr p 31 rfl rfl) (lkr p 34 rfl rfl) rfl rfl (lv_pick_t rfl rfl) 35 rfl rfl s (k () h)
         · intro _ S h s D p K k; exact d_lv2 (lkr p 15 rfl rfl) (lkr p 35 rfl rfl) (lv_pick_f rfl rfl) 36 rfl rfl s (k () h)
         · intro _ S h s D p K k; exact d_lv1 (lkr p 36 rfl rfl) (lv_assign rfl) 37 rfl rfl s (k () h)
       · rintro _ hF
         try dsimp only at hF ⊢
         refine t_weak (E' := [(0, (vP p 0)), (1, (vN i)), (2, (vN k)), (6, (.bool (decide (((l).getD i 0) < ((l).getD k 0))))), (7, (.int .i64 ((l).getD i 0))), (8, (.int .i64 ((l).getD k 0)))]) ⟨rfl, rfl, rfl, rfl, rfl, rfl, trivial⟩ ?_
         refine q_then_n (hK3 _ _ (c_ret (t_f3 (t_f3 (t_f3 (t_f3 ?_))))))
         refine t_shutW rfl hR8 ?_
         refine q_ret rfl rfl ?_
         refine ⟨?_, rfl⟩
         congr 1
         first | exact less_t (by assumption) | exact less_e (by assumption) (by assumption) | exact less_f (by assumption) (by assumption)
     · refine c_draw (γ := Unit) (n := 38) Tryz.mixed rfl rfl (fun _ S => True) (fun _ => [(0, 23, (vP p 0)), (1, 24, (vP p 0)), (2, 25, (vP p 2)), (3, 26, (.slice bs6 n cp7)), (4, 27, (.int .i64 ((l).getD i 0))), (5, 28, (.pointer (some (ad bs6 (((l).getD i 0).toNat))))), (6, 29, (.int .i64 ((Kk).getD (((l).getD i 0).toNat) 0))), (7, 30, (vP p 0)), (8, 31, (vP p 0)), (9, 32, (vP p 2)), (10, 33, (.slice bs6 n cp7)), (11, 34, (.int .i64 ((l).getD k 0))), (12, 35, (.pointer (some (ad bs6 (((l).getD k 0).toNat))))), (13, 36, (.int .i64 ((Kk).getD (((l).getD k 0).toNat) 0))), (14, 37, (.bool false)), (15, 38, (.bool false)), (16, 39, (vP p 0)), (17, 40, (vP p 0)), (18, 41, (vP p 2)), (19, 42, (.slice bs6 n cp7)), (20, 43, (.int .i64 ((l).getD i 0))), (21, 44, (.pointer (some (ad bs6 (((l).getD i 0).toNat))))), (22, 45, (.int .i64 ((Kk).getD (((l).getD i 0).toNat) 0))), (23, 46, (vP p 0)), (24, 47, (vP p 0)), (25, 48, (vP p 2)), (26, 49, (.slice bs6 n cp7)), (27, 50, (.int .i64 ((l).getD k 0))), (28, 51, (.pointer (some (ad bs6 (((l).getD k 0).toNat))))), (29, 52, (.int .i64 ((Kk).getD (((l).getD k 0).toNat) 0))), (30, 53, (.bool false)), (31, 54, (.bool false)), (32, 55, undef), (33, 56, undef), (34, 57, undef), (35, 58, (.bool false)), (36, 59, (.bool false)), (37, 6, (.bool false))]) (fun _ S => (Blk p [(.slice bs2 l.length cp3), (.slice bs4 n cp5), (.slice bs6 n cp7)] 173) :: (SlV 3 1 (.slice bs2 l.length cp3) l.length (ints .i64 l)) :: (SlV 3 1 (.slice bs4 n cp5) n (ints .i64 at1)) :: (SlV 3 1 (.slice bs6 n cp7) n (ints .i64 Kk)) :: R) (()) trivial (fun _ h => h) (fun _ _ h => h) ?_ ?_
       · refine ⟨?_, ?_, ?_, ?_, ?_, ?_, ?_, ?_, ?_, ?_, ?_, ?_, ?_, ?_, ?_, ?_, ?_, ?_, ?_, ?_, ?_, ?_, ?_, ?_, ?_, ?_, ?_, ?_, ?_, ?_, ?_, ?_, ?_, ?_, ?_, ?_, ?_, ?_, trivial⟩
         · intro _ S h s D p K k; exact d_lv1 (look_b (t := 0) rfl rfl) (lv_move rfl) 0 rfl rfl s (k () h)
         · intro _ S h s D p K k; exact d_lv1 (lkr p 0 rfl rfl) (lv_nilCheck rfl) 1 rfl rfl s (k () h)
         · intro _ S h s D p K k; exact d_lv1 (lkr p 1 rfl rfl) (lv_fieldAddr (o' := 2) Tryz.underlying171 rfl Tryz.sizeOf34 rfl rfl) 2 rfl rfl s (k () h)
         · intro _ S h s D p K k; exact d_lv1 (lkr p 2 rfl rfl) (lv_load Tryz.isAgg34 rfl (gives_blk (.head _) rfl)) 3 rfl rfl s (k () h)
         · intro _ S h s D p K k; exact d_lv1 (look_b (t := 7) rfl rfl) (lv_move rfl) 4 rfl rfl s (k () h)
         · rintro _ S hF hS D hp K hK; try dsimp only
           exact d_lv2 (lkr hp 3 rfl rfl) (lkr hp 4 rfl rfl) (lv_indexAddr (k' := ((l).getD i 0).toNat) Tryz.underlying34 Tryz.sizeOf3 rfl rfl hR8.okk (by omega) (by omega) (by omega)) 5 rfl rfl hS (hK () hF)
         · intro _ S h s D p K k; exact d_lv1 (lkr p 5 rfl rfl) (lv_load Tryz.isAgg3 rfl (gives_sl (.tail _ (.tail _ (.tail _ (.head _)))) (ints_get (by omega)))) 6 rfl rfl s (k () h)
         · intro _ S h s D p K k; exact d_lv1 (look_b (t := 0) rfl rfl) (lv_move rfl) 7 rfl rfl s (k () h)
         · intro _ S h s D p K k; exact d_lv1 (lkr p 7 rfl rfl) (lv_nilCheck rfl) 8 rfl rfl s (k () h)
         · intro _ S h s D p K k; exact d_lv1 (lkr p 8 rfl rfl) (lv_fieldAddr (o' := 2) Tryz.underlying171 rfl Tryz.sizeOf34 rfl rfl) 9 rfl rfl s (k () h)
         · intro _ S h s D p K k; exact d_lv1 (lkr p 9 rfl rfl) (lv_load Tryz.isAgg34 rfl (gives_blk (.head _) rfl)) 10 rfl rfl s (k () h)
         · intro _ S h s D p K k; exact d_lv1 (look_b (t := 8) rfl rfl) (lv_move rfl) 11 rfl rfl s (k () h)
         · rintro _ S hF hS D hp K hK; try dsimp only
           exact d_lv2 (lkr hp 10 rfl rfl) (lkr hp 11 rfl rfl) (lv_indexAddr (k' := ((l).getD k 0).toNat) Tryz.underlying34 Tryz.sizeOf3 rfl rfl hR8.okk (by omega) (by omega) (by omega)) 12 rfl rfl hS (hK () hF)
         · intro _ S h s D p K k; exact d_lv1 (lkr p 12 rfl rfl) (lv_load Tryz.isAgg3 rfl (gives_sl (.tail _ (.tail _ (.tail _ (.head _)))) (ints_get (by omega)))) 13 rfl rfl s (k () h)
         · intro _ S h s D p K k; exact d_lv2 (lkr p 6 rfl rfl) (lkr p 13 rfl rfl) (lv_lss rfl rfl (decide_eq_false h9)) 14 rfl rfl s (k () h)
         · intro _ S h s D p K k; exact d_lv1 (lkr p 14 rfl rfl) (lv_move rfl) 15 rfl rfl s (k () h)
         · intro _ S h s D p K k; exact d_gd2 (look_b (t := 0) rfl rfl) (lkr p 15 rfl rfl) rfl rfl (lv_move rfl) 16 rfl rfl s (k () h)
         · intro _ S h s D p K k; exact d_gd2 (lkr p 15 rfl rfl) (lkr p 16 rfl rfl) rfl rfl (lv_nilCheck rfl) 17 rfl rfl s (k () h)
         · intro _ S h s D p K k; exact d_gd2 (lkr p 15 rfl rfl) (lkr p 17 rfl rfl) rfl rfl (lv_fieldAddr (o' := 2) Tryz.underlying171 rfl Tryz.sizeOf34 rfl rfl) 18 rfl rfl s (k () h)
         · intro _ S h s D p K k; exact d_gd2 (lkr p 15 rfl rfl) (lkr p 18 rfl rfl) rfl rfl (lv_load Tryz.isAgg34 rfl (gives_blk (.head _) rfl)) 19 rfl rfl s (k () h)
         · intro _ S h s D p K k; exact d_gd2 (look_b (t := 7) rfl rfl) (lkr p 15 rfl rfl) rfl rfl (lv_move rfl) 20 rfl rfl s (k () h)
         · rintro _ S hF hS D hp K hK; try dsimp only
           exact d_gd3 (lkr hp 15 rfl rfl) (lkr hp 19 rfl rfl) (lkr hp 20 rfl rfl) rfl rfl (lv_indexAddr (k' := ((l).getD i 0).toNat) Tryz.underlying34 Tryz.sizeOf3 rfl rfl hR8.okk (by omega) (by omega) (by omega)) 21 rfl rfl hS (hK () hF)
         · intro _ S h s D p K k; exact d_gd2 (lkr p 15 rfl rfl) (lkr p 21 rfl rfl) rfl rfl (lv_load Tryz.isAgg3 rfl (gives_sl (.tail _ (.tail _ (.tail _ (.head _)))) (ints_get (by omega)))) 22 rfl rfl s (k () h)
         · intro _ S h s D p K k; exact d_gd2 (look_b (t := 0) rfl rfl) (lkr p 15 rfl rfl) rfl rfl (lv_move rfl) 23 rfl rfl s (k () h)
         · intro _ S h s D p K k; exact d_gd2 (lkr p 15 rfl rfl) (lkr p 23 rfl rfl) rfl rfl (lv_nilCheck rfl) 24 rfl rfl s (k () h)
         · intro _ S h s D p K k; exact d_gd2 (lkr p 15 rfl rfl) (lkr p 24 rfl rfl) rfl rfl (lv_fieldAddr (o' := 2) Tryz.underlying171 rfl Tryz.sizeOf34 rfl rfl) 25 rfl rfl s (k () h)
         · intro _ S h s D p K k; exact d_gd2 (lkr p 15 rfl rfl) (lkr p 25 rfl rfl) rfl rfl (lv_load Tryz.isAgg34 rfl (gives_blk (.head _) rfl)) 26 rfl rfl s (k () h)
         · intro _ S h s D p K k; exact d_gd2 (look_b (t := 8) rfl rfl) (lkr p 15 rfl rfl) rfl rfl (lv_move rfl) 27 rfl rfl s (k () h)
         · rintro _ S hF hS D hp K hK; try dsimp only
           exact d_gd3 (lkr hp 15 rfl rfl) (lkr hp 26 rfl rfl) (lkr hp 27 rfl rfl) rfl rfl (lv_indexAddr (k' := ((l).getD k 0).toNat) Tryz.underlying34 Tryz.sizeOf3 rfl rfl hR8.okk (by omega) (by omega) (by omega)) 28 rfl rfl hS (hK () hF)
         · intro _ S h s D p K k; exact d_gd2 (lkr p 15 rfl rfl) (lkr p 28 rfl rfl) rfl rfl (lv_load Tryz.isAgg3 rfl (gives_sl (.tail _ (.tail _ (.tail _ (.head _)))) (ints_get (by omega)))) 29 rfl rfl s (k () h)
         · intro _ S h s D p K k; exact d_gd3 (lkr p 15 rfl rfl) (lkr p 22 rfl rfl) (lkr p 29 rfl rfl) rfl rfl (lv_eql rfl rfl (beq_eq_false_iff_ne.2 h10)) 30 rfl rfl s (k () h)
         · intro _ S h s D p K k; exact d_gd2 (lkr p 15 rfl rfl) (lkr p 30 rfl rfl) rfl rfl (lv_move rfl) 31 rfl rfl s (k () h)
         · intro _ S h s D p K k; exact d_sk2 (look_b (t := 7) rfl rfl) (lkr p 31 rfl rfl) rfl rfl 32 rfl rfl s (k () h)
         · intro _ S h s D p K k; exact d_sk2 (look_b (t := 8) rfl rfl) (lkr p 31 rfl rfl) rfl rfl 33 rfl rfl s (k () h)
         · intro _ S h s D p K k; exact d_sk3 (lkr p 31 rfl rfl) (lkr p 32 rfl rfl) (lkr p 33 rfl rfl) rfl rfl 34 rfl rfl s (k () h)
         · intro _ S h s D p K k; exact d_gd3 (lkr p 15 rfl rfl) (lkr p 31 rfl rfl) (lkr p 34 rfl rfl) rfl rfl (lv_pick_f rfl rfl) 35 rfl rfl s (k () h)
         · intro _ S h s D p K k; exact d_lv2 (lkr p 15 rfl rfl) (lkr p 35 rfl rfl) (lv_pick_f rfl rfl) 36 rfl rfl s (k () h)
         · intro _ S h s D p K k; exact d_lv1 (lkr p 36 rfl rfl) (lv_assign rfl) 37 rfl rfl s (k () h)
       · rintro _ hF
         try dsimp only at hF ⊢
         refine t_weak (E' := [(0, (vP p 0)), (1, (vN i)), (2, (vN k)), (6, (.bool false)), (7, (.int .i64 ((l).getD i 0))), (8, (.int .i64 ((l).getD k 0)))]) ⟨rfl, rfl, rfl, rfl, rfl, rfl, trivial⟩ ?_
         refine q_then_n (hK3 _ _ (c_ret (t_f3 (t_f3 (t_f3 (t_f3 ?_))))))
         refine t_shutW rfl hR8 ?_
         refine q_ret rfl rfl ?_
         refine ⟨?_, rfl⟩
         congr 1
         first | exact less_t (by assumption) | exact less_e (by assumption) (by assumption) | exact less_f (by assumption) (by assumption)
set_option maxHeartbeats 8000000 in
theorem rswap_ok {R : List HP} {p n : Nat} {l Kk : List Int} (i k : Nat) (hi : i < l.length) (hk : k < l.length) :
    Ok Tryz.prog 202 [(.pointer (some ⟨p, 0, none⟩)), (.int .i64 ((i : Nat) : Int)), (.int .i64 ((k : Nat) : Int))] ((RowsO p n l Kk) :: R)
      (fun v M => v = .tuple #[] ∧ M = RowsO p n (swapL l i k) Kk :: R) := by
 refine ok_of (N := 58) Tryz.func202 rfl rfl rfl (fun W => ?_)
 refine t_openW (fun at1 bs2 cp3 bs4 cp5 bs6 cp7 hR8 => ?_)
 have hal := hR8.ato.len
 have hkl := hR8.lk
 have hbg := hR8.big
 have hll := hR8.hi.le
 have hcl := hR8.cpl
 have hbi := hR8.hi.bd i hi
 have hbk := hR8.hi.bd k hk
 have hsl := swapL_len l i k
 refine c_seq (fun K1 hK1 => ?_)
 refine c_draw (γ := Unit) (n := 28) Tryz.mixed rfl rfl (fun _ S => True) (fun _ => [(0, 6, (vP p 0)), (1, 7, (vP p 0)), (2, 8, (vP p 0)), (3, 9, (.slice bs2 l.length cp3)), (4, 10, (vN i)), (5, 11, (vP p 0)), (6, 12, (vP p 0)), (7, 13, (vP p 0)), (8, 14, (.slice bs2 l.length cp3)), (9, 15, (vN k)), (10, 16, (vP p 0)), (11, 17, (vP p 0)), (12, 18, (vP p 0)), (13, 19, (.slice bs2 l.length cp3)), (14, 20, (vN k)), (15, 21, (.pointer (some (ad bs2 k)))), (16, 22, (.int .i64 ((l).getD k 0))), (17, 23, (vP p 0)), (18, 24, (vP p 0)), (19, 25, (vP p 0)), (20, 26, (.slice bs2 l.length cp3)), (21, 27, (vN i)), (22, 28, (.pointer (some (ad bs2 i)))), (23, 29, (.int .i64 ((l).getD i 0))), (24, 30, (.pointer (some (ad bs2 i)))), (26, 31, (.pointer (some (ad bs2 k))))]) (fun _ S => (Blk p [(.slice bs2 l.length cp3), (.slice bs4 n cp5), (.slice bs6 n cp7)] 173) :: (bif S 27 then (SlV 3 1 (.slice bs2 l.length cp3) l.length (ints .i64 ((((l).set i ((l).getD k 0))).set k ((l).getD i 0)))) else (bif S 25 then (SlV 3 1 (.slice bs2 l.length cp3) l.length (ints .i64 ((l).set i ((l).getD k 0)))) else (SlV 3 1 (.slice bs2 l.length cp3) l.length (ints .i64 l)))) :: (SlV 3 1 (.slice bs4 n cp5) n (ints .i64 at1)) :: (SlV 3 1 (.slice bs6 n cp7) n (ints .i64 Kk)) :: R) (()) trivial (fun _ h => h) (fun _ _ h => h) ?_ ?_
 · refine ⟨?_, ?_, ?_, ?_, ?_, ?_, ?_, ?_, ?_, ?_, ?_, ?_, ?_, ?_, ?_, ?_, ?_, ?_, ?_, ?_, ?_, ?_, ?_, ?_, ?_, ?_, ?_, ?_, trivial⟩
   · intro _ S h s D p K k; exact d_lv1 (look_b (t := 0) rfl rfl) (lv_move rfl) 0 rfl rfl s (k () h)
   · intro _ S h s D p K k; exact d_lv1 (lkr p 0 rfl rfl) (lv_nilCheck rfl) 1 rfl rfl s (k () h)
   · intro _ S h s D p K k; exact d_lv1 (lkr p 1 rfl rfl) (lv_fieldAddr (o' := 0) Tryz.underlying171 rfl Tryz.sizeOf34 rfl rfl) 2 rfl rfl s (k () h)
   · intro _ S h s D p K k; exact d_lv1 (lkr p 2 rfl rfl) (lv_load Tryz.isAgg34 rfl (gives_blk (.head _) rfl)) 3 rfl rfl s (k () h)
   · intro _ S h s D p K k; exact d_lv1 (look_b (t := 1) rfl rfl) (lv_move rfl) 4 rfl rfl s (k () h)
   · intro _ S h s D p K k; exact d_lv1 (look_b (t := 0) rfl rfl) (lv_move rfl) 5 rfl rfl s (k () h)
   · intro _ S h s D p K k; exact d_lv1 (lkr p 5 rfl rfl) (lv_nilCheck rfl) 6 rfl rfl s (k () h)
   · intro _ S h s D p K k; exact d_lv1 (lkr p 6 rfl rfl) (lv_fieldAddr (o' := 0) Tryz.underlying171 rfl Tryz.sizeOf34 rfl rfl) 7 rfl rfl s (k () h)
   · intro _ S h s D p K k; exact d_lv1 (lkr p 7 rfl rfl) (lv_load Tryz.isAgg34 rfl (gives_blk (.head _) rfl)) 8 rfl rfl s (k () h)
   · intro _ S h s D p K k; exact d_lv1 (look_b (t := 2) rfl rfl) (lv_move rfl) 9 rfl rfl s (k () h)
   · intro _ S h s D p K k; exact d_lv1 (look_b (t := 0) rfl rfl) (lv_move rfl) 10 rfl rfl s (k () h)
   · intro _ S h s D p K k; exact d_lv1 (lkr p 10 rfl rfl) (lv_nilCheck rfl) 11 rfl rfl s (k () h)
   · intro _ S h s D p K k; exact d_lv1 (lkr p 11 rfl rfl) (lv_fieldAddr (o' := 0) Tryz.underlying171 rfl Tryz.sizeOf34 rfl rfl) 12 rfl rfl s (k () h)
   · intro _ S h s D p K k; exact d_lv1 (lkr p 12 rfl rfl) (lv_load Tryz.isAgg34 rfl (gives_blk (.head _) rfl)) 13 rfl rfl s (k () h)
   · intro _ S h s D p K k; exact d_lv1 (look_b (t := 2) rfl rfl) (lv_move rfl) 14 rfl rfl s (k () h)
   · rintro _ S hF hS D hp K hK; try dsimp only
     exact d_lv2 (lkr hp 13 rfl rfl) (lkr hp 14 rfl rfl) (lv_indexAddr (k' := k) Tryz.underlying34 Tryz.sizeOf3 rfl rfl hR8.okl (by omega) (by omega) (by omega)) 15 rfl rfl hS (hK () hF)
   · rintro _ S hF hS D hp K hK; try dsimp only
     exact d_lv1 (lkr hp 15 rfl rfl) (lv_load Tryz.isAgg3 rfl (gives_sl (mem_cF (nf hS D (k := 25) (i := 16) rfl) (mem_cF (nf hS D (k := 27) (i := 16) rfl) (.tail _ (.head _)))) (ints_get (by omega)))) 16 rfl rfl hS (hK () hF)
   · intro _ S h s D p K k; exact d_lv1 (look_b (t := 0) rfl rfl) (lv_move rfl) 17 rfl rfl s (k () h)
   · intro _ S h s D p K k; exact d_lv1 (lkr p 17 rfl rfl) (lv_nilCheck rfl) 18 rfl rfl s (k () h)
   · intro _ S h s D p K k; exact d_lv1 (lkr p 18 rfl rfl) (lv_fieldAddr (o' := 0) Tryz.underlying171 rfl Tryz.sizeOf34 rfl rfl) 19 rfl rfl s (k () h)
   · intro _ S h s D p K k; exact d_lv1 (lkr p 19 rfl rfl) (lv_load Tryz.isAgg34 rfl (gives_blk (.head _) rfl)) 20 rfl rfl s (k () h)
   · intro _ S h s D p K k; exact d_lv1 (look_b (t := 1) rfl rfl) (lv_move rfl) 21 rfl rfl s (k () h)
   · rintro _ S hF hS D hp K hK; try dsimp only
     exact d_lv2 (lkr hp 20 rfl rfl) (lkr hp 21 rfl rfl) (lv_indexAddr (k' := i) Tryz.underlying34 Tryz.sizeOf3 rfl rfl hR8.okl (by omega) (by omega) (by omega)) 22 rfl rfl hS (hK () hF)
   · rintro _ S hF hS D hp K hK; try dsimp only
     exact d_lv1 (lkr hp 22 rfl rfl) (lv_load Tryz.isAgg3 rfl (gives_sl (mem_cF (nf hS D (k := 25) (i := 23) rfl) (mem_cF (nf hS D (k := 27) (i := 23) rfl) (.tail _ (.head _)))) (ints_get (by omega)))) 23 rfl rfl hS (hK () hF)
   · rintro _ S hF hS D hp K hK; try dsimp only
     exact d_lv2 (lkr hp 3 rfl rfl) (lkr hp 4 rfl rfl) (lv_indexAddr (k' := i) Tryz.underlying34 Tryz.sizeOf3 rfl rfl hR8.okl (by omega) (by omega) (by omega)) 24 rfl rfl hS (hK () hF)
   · rintro _ S hF hS D hp K hK
     try dsimp only at hF ⊢
     have s16 := hp 16 rfl
     have s24 := hp 24 rfl
     refine d_need (small := [(22, (.int .i64 ((l).getD k 0))), (30, (.pointer (some (ad bs2 i))))]) ⟨look_row rfl 16 rfl s16, look_row rfl 24 rfl s24, trivial⟩ ?_
     refine t_f1 ?_
     refine t_cF (nf hS D (k := 27) (i := 25) rfl) ?_
     refine t_cF hS ?_
     refine ts (sv_sl Tryz.sizeOf3 rfl rfl rfl (by rw [ints_length]; omega) ints_set) ?_
     refine t_wF (A := (SlV 3 1 (.slice bs2 l.length cp3) l.length (ints .i64 ((((l).set i ((l).getD k 0))).set k ((l).getD i 0))))) (nf hS D (k := 27) (i := 25) rfl) ?_
     refine t_f1 ?_
     exact d_closes0 ⟨look_row rfl 16 rfl s16, look_row rfl 24 rfl s24, trivial⟩ rfl (t_sat (fun _ h => h) (hK () trivial))
   · rintro _ S hF hS D hp K hK; try dsimp only
     exact d_lv2 (lkr hp 8 rfl rfl) (lkr hp 9 rfl rfl) (lv_indexAddr (k' := k) Tryz.underlying34 Tryz.sizeOf3 rfl rfl hR8.okl (by omega) (by omega) (by omega)) 25 rfl rfl hS (hK () hF)
   · rintro _ S hF hS D hp K hK
     try dsimp only at hF ⊢
     have s23 := hp 23 rfl
     have s26 := hp 26 rfl
     refine d_need (small := [(29, (.int .i64 ((l).getD i 0))), (31, (.pointer (some (ad bs2 k))))]) ⟨look_row rfl 23 rfl s23, look_row rfl 25 rfl s26, trivial⟩ ?_
     refine t_f1 ?_
     refine t_cF hS ?_
     have s25 := hp 25 rfl
     refine t_cT s25 ?_
     refine ts (sv_sl Tryz.sizeOf3 rfl rfl rfl (by rw [ints_length, List.length_set]; omega) ints_set) ?_
     refine t_f1 ?_
     exact d_closes0 ⟨look_row rfl 23 rfl s23, look_row rfl 25 rfl s26, trivial⟩ rfl (t_sat (fun _ h => h) (hK () trivial))
 · rintro _ hF
   try dsimp only at hF ⊢
   refine t_weak (E' := [(0, (vP p 0)), (1, (vN i)), (2, (vN k))]) ⟨rfl, rfl, rfl, trivial⟩ ?_
   refine q_then_n (hK1 _ _ ?_)
   have hswl : (l.set i (l.getD k 0)).set k (l.getD i 0) = swapL l i k := rfl
   rw [hswl]
   have hq := hR8.hi.swap hi hk
   have hsi := hq.bd i (by omega)
   have hsk := hq.bd k (by omega)
   refine c_draw (γ := Unit) (n := 28) Tryz.mixed rfl rfl (fun _ S => True) (fun _ => [(0, 32, (vP p 0)), (1, 33, (vP p 0)), (2, 34, (vP p 1)), (3, 35, (.slice bs4 n cp5)), (4, 36, (vP p 0)), (5, 37, (vP p 0)), (6, 38, (vP p 0)), (7, 39, (.slice bs2 l.length cp3)), (8, 40, (vN i)), (9, 41, (.pointer (some (ad bs2 i)))), (10, 42, (.int .i64 ((swapL l i k).getD i 0))), (11, 43, (vP p 0)), (12, 44, (vP p 0)), (13, 45, (vP p 1)), (14, 46, (.slice bs4 n cp5)), (15, 47, (vP p 0)), (16, 48, (vP p 0)), (17, 49, (vP p 0)), (18, 50, (.slice bs2 l.length cp3)), (19, 51, (vN k)), (20, 52, (.pointer (some (ad bs2 k)))), (21, 53, (.int .i64 ((swapL l i k).getD k 0))), (22, 54, (vN i)), (23, 55, (vN k)), (24, 56, (.pointer (some (ad bs4 (((swapL l i k).getD i 0).toNat))))), (26, 57, (.pointer (some (ad bs4 (((swapL l i k).getD k 0).toNat)))))]) (fun _ S => (Blk p [(.slice bs2 l.length cp3), (.slice bs4 n cp5), (.slice bs6 n cp7)] 173) :: (SlV 3 1 (.slice bs2 l.length cp3) l.length (ints .i64 (swapL l i k))) :: (bif S 27 then (SlV 3 1 (.slice bs4 n cp5) n (ints .i64 ((((at1).set (((swapL l i k).getD i 0).toNat) ((i : Nat) : Int))).set (((swapL l i k).getD k 0).toNat) ((k : Nat) : Int)))) else (bif S 25 then (SlV 3 1 (.slice bs4 n cp5) n (ints .i64 ((at1).set (((swapL l i k).getD i 0).toNat) ((i : Nat) : Int)))) else (SlV 3 1 (.slice bs4 n cp5) n (ints .i64 at1)))) :: (SlV 3 1 (.slice bs6 n cp7) n (ints .i64 Kk)) :: R) (()) trivial (fun _ h => h) (fun _ _ h => h) ?_ ?_
   · refine ⟨?_, ?_, ?_, ?_, ?_, ?_, ?_, ?_, ?_, ?_, ?_, ?_, ?_, ?_, ?_, ?_, ?_, ?_, ?_, ?_, ?_, ?_, ?_, ?_, ?_, ?_, ?_, ?_, trivial⟩
     · intro _ S h s D p K k; exact d_lv1 (look_b (t := 0) rfl rfl) (lv_move rfl) 0 rfl rfl s (k () h)
     · intro _ S h s D p K k; exact d_lv1 (lkr p 0 rfl rfl) (lv_nilCheck rfl) 1 rfl rfl s (k () h)
     · intro _ S h s D p K k; exact d_lv1 (lkr p 1 rfl rfl) (lv_fieldAddr (o' := 1) Tryz.underlying171 rfl Tryz.sizeOf34 rfl rfl) 2 rfl rfl s (k () h)
     · intro _ S h s D p K k; exact d_lv1 (lkr p 2 rfl rfl) (lv_load Tryz.isAgg34 rfl (gives_blk (.head _) rfl)) 3 rfl rfl s (k () h)
     · intro _ S h s D p K k; exact d_lv1 (look_b (t := 0) rfl rfl) (lv_move rfl) 4 rfl rfl s (k () h)
     · intro _ S h s D p K k; exact d_lv1 (lkr p 4 rfl rfl) (lv_nilCheck rfl) 5 rfl rfl s (k () h)
     · intro _ S h s D p K k; exact d_lv1 (lkr p 5 rfl rfl) (lv_fieldAddr (o' := 0) Tryz.underlying171 rfl Tryz.sizeOf34 rfl rfl) 6 rfl rfl s (k () h)
     · intro _ S h s D p K k; exact d_lv1 (lkr p 6 rfl rfl) (lv_load Tryz.isAgg34 rfl (gives_blk (.head _) rfl)) 7 rfl rfl s (k () h)
     · intro _ S h s D p K k; exact d_lv1 (look_b (t := 1) rfl rfl) (lv_move rfl) 8 rfl rfl s (k () h)
     · rintro _ S hF hS D hp K hK; try dsimp only
       exact d_lv2 (lkr hp 7 rfl rfl) (lkr hp 8 rfl rfl) (lv_indexAddr (k' := i) Tryz.underlying34 Tryz.sizeOf3 rfl rfl hR8.okl (by omega) (by omega) (by omega)) 9 rfl rfl hS (hK () hF)
     · intro _ S h s D p K k; exact d_lv1 (lkr p 9 rfl rfl) (lv_load Tryz.isAgg3 rfl (gives_sl (.tail _ (.head _)) (ints_get (by omega)))) 10 rfl rfl s (k () h)
     · intro _ S h s D p K k; exact d_lv1 (look_b (t := 0) rfl rfl) (lv_move rfl) 11 rfl rfl s (k () h)
     · intro _ S h s D p K k; exact d_lv1 (lkr p 11 rfl rfl) (lv_nilCheck rfl) 12 rfl rfl s (k () h)
     · intro _ S h s D p K k; exact d_lv1 (lkr p 12 rfl rfl) (lv_fieldAddr (o' := 1) Tryz.underlying171 rfl Tryz.sizeOf34 rfl rfl) 13 rfl rfl s (k () h)
     · intro _ S h s D p K k; exact d_lv1 (lkr p 13 rfl rfl) (lv_load Tryz.isAgg34 rfl (gives_blk (.head _) rfl)) 14 rfl rfl s (k () h)
     · intro _ S h s D p K k; exact d_lv1 (look_b (t := 0) rfl rfl) (lv_move rfl) 15 rfl rfl s (k () h)
     · intro _ S h s D p K k; exact d_lv1 (lkr p 15 rfl rfl) (lv_nilCheck rfl) 16 rfl rfl s (k () h)
     · intro _ S h s D p K k; exact d_lv1 (lkr p 16 rfl rfl) (lv_fieldAddr (o' := 0) Tryz.underlying171 rfl Tryz.sizeOf34 rfl rfl) 17 rfl rfl s (k () h)
     · intro _ S h s D p K k; exact d_lv1 (lkr p 17 rfl rfl) (lv_load Tryz.isAgg34 rfl (gives_blk (.head _) rfl)) 18 rfl rfl s (k () h)
     · intro _ S h s D p K k; exact d_lv1 (look_b (t := 2) rfl rfl) (lv_move rfl) 19 rfl rfl s (k () h)
     · rintro _ S hF hS D hp K hK; try dsimp only
       exact d_lv2 (lkr hp 18 rfl rfl) (lkr hp 19 rfl rfl) (lv_indexAddr (k' := k) Tryz.underlying34 Tryz.sizeOf3 rfl rfl hR8.okl (by omega) (by omega) (by omega)) 20 rfl rfl hS (hK () hF)
     · intro _ S h s D p K k; exact d_lv1 (lkr p 20 rfl rfl) (lv_load Tryz.isAgg3 rfl (gives_sl (.tail _ (.head _)) (ints_get (by omega)))) 21 rfl rfl s (k () h)
     · intro _ S h s D p K k; exact d_lv1 (look_b (t := 1) rfl rfl) (lv_move rfl) 22 rfl rfl s (k () h)
     · intro _ S h s D p K k; exact d_lv1 (look_b (t := 2) rfl rfl) (lv_move rfl) 23 rfl rfl s (k () h)
     · rintro _ S hF hS D hp K hK; try dsimp only
       exact d_lv2 (lkr hp 3 rfl rfl) (lkr hp 10 rfl rfl) (lv_indexAddr (k' := ((swapL l i k).getD i 0).toNat) Tryz.underlying34 Tryz.sizeOf3 rfl rfl hR8.oka (by omega) (by omega) (by omega)) 24 rfl rfl hS (hK () hF)
     · rintro _ S hF hS D hp K hK
       try dsimp only at hF ⊢
       have s22 := hp 22 rfl
       have s24 := hp 24 rfl
       refine d_need (small := [(54, (vN i)), (56, (.pointer (some (ad bs4 (((swapL l i k).getD i 0).toNat)))))]) ⟨look_row rfl 22 rfl s22, look_row rfl 24 rfl s24, trivial⟩ ?_
       refine t_f2 ?_
       refine t_cF (nf hS D (k := 27) (i := 25) rfl) ?_
       refine t_cF hS ?_
       refine ts (sv_sl Tryz.sizeOf3 rfl rfl rfl (by rw [ints_length]; omega) ints_set) ?_
       refine t_wF (A := (SlV 3 1 (.slice bs4 n cp5) n (ints .i64 ((((at1).set (((swapL l i k).getD i 0).toNat) ((i : Nat) : Int))).set (((swapL l i k).getD k 0).toNat) ((k : Nat) : Int))))) (nf hS D (k := 27) (i := 25) rfl) ?_
       refine t_f2 (t_f2 ?_)
       exact d_closes0 ⟨look_row rfl 22 rfl s22, look_row rfl 24 rfl s24, trivial⟩ rfl (t_sat (fun _ h => h) (hK () trivial))
     · rintro _ S hF hS D hp K hK; try dsimp only
       exact d_lv2 (lkr hp 14 rfl rfl) (lkr hp 21 rfl rfl) (lv_indexAddr (k' := ((swapL l i k).getD k 0).toNat) Tryz.underlying34 Tryz.sizeOf3 rfl rfl hR8.oka (by omega) (by omega) (by omega)) 25 rfl rfl hS (hK () hF)
     · rintro _ S hF hS D hp K hK
       try dsimp only at hF ⊢
       have s23 := hp 23 rfl
       have s26 := hp 26 rfl
       refine d_need (small := [(55, (vN k)), (57, (.pointer (some (ad bs4 (((swapL l i k).getD k 0).toNat)))))]) ⟨look_row rfl 23 rfl s23, look_row rfl 25 rfl s26, trivial⟩ ?_
       refine t_f2 ?_
       refine t_cF hS ?_
       have s25 := hp 25 rfl
       refine t_cT s25 ?_
       refine ts (sv_sl Tryz.sizeOf3 rfl rfl rfl (by rw [ints_length, List.length_set]; omega) ints_set) ?_
       refine t_f2 (t_f2 ?_)
       exact d_closes0 ⟨look_row rfl 23 rfl s23, look_row rfl 25 rfl s26, trivial⟩ rfl (t_sat (fun _ h => h) (hK () trivial))
   · rintro _ hF
     try dsimp only at hF ⊢
     refine t_weak (E' := [(0, (vP p 0)), (1, (vN i)), (2, (vN k))]) ⟨rfl, rfl, rfl, trivial⟩ ?_
     refine t_f3 (t_f3 (t_f3 (t_f3 ?_)))
     refine t_shutW hsl ⟨hR8.hi.swap hi hk, hR8.ato.swap hR8.hi hi hk, hR8.lk, hR8.big, (fun hz => hR8.okl (by omega)), (by omega), hR8.oka, hR8.okk⟩ ?_
     refine q_ret0 rfl ?_
     exact ⟨rfl, rfl⟩
set_option maxHeartbeats 4000000 in
theorem rpush_ok {R : List HP} {p n : Nat} {l Kk : List Int} (x : Int) (hx : 0 ≤ x ∧ x < n) (hn : x ∉ l) :
    Ok Tryz.prog 201 [(.pointer (some ⟨p, 0, none⟩)), (.iface 3 (.int .i64 x))] ((RowsO p n l Kk) :: R)
      (fun v M => v = .tuple #[] ∧ M = RowsO p n (l ++ [x]) Kk :: R) := by
 refine ok_of (N := 28) Tryz.func201 rfl rfl rfl (fun W => ?_)
 refine t_openW (fun at1 bs2 cp3 bs4 cp5 bs6 cp7 hR8 => ?_)
 have hal := hR8.ato.len
 have hkl := hR8.lk
 have hbg := hR8.big
 have hll := hR8.hi.le
 have hcl := hR8.cpl
 have hlt : l.length + 1 ≤ n := by have := (hR8.hi.push hx hn).le; simpa using this
 refine c_seq (fun K1 hK1 => c_region (tp rfl (lv_move rfl) (tp rfl (lv_typeAssert (by intro w v; kernel_rfl) rfl) ?_)))
 refine tp rfl (lv_assign rfl) (t_done (q_then_n (hK1 _ _ (c_seq (fun K2 hK2 => ?_)))))
 refine c_draw (γ := Unit) (n := 12) Tryz.mixed rfl rfl (fun _ S => True) (fun _ => [(0, 7, (vP p 0)), (1, 8, (vP p 0)), (2, 9, (vP p 1)), (3, 10, (.slice bs4 n cp5)), (4, 11, (.int .i64 x)), (5, 12, (vP p 0)), (6, 13, (vP p 0)), (7, 14, (vP p 0)), (8, 15, (.slice bs2 l.length cp3)), (9, 16, (vN l.length)), (10, 17, (.pointer (some (ad bs4 x.toNat))))]) (fun _ S => (Blk p [(.slice bs2 l.length cp3), (.slice bs4 n cp5), (.slice bs6 n cp7)] 173) :: (SlV 3 1 (.slice bs2 l.length cp3) l.length (ints .i64 l)) :: (bif S 11 then (SlV 3 1 (.slice bs4 n cp5) n (ints .i64 ((at1).set x.toNat ((l.length : Nat) : Int)))) else (SlV 3 1 (.slice bs4 n cp5) n (ints .i64 at1))) :: (SlV 3 1 (.slice bs6 n cp7) n (ints .i64 Kk)) :: R) (()) trivial (fun _ h => h) (fun _ _ h => h) ?_ ?_
 · refine ⟨?_, ?_, ?_, ?_, ?_, ?_, ?_, ?_, ?_, ?_, ?_, ?_, trivial⟩
   · intro _ S h s D p K k; exact d_lv1 (look_b (t := 0) rfl rfl) (lv_move rfl) 0 rfl rfl s (k () h)
   · intro _ S h s D p K k; exact d_lv1 (lkr p 0 rfl rfl) (lv_nilCheck rfl) 1 rfl rfl s (k () h)
   · intro _ S h s D p K k; exact d_lv1 (lkr p 1 rfl rfl) (lv_fieldAddr (o' := 1) Tryz.underlying171 rfl Tryz.sizeOf34 rfl rfl) 2 rfl rfl s (k () h)
   · intro _ S h s D p K k; exact d_lv1 (lkr p 2 rfl rfl) (lv_load Tryz.isAgg34 rfl (gives_blk (.head _) rfl)) 3 rfl rfl s (k () h)
   · intro _ S h s D p K k; exact d_lv1 (look_b (t := 4) rfl rfl) (lv_move rfl) 4 rfl rfl s (k () h)
   · intro _ S h s D p K k; exact d_lv1 (look_b (t := 0) rfl rfl) (lv_move rfl) 5 rfl rfl s (k () h)
   · intro _ S h s D p K k; exact d_lv1 (lkr p 5 rfl rfl) (lv_nilCheck rfl) 6 rfl rfl s (k () h)
   · intro _ S h s D p K k; exact d_lv1 (lkr p 6 rfl rfl) (lv_fieldAddr (o' := 0) Tryz.underlying171 rfl Tryz.sizeOf34 rfl rfl) 7 rfl rfl s (k () h)
   · intro _ S h s D p K k; exact d_lv1 (lkr p 7 rfl rfl) (lv_load Tryz.isAgg34 rfl (gives_blk (.head _) rfl)) 8 rfl rfl s (k () h)
   · intro _ S h s D p K k; exact d_lv1 (lkr p 8 rfl rfl) (lv_len Tryz.underlying34 rfl rfl) 9 rfl rfl s (k () h)
   · rintro _ S hF hS D hp K hK; try dsimp only
     exact d_lv2 (lkr hp 3 rfl rfl) (lkr hp 4 rfl rfl) (lv_indexAddr (k' := x.toNat) Tryz.underlying34 Tryz.sizeOf3 rfl rfl hR8.oka (by omega) (by omega) (by omega)) 10 rfl rfl hS (hK () hF)
   · rintro _ S hF hS D hp K hK
     try dsimp only at hF ⊢
     have s9 := hp 9 rfl
     have s10 := hp 10 rfl
     refine d_need (small := [(16, (vN l.length)), (17, (.pointer (some (ad bs4 x.toNat))))]) ⟨look_row rfl 9 rfl s9, look_row rfl 10 rfl s10, trivial⟩ ?_
     refine t_f2 ?_
     refine t_cF hS ?_
     refine ts (sv_sl Tryz.sizeOf3 rfl rfl rfl (by rw [ints_length]; omega) ints_set) ?_
     refine t_f2 (t_f2 ?_)
     exact d_closes0 ⟨look_row rfl 9 rfl s9, look_row rfl 10 rfl s10, trivial⟩ rfl (t_sat (fun _ h => h) (hK () trivial))
 · rintro _ hF
   try dsimp only at hF ⊢
   refine t_weak (E' := [(0, (vP p 0)), (1, (.iface 3 (.int .i64 x))), (4, (.int .i64 x))]) ⟨rfl, rfl, rfl, trivial⟩ ?_
   refine q_then_n (hK2 _ _ (c_region (tp rfl (lv_move rfl) (tp rfl (lv_move rfl) (tp rfl (lv_nilCheck rfl) (tp rfl (lv_fieldAddr (o' := 0) Tryz.underlying171 rfl Tryz.sizeOf34 rfl rfl) (tp rfl (lv_load Tryz.isAgg34 rfl (gives_blk (.head _) rfl)) (tp rfl (lv_move rfl) ?_))))))))
   refine tm rfl (mv_buildSlice (cs := [(.int .i64 x)]) Tryz.underlying34 Tryz.sizeOf3 Tryz.zeroValue3 (by decide) rfl rfl rfl rfl) ?_
   rintro _ _ ⟨bs9, cp10, hok11, hle12, rfl, rfl⟩
   refine t_f2 ?_
   refine tm rfl (mv_append (i := Tryz.t3) Tryz.underlying34 Tryz.type3 rfl rfl rfl (by decide) rfl rfl hok11 (by first | (simp; done) | (simp; omega)) (rd_sl (.tail _ (.head _))) (by simp [Value.oneCell']) (by rw [show Tryz.t3.bytes = 8 from rfl]; omega)) ?_
   rintro _ _ ⟨bs13, cp14, hok15, hle16, rfl, rfl⟩
   rw [show ints .i64 l ++ [(.int .i64 x)] = ints .i64 (l ++ [x]) from ints_snoc _ _ _]
   refine tp rfl (lv_nilCheck rfl) (tp rfl (lv_fieldAddr (o' := 0) Tryz.underlying171 rfl Tryz.sizeOf34 rfl rfl) (t_f2 ?_))
   refine ts (sv_blk Tryz.sizeOf34 rfl rfl rfl (Nat.le_of_ble_eq_true rfl) rfl) ?_
   refine t_done (t_f4 (t_f4 (t_f3 (t_f3 ?_))))
   refine t_shutW (by simp) ⟨hR8.hi.push hx hn, hR8.ato.push hR8.hi hx hn, hR8.lk, hR8.big, (by simpa using hok15), (by simpa using hle16), hR8.oka, hR8.okk⟩ ?_
   refine t_f1 (t_drop ?_)
   refine q_ret0 rfl ?_
   exact ⟨rfl, rfl⟩
theorem rpop_ok {R : List HP} {p n : Nat} {l Kk : List Int} (h0 : 0 < l.length) :
    Ok Tryz.prog 200 [(.pointer (some ⟨p, 0, none⟩))] ((RowsO p n l Kk) :: R)
      (fun v M => v = .iface 3 (.int .i64 (l.getD (l.length - 1) 0)) ∧ M = RowsO p n l.dropLast Kk :: R) := by
 refine ok_of (N := 35) Tryz.func200 rfl rfl rfl (fun W => ?_)
 refine t_openW (fun at1 bs2 cp3 bs4 cp5 bs6 cp7 hR8 => ?_)
 have hal := hR8.ato.len
 have hkl := hR8.lk
 have hbg := hR8.big
 have hll := hR8.hi.le
 have hcl := hR8.cpl
 have hbl := hR8.hi.bd (l.length - 1) (by omega)
 refine c_seq (fun K1 hK1 => c_region (tp rfl (lv_assign rfl) (t_done (q_then_n (hK1 _ _ (c_seq (fun K2 hK2 => c_region (tp rfl (lv_move rfl) (tp rfl (lv_nilCheck rfl) (tp rfl (lv_fieldAddr (o' := 0) Tryz.underlying171 rfl Tryz.sizeOf34 rfl rfl) ?_))))))))))
 refine tp rfl (lv_load Tryz.isAgg34 rfl (gives_blk (.head _) rfl)) (tp rfl (lv_len Tryz.underlying34 rfl rfl) (tp rfl (lv_sub (c := ((l.length - 1 : Nat) : Int)) rfl rfl ((wr_i64 (by omega) (by omega)).trans (by omega))) ?_))
 refine tp rfl (lv_assign rfl) (t_done (q_then_n (hK2 _ _ (c_seq (fun K3 hK3 => c_region (tp rfl (lv_move rfl) (tp rfl (lv_nilCheck rfl) (tp rfl (lv_fieldAddr (o' := 0) Tryz.underlying171 rfl Tryz.sizeOf34 rfl rfl) (tp rfl (lv_load Tryz.isAgg34 rfl (gives_blk (.head _) rfl)) (tp rfl (lv_move rfl) ?_))))))))))
 refine tp rfl (lv_indexAddr (k' := l.length - 1) Tryz.underlying34 Tryz.sizeOf3 rfl rfl hR8.okl (by omega) (by omega) (by omega)) ?_
 refine tp rfl (lv_load Tryz.isAgg3 rfl (gives_sl (.tail _ (.head _)) (ints_get (by omega)))) ?_
 refine tp rfl (lv_assign rfl) (t_done (q_then_n (hK3 _ _ (c_seq (fun K4 hK4 => c_region (tp rfl (lv_move rfl) (tp rfl (lv_move rfl) (tp rfl (lv_nilCheck rfl) (tp rfl (lv_fieldAddr (o' := 0) Tryz.underlying171 rfl Tryz.sizeOf34 rfl rfl) (tp rfl (lv_load Tryz.isAgg34 rfl (gives_blk (.head _) rfl)) ?_))))))))))
 refine tp rfl (lv_move rfl) (tp rfl (lv_slice (l := 0) (h := l.length - 1) (m := cp3) (v := (.slice bs2 (l.length - 1) cp3)) Tryz.underlying34 Tryz.sizeOf3 rfl rfl rfl rfl (.inr ⟨rfl, rfl⟩) (.inl ⟨_, _, rfl, (by omega), (by omega), (by omega)⟩) (.inr ⟨rfl, rfl⟩) (by simp) (by rw [sbase_zero]; rfl)) ?_)
 refine tp rfl (lv_nilCheck rfl) (tp rfl (lv_fieldAddr (o' := 0) Tryz.underlying171 rfl Tryz.sizeOf34 rfl rfl) ?_)
 refine ts (sv_blk Tryz.sizeOf34 rfl rfl rfl (Nat.le_of_ble_eq_true rfl) rfl) ?_
 refine t_done (q_then_n (hK4 _ _ (c_seq (fun K5 hK5 => c_region (tp rfl (lv_move rfl) (tp rfl (lv_nilCheck rfl) (tp rfl (lv_fieldAddr (o' := 1) Tryz.underlying171 rfl Tryz.sizeOf34 rfl rfl) (tp rfl (lv_load Tryz.isAgg34 rfl (gives_blk (.head _) rfl)) (tp rfl (lv_move rfl) (tp rfl (lv_indexAddr (k' := ((l).getD (l.length - 1) 0).toNat) Tryz.underlying34 Tryz.sizeOf3 rfl rfl hR8.oka (by omega) (by omega) (by omega)) ?_))))))))))
 refine t_f2 ?_
 refine ts (sv_sl Tryz.sizeOf3 rfl rfl rfl (by rw [ints_length]; omega) ints_set) ?_
 refine t_done (q_then_n (hK5 _ _ (c_seq (fun K6 hK6 => c_region (tp rfl (lv_move rfl) (tp rfl (lv_makeIface (by intro w x; kernel_rfl) rfl) ?_))))))
 refine tp rfl (lv_assign rfl) (t_done (q_then_n (hK6 _ _ (c_ret (t_f2 ?_)))))
 refine t_sat (fun _ h => sat_short (k := l.length - 1) (by omega) (by omega) h) ?_
 rw [Nat.mul_one, ints_take, show l.take (l.length - 1) = l.dropLast from (List.dropLast_eq_take ..).symm]
 refine t_f3 (t_f2 (t_f2 (t_f3 ?_)))
 refine t_shutW (List.length_dropLast ..) ⟨hR8.hi.pop, hR8.ato.pop hR8.hi h0, hR8.lk, hR8.big, (fun hz => hR8.okl (by omega)), (by rw [List.length_dropLast]; omega), hR8.oka, hR8.okk⟩ ?_
 refine q_ret rfl rfl ?_
 exact ⟨rfl, rfl⟩
end Go.Proofs.YtanfdikglplkaaaGreatDoor
