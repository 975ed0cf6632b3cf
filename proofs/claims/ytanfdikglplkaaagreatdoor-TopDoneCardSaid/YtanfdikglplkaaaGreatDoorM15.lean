/- Parts Ed, Aa, Ab: own lemmas and contracts of the code that the claim reaches. -/
import Derived.Test.YtanfdikglplkaaaGreatDoorM03
import Derived.Test.YtanfdikglplkaaaGreatDoorM13
import Derived.Test.YtanfdikglplkaaaGreatDoorM04
import Derived.Test.YtanfdikglplkaaaGreatDoorM07
import Derived.Test.YtanfdikglplkaaaGreatDoorM06
set_option linter.unusedSimpArgs false
set_option linter.unusedVariables false
set_option maxRecDepth 100000
namespace Go.Proofs.YtanfdikglplkaaaGreatDoor
open Go Go.Proofs Sp
set_option maxHeartbeats 4000000 in
theorem within_ok {R : List HP} {bx : Option Addr} {cx : Nat} {xs : List Int} {a z : Int} (hx : ∀ x ∈ xs, a ≤ x ∧ x ≤ z) (lx : xs.length ≤ 100) (hr : Rd R bx (ints .i64 xs)) (okx : SlOk bx xs.length) :
    Ok Tryz.prog 67 [(.int .i64 a), (.int .i64 z), (.slice bx xs.length cx)] R
      (fun v M => v = .bool true ∧ M = R) := by
 refine ok_of (N := 24) Tryz.func67 rfl rfl rfl (fun W => ?_)
 refine c_seq (fun K1 hK1 => c_region (tp rfl (lv_assign rfl) (t_done (q_then_n (hK1 _ _ (c_seq (fun K2 hK2 => c_seq (fun K3 hK3 => c_region (tp rfl (lv_move rfl) (tp rfl (lv_len Tryz.underlying34 rfl rfl) ?_))))))))))
 refine tp rfl (lv_move rfl) (t_done (q_then_n (hK3 _ _ (c_block ?_))))
 refine c_loop (γ := (Nat)) (fun (k : Nat) => k ≤ xs.length) (fun (k : Nat) => [(0, (.int .i64 a)), (1, (.int .i64 z)), (2, (.slice bx xs.length cx)), (9, (.slice bx xs.length cx)), (10, (vN xs.length)), (11, (vN k))]) (fun (k : Nat) => R) (fun (k : Nat) => xs.length - k) (0) (Nat.zero_le _) ⟨rfl, rfl, rfl, rfl, rfl, rfl, trivial⟩ (fun _ h => h) ?_
 rintro k K4 hF hK4
 try dsimp only at hF hK4 ⊢
 have hxk : k < xs.length → a ≤ xs.getD k 0 ∧ xs.getD k 0 ≤ z := fun h => hx _ (mem_getD h)
 refine c_seq (fun K5 hK5 => c_region ?_)
 by_cases h1 : ((k : Nat) : Int) < ((xs.length : Nat) : Int)
 · refine tp rfl (lv_lss rfl rfl (decide_eq_true h1)) (t_done (q_then_n (hK5 _ _ (c_seq (fun K6 hK6 => c_true rfl (c_skip (q_then_n (hK6 _ _ (c_seq (fun K7 hK7 => c_block (c_seq (fun K8 hK8 => ?_))))))))))))
   refine c_region (tp rfl (lv_indexAddr (k' := k) Tryz.underlying34 Tryz.sizeOf3 rfl rfl okx (by omega) (by omega) (by omega)) ?_)
   refine tp rfl (lv_load Tryz.isAgg3 rfl (Rd.gives hr (ints_get (by first | omega | (simp; omega))))) ?_
   refine tp rfl (lv_assign rfl) (t_done (q_then_n (hK8 _ _ (c_seq (fun K9 hK9 => c_region (tp rfl (lv_move rfl) (tp rfl (lv_move rfl) (tp rfl (lv_lss rfl rfl (decide_eq_false (by have hxk2 := hxk (by omega); omega))) ?_))))))))
   refine tp rfl (lv_move rfl) ?_
   refine t_guard rfl rfl ?_
   refine tp rfl (lv_move rfl) ?_
   refine t_guard rfl rfl ?_
   refine tp rfl (lv_move rfl) ?_
   refine t_guard rfl rfl ?_
   refine tp rfl (lv_gtr rfl rfl (decide_eq_false (by have hxk2 := hxk (by omega); omega))) ?_
   refine tp rfl (lv_pick_f rfl rfl) (t_done (q_then_n (hK9 _ _ (c_false rfl (c_skip (q_in_n (q_then_n (hK7 _ _ (c_region (tp rfl (lv_add (c := ((k + 1 : Nat) : Int)) rfl rfl (wr_i64_succ (by omega))) ?_))))))))))
   refine tp rfl (lv_move rfl) (t_done (q_then_n ?_))
   exact t_weak (by exact ⟨rfl, rfl, rfl, rfl, rfl, rfl, trivial⟩) ((hK4 (k + 1) (by omega) (by omega)))
 · refine tp rfl (lv_lss rfl rfl (decide_eq_false h1)) (t_done (q_then_n (hK5 _ _ (c_seq (fun K6 hK6 => c_false rfl (c_exit (q_then_x (q_then_x (q_in_x (q_then_n (hK2 _ _ ?_)))))))))))
   refine c_seq (fun K7 hK7 => c_region (tp rfl (lv_assign rfl) (t_done (q_then_n (hK7 _ _ (c_ret ?_))))))
   refine q_ret rfl rfl ?_
   exact ⟨rfl, rfl⟩
theorem told_ok {R : List HP} :
    Ok Tryz.prog 68 [(.bool true)] R
      (fun v M => v = .int .i64 0 ∧ M = R) := by
 refine ok_of (N := 5) Tryz.func68 rfl rfl rfl (fun W => ?_)
 refine c_seq (fun K1 hK1 => c_region (tp rfl (lv_assign rfl) (t_done (q_then_n (hK1 _ _ (c_seq (fun K2 hK2 => c_seq (fun K3 hK3 => c_region (tp rfl (lv_move rfl) (tp rfl (lv_not (c := false) rfl rfl) ?_))))))))))
 refine t_done (q_then_n (hK3 _ _ (c_false rfl (c_skip (q_then_n (hK2 _ _ (c_seq (fun K4 hK4 => c_region (tp rfl (lv_assign rfl) (t_done (q_then_n (hK4 _ _ ?_))))))))))))
 refine c_ret ?_
 refine q_ret rfl rfl ?_
 exact ⟨rfl, rfl⟩
set_option maxHeartbeats 4000000 in
theorem config_ok {R : List HP} {c : Cfg} (hc : CfgOk c) :
    Ok Tryz.prog 33 [(.agg #[(.int .i64 c.bud), (.int .i64 c.slots), (.int .i64 c.act), (.int .i64 c.que), (.int .i64 c.tries), (.int .i64 c.pre), (.int .i64 c.tmo), (.int .i64 c.bak), (.int .i64 c.most), (.int .i64 c.qu)])] R
      (fun v M => v = .int .i64 0 ∧ M = R) := by
 refine ok_of (N := 36) Tryz.func33 rfl rfl rfl (fun W => ?_)
 have hbud := hc.bud
 have hslots := hc.slots
 have hact := hc.act
 have hque := hc.que
 have htries := hc.tries
 have hpre := hc.pre
 have htmo := hc.tmo
 have hbak := hc.bak
 have hmost := hc.most
 have hqu := hc.qu
 refine c_seq (fun K1 hK1 => c_region ?_)
 refine tm rfl (mv_box rfl rfl) ?_
 rintro _ _ ⟨b1, rfl, rfl⟩
 refine tp rfl (lv_assign rfl) (t_done (q_then_n (hK1 _ _ (c_seq (fun K2 hK2 => c_region (tp rfl (lv_fieldAddr (o' := 0) Tryz.underlying23 rfl Tryz.sizeOf3 rfl rfl) (tp rfl (lv_load Tryz.isAgg3 rfl (gives_blk (.head _) rfl)) (tp rfl (lv_fieldAddr (o' := 2) Tryz.underlying23 rfl Tryz.sizeOf3 rfl rfl) (tp rfl (lv_load Tryz.isAgg3 rfl (gives_blk (.head _) rfl)) (tp rfl (lv_fieldAddr (o' := 4) Tryz.underlying23 rfl Tryz.sizeOf3 rfl rfl) ?_))))))))))
 refine tp rfl (lv_load Tryz.isAgg3 rfl (gives_blk (.head _) rfl)) (tp rfl (lv_fieldAddr (o' := 6) Tryz.underlying23 rfl Tryz.sizeOf3 rfl rfl) (tp rfl (lv_load Tryz.isAgg3 rfl (gives_blk (.head _) rfl)) (tp rfl (lv_fieldAddr (o' := 7) Tryz.underlying23 rfl Tryz.sizeOf3 rfl rfl) (tp rfl (lv_load Tryz.isAgg3 rfl (gives_blk (.head _) rfl)) (tp rfl (lv_fieldAddr (o' := 8) Tryz.underlying23 rfl Tryz.sizeOf3 rfl rfl) (tp rfl (lv_load Tryz.isAgg3 rfl (gives_blk (.head _) rfl)) (tp rfl (lv_fieldAddr (o' := 9) Tryz.underlying23 rfl Tryz.sizeOf3 rfl rfl) (tp rfl (lv_load Tryz.isAgg3 rfl (gives_blk (.head _) rfl)) ?_))))))))
 refine tm rfl (mv_buildSlice (cs := [(.int .i64 c.bud), (.int .i64 c.act), (.int .i64 c.tries), (.int .i64 c.tmo), (.int .i64 c.bak), (.int .i64 c.most), (.int .i64 c.qu)]) Tryz.underlying34 Tryz.sizeOf3 Tryz.zeroValue3 (by decide) rfl rfl rfl rfl) ?_
 rintro _ _ ⟨bs2, cp3, hok4, hle5, rfl, rfl⟩
 refine tc rfl (en_fn Tryz.call67 rfl) (within_ok (xs := [c.bud, c.act, c.tries, c.tmo, c.bak, c.most, c.qu]) (a := 1) (z := 1048576) (by intro y hy; simp at hy; omega) (Nat.le_of_ble_eq_true rfl) (rd_sl (.head _)) hok4) ?_
 rintro _ _ ⟨rfl, rfl⟩
 refine tp rfl (lv_assign rfl) (t_done (q_then_n (hK2 _ _ (c_seq (fun K3 hK3 => c_region (tp rfl (lv_move rfl) (tp rfl (lv_move rfl) ?_)))))))
 refine t_guard rfl rfl ?_
 refine tp rfl (lv_fieldAddr (o' := 3) Tryz.underlying23 rfl Tryz.sizeOf3 rfl rfl) ?_
 refine t_guard rfl rfl ?_
 refine tp rfl (lv_load Tryz.isAgg3 rfl (gives_blk (.tail _ (.head _)) rfl)) ?_
 refine t_guard rfl rfl ?_
 refine tp rfl (lv_fieldAddr (o' := 5) Tryz.underlying23 rfl Tryz.sizeOf3 rfl rfl) ?_
 refine t_guard rfl rfl ?_
 refine tp rfl (lv_load Tryz.isAgg3 rfl (gives_blk (.tail _ (.head _)) rfl)) ?_
 refine t_guard rfl rfl ?_
 refine tm rfl (mv_buildSlice (cs := [(.int .i64 c.que), (.int .i64 c.pre)]) Tryz.underlying34 Tryz.sizeOf3 Tryz.zeroValue3 (by decide) rfl rfl rfl rfl) ?_
 rintro _ _ ⟨bs6, cp7, hok8, hle9, rfl, rfl⟩
 refine t_guard rfl rfl ?_
 refine tc rfl (en_fn Tryz.call67 rfl) (within_ok (xs := [c.que, c.pre]) (a := 0) (z := 1048576) (by intro y hy; simp at hy; omega) (Nat.le_of_ble_eq_true rfl) (rd_sl (.head _)) hok8) ?_
 rintro _ _ ⟨rfl, rfl⟩
 refine tp rfl (lv_pick_t rfl rfl) (tp rfl (lv_move rfl) ?_)
 refine t_guard rfl rfl ?_
 refine tp rfl (lv_fieldAddr (o' := 1) Tryz.underlying23 rfl Tryz.sizeOf3 rfl rfl) ?_
 refine t_guard rfl rfl ?_
 refine tp rfl (lv_load Tryz.isAgg3 rfl (gives_blk (.tail _ (.tail _ (.head _))) rfl)) ?_
 refine t_guard rfl rfl ?_
 refine tm rfl (mv_buildSlice (cs := [(.int .i64 c.slots)]) Tryz.underlying34 Tryz.sizeOf3 Tryz.zeroValue3 (by decide) rfl rfl rfl rfl) ?_
 rintro _ _ ⟨bs10, cp11, hok12, hle13, rfl, rfl⟩
 refine t_guard rfl rfl ?_
 refine tc rfl (en_fn Tryz.call67 rfl) (within_ok (xs := [c.slots]) (a := 1) (z := 16) (by intro y hy; simp at hy; omega) (Nat.le_of_ble_eq_true rfl) (rd_sl (.head _)) hok12) ?_
 rintro _ _ ⟨rfl, rfl⟩
 refine tp rfl (lv_pick_t rfl rfl) ?_
 refine tc rfl (en_fn Tryz.call68 rfl) (told_ok) ?_
 rintro _ _ ⟨rfl, rfl⟩
 refine tp rfl (lv_assign rfl) (t_done (q_then_n (hK3 _ _ (c_ret (t_drop (t_drop (t_drop (t_drop ?_))))))))
 refine q_ret rfl rfl ?_
 exact ⟨rfl, rfl⟩
theorem ctask_ok {R : List HP} {m q : Int} (h : (1 ≤ m ∧ m ≤ 1048576) ∧ 1 ≤ q ∧ q ≤ 1048576) :
    Ok Tryz.prog 40 [(.agg #[(.int .i64 m), (.int .i64 q)])] R
      (fun v M => v = .int .i64 0 ∧ M = R) := by
 refine ok_of (N := 10) Tryz.func40 rfl rfl rfl (fun W => ?_)
 refine c_seq (fun K1 hK1 => c_region ?_)
 refine tm rfl (mv_box rfl rfl) ?_
 rintro _ _ ⟨b1, rfl, rfl⟩
 refine tp rfl (lv_assign rfl) (t_done (q_then_n (hK1 _ _ (c_seq (fun K2 hK2 => c_region (tp rfl (lv_fieldAddr (o' := 0) Tryz.underlying57 rfl Tryz.sizeOf3 rfl rfl) (tp rfl (lv_load Tryz.isAgg3 rfl (gives_blk (.head _) rfl)) (tp rfl (lv_fieldAddr (o' := 1) Tryz.underlying57 rfl Tryz.sizeOf3 rfl rfl) (tp rfl (lv_load Tryz.isAgg3 rfl (gives_blk (.head _) rfl)) ?_)))))))))
 refine tm rfl (mv_buildSlice (cs := [(.int .i64 m), (.int .i64 q)]) Tryz.underlying34 Tryz.sizeOf3 Tryz.zeroValue3 (by decide) rfl rfl rfl rfl) ?_
 rintro _ _ ⟨bs2, cp3, hok4, hle5, rfl, rfl⟩
 refine tc rfl (en_fn Tryz.call67 rfl) (within_ok (xs := [m, q]) (a := 1) (z := 1048576) (by intro y hy; simp at hy; omega) (Nat.le_of_ble_eq_true rfl) (rd_sl (.head _)) hok4) ?_
 rintro _ _ ⟨rfl, rfl⟩
 refine tc rfl (en_fn Tryz.call68 rfl) (told_ok) ?_
 rintro _ _ ⟨rfl, rfl⟩
 refine tp rfl (lv_assign rfl) (t_done (q_then_n (hK2 _ _ (c_ret (t_drop (t_drop ?_))))))
 refine q_ret rfl rfl ?_
 exact ⟨rfl, rfl⟩
end Go.Proofs.YtanfdikglplkaaaGreatDoor
set_option maxRecDepth 100000
namespace Go.Proofs.YtanfdikglplkaaaGreatDoor
open Go Go.Proofs Sp
set_option maxHeartbeats 4000000 in
theorem radd0_ok {R : List HP} {p : Nat} {A : Int} {bl : Option Addr} {cl : Nat} {u1 u2 : Value} {l : List Int} (x : Int) (okl : SlOk bl l.length) (hl : l.length ≤ 1000000) :
    Ok Tryz.prog 74 [(.pointer (some ⟨p, 0, none⟩)), (.int .i64 x)] ((Blk p [(.int .i64 A), (.slice bl l.length cl), u1, u2] 136) :: (SlV 3 1 (.slice bl l.length cl) l.length (ints .i64 l)) :: R)
      (fun v M => ∃ bs cp, SlOk bs (bif !decide ((l.length : Int) ≥ A) then l ++ [x] else l).length ∧ (bif !decide ((l.length : Int) ≥ A) then l ++ [x] else l).length ≤ cp ∧ v = .bool (!decide ((l.length : Int) ≥ A)) ∧ M = Blk p [.int .i64 A, .slice bs (bif !decide ((l.length : Int) ≥ A) then l ++ [x] else l).length cp, u1, u2] 136 :: SlV 3 1 (.slice bs (bif !decide ((l.length : Int) ≥ A) then l ++ [x] else l).length cp) (bif !decide ((l.length : Int) ≥ A) then l ++ [x] else l).length (ints .i64 (bif !decide ((l.length : Int) ≥ A) then l ++ [x] else l)) :: R) := by
 refine ok_of (N := 25) Tryz.func74 rfl rfl rfl (fun W => ?_)
 refine t_f1 ?_
 refine t_learn (fun _ h => (slv_facts h).2.1) (fun hcl => ?_)
 refine t_f1 (c_seq (fun K1 hK1 => c_region (tp rfl (lv_assign rfl) (t_done (q_then_n (hK1 _ _ (c_seq (fun K2 hK2 => c_seq (fun K3 hK3 => ?_)))))))))
 by_cases h1 : ((l.length : Nat) : Int) ≥ A
 · refine c_draw (γ := Unit) (n := 10) Tryz.mixed rfl rfl (fun _ S => True) (fun _ => [(0, 5, (vP p 0)), (1, 6, (vP p 0)), (2, 7, (vP p 1)), (3, 8, (.slice bl l.length cl)), (4, 9, (vN l.length)), (5, 10, (vP p 0)), (6, 11, (vP p 0)), (7, 12, (vP p 0)), (8, 13, (.int .i64 A)), (9, 14, (.bool true))]) (fun _ S => (Blk p [(.int .i64 A), (.slice bl l.length cl), u1, u2] 136) :: (SlV 3 1 (.slice bl l.length cl) l.length (ints .i64 l)) :: R) (()) trivial (fun _ h => h) (fun _ _ h => h) ?_ ?_
   · refine ⟨?_, ?_, ?_, ?_, ?_, ?_, ?_, ?_, ?_, ?_, trivial⟩
     · intro _ S h s D p K k; exact d_lv1 (look_b (t := 0) rfl rfl) (lv_move rfl) 0 rfl rfl s (k () h)
     · intro _ S h s D p K k; exact d_lv1 (lkr p 0 rfl rfl) (lv_nilCheck rfl) 1 rfl rfl s (k () h)
     · intro _ S h s D p K k; exact d_lv1 (lkr p 1 rfl rfl) (lv_fieldAddr (o' := 1) Tryz.underlying134 rfl Tryz.sizeOf34 rfl rfl) 2 rfl rfl s (k () h)
     · intro _ S h s D p K k; exact d_lv1 (lkr p 2 rfl rfl) (lv_load Tryz.isAgg34 rfl (gives_blk (.head _) rfl)) 3 rfl rfl s (k () h)
     · intro _ S h s D p K k; exact d_lv1 (lkr p 3 rfl rfl) (lv_len Tryz.underlying34 rfl rfl) 4 rfl rfl s (k () h)
     · intro _ S h s D p K k; exact d_lv1 (look_b (t := 0) rfl rfl) (lv_move rfl) 5 rfl rfl s (k () h)
     · intro _ S h s D p K k; exact d_lv1 (lkr p 5 rfl rfl) (lv_nilCheck rfl) 6 rfl rfl s (k () h)
     · intro _ S h s D p K k; exact d_lv1 (lkr p 6 rfl rfl) (lv_fieldAddr (o' := 0) Tryz.underlying134 rfl Tryz.sizeOf3 rfl rfl) 7 rfl rfl s (k () h)
     · intro _ S h s D p K k; exact d_lv1 (lkr p 7 rfl rfl) (lv_load Tryz.isAgg3 rfl (gives_blk (.head _) rfl)) 8 rfl rfl s (k () h)
     · intro _ S h s D p K k; exact d_lv2 (lkr p 4 rfl rfl) (lkr p 8 rfl rfl) (lv_geq rfl rfl (decide_eq_true h1)) 9 rfl rfl s (k () h)
   · rintro _ hF
     try dsimp only at hF ⊢
     refine t_weak (E' := [(0, (vP p 0)), (1, (.int .i64 x)), (4, (.bool false)), (14, (.bool true))]) ⟨rfl, rfl, rfl, rfl, trivial⟩ ?_
     refine q_then_n (hK3 _ _ (c_true rfl (c_seq (fun K4 hK4 => c_region (tp rfl (lv_assign rfl) (t_done (q_then_n (hK4 _ _ (c_ret ?_)))))))))
     refine q_then_r ?_
     refine q_ret rfl rfl ?_
     rw [show decide ((l.length : Int) ≥ A) = true from (decide_eq_true h1)]
     exact ⟨_, _, okl, hcl, rfl, rfl⟩
 · refine c_draw (γ := Unit) (n := 10) Tryz.mixed rfl rfl (fun _ S => True) (fun _ => [(0, 5, (vP p 0)), (1, 6, (vP p 0)), (2, 7, (vP p 1)), (3, 8, (.slice bl l.length cl)), (4, 9, (vN l.length)), (5, 10, (vP p 0)), (6, 11, (vP p 0)), (7, 12, (vP p 0)), (8, 13, (.int .i64 A)), (9, 14, (.bool false))]) (fun _ S => (Blk p [(.int .i64 A), (.slice bl l.length cl), u1, u2] 136) :: (SlV 3 1 (.slice bl l.length cl) l.length (ints .i64 l)) :: R) (()) trivial (fun _ h => h) (fun _ _ h => h) ?_ ?_
   · refine ⟨?_, ?_, ?_, ?_, ?_, ?_, ?_, ?_, ?_, ?_, trivial⟩
     · intro _ S h s D p K k; exact d_lv1 (look_b (t := 0) rfl rfl) (lv_move rfl) 0 rfl rfl s (k () h)
     · intro _ S h s D p K k; exact d_lv1 (lkr p 0 rfl rfl) (lv_nilCheck rfl) 1 rfl rfl s (k () h)
     · intro _ S h s D p K k; exact d_lv1 (lkr p 1 rfl rfl) (lv_fieldAddr (o' := 1) Tryz.underlying134 rfl Tryz.sizeOf34 rfl rfl) 2 rfl rfl s (k () h)
     · intro _ S h s D p K k; exact d_lv1 (lkr p 2 rfl rfl) (lv_load Tryz.isAgg34 rfl (gives_blk (.head _) rfl)) 3 rfl rfl s (k () h)
     · intro _ S h s D p K k; exact d_lv1 (lkr p 3 rfl rfl) (lv_len Tryz.underlying34 rfl rfl) 4 rfl rfl s (k () h)
     · intro _ S h s D p K k; exact d_lv1 (look_b (t := 0) rfl rfl) (lv_move rfl) 5 rfl rfl s (k () h)
     · intro _ S h s D p K k; exact d_lv1 (lkr p 5 rfl rfl) (lv_nilCheck rfl) 6 rfl rfl s (k () h)
     · intro _ S h s D p K k; exact d_lv1 (lkr p 6 rfl rfl) (lv_fieldAddr (o' := 0) Tryz.underlying134 rfl Tryz.sizeOf3 rfl rfl) 7 rfl rfl s (k () h)
     · intro _ S h s D p K k; exact d_lv1 (lkr p 7 rfl rfl) (lv_load Tryz.isAgg3 rfl (gives_blk (.head _) rfl)) 8 rfl rfl s (k () h)
     · intro _ S h s D p K k; exact d_lv2 (lkr p 4 rfl rfl) (lkr p 8 rfl rfl) (lv_geq rfl rfl (decide_eq_false h1)) 9 rfl rfl s (k () h)
   · rintro _ hF
     try dsimp only at hF ⊢
     refine t_weak (E' := [(0, (vP p 0)), (1, (.int .i64 x)), (4, (.bool false)), (14, (.bool false))]) ⟨rfl, rfl, rfl, rfl, trivial⟩ ?_
     refine q_then_n (hK3 _ _ (c_false rfl (c_skip (q_then_n (hK2 _ _ (c_seq (fun K4 hK4 => c_region (tp rfl (lv_move rfl) (tp rfl (lv_move rfl) (tp rfl (lv_nilCheck rfl) (tp rfl (lv_fieldAddr (o' := 1) Tryz.underlying134 rfl Tryz.sizeOf34 rfl rfl) ?_)))))))))))
     refine tp rfl (lv_load Tryz.isAgg34 rfl (gives_blk (.head _) rfl)) (tp rfl (lv_move rfl) ?_)
     refine tm rfl (mv_buildSlice (cs := [(.int .i64 x)]) Tryz.underlying34 Tryz.sizeOf3 Tryz.zeroValue3 (by decide) rfl rfl rfl rfl) ?_
     rintro _ _ ⟨bs2, cp3, hok4, hle5, rfl, rfl⟩
     refine t_f2 ?_
     refine tm rfl (mv_append (i := Tryz.t3) Tryz.underlying34 Tryz.type3 rfl rfl rfl (by decide) rfl rfl hok4 (by first | (simp; done) | (simp; omega)) (rd_sl (.tail _ (.head _))) (by simp [Value.oneCell']) (by rw [show Tryz.t3.bytes = 8 from rfl]; omega)) ?_
     rintro _ _ ⟨bs6, cp7, hok8, hle9, rfl, rfl⟩
     rw [show ints .i64 l ++ [(.int .i64 x)] = ints .i64 (l ++ [x]) from ints_snoc _ _ _]
     rw [show l.length + 1 = (l ++ [x]).length from by simp] at hok8 hle9 ⊢
     refine tp rfl (lv_nilCheck rfl) (tp rfl (lv_fieldAddr (o' := 1) Tryz.underlying134 rfl Tryz.sizeOf34 rfl rfl) (t_f2 ?_))
     refine ts (sv_blk Tryz.sizeOf34 rfl rfl rfl (Nat.le_of_ble_eq_true rfl) rfl) ?_
     refine t_done (q_then_n (hK4 _ _ (c_seq (fun K5 hK5 => c_region (tp rfl (lv_assign rfl) (t_done (q_then_n (hK5 _ _ (c_ret (t_f2 (t_drop ?_)))))))))))
     refine q_ret rfl rfl ?_
     rw [show decide ((l.length : Int) ≥ A) = false from (decide_eq_false h1)]
     exact ⟨_, _, hok8, hle9, rfl, rfl⟩
theorem rdrop0_ok {R : List HP} {p : Nat} {A : Int} {bl : Option Addr} {cl : Nat} {u1 u2 : Value} {l : List Int} (x : Int) (okl : SlOk bl l.length) (hl : l.length ≤ 1000000) :
    Ok Tryz.prog 125 [(.pointer (some ⟨p, 0, none⟩)), (.int .i64 x)] ((Blk p [(.int .i64 A), (.slice bl l.length cl), u1, u2] 136) :: (SlV 3 1 (.slice bl l.length cl) l.length (ints .i64 l)) :: R)
      (fun v M => SlOk bl (l.erase x).length ∧ v = .bool (l.contains x) ∧ M = Blk p [.int .i64 A, .slice bl (l.erase x).length cl, u1, u2] 136 :: SlV 3 1 (.slice bl (l.erase x).length cl) (l.erase x).length (ints .i64 (l.erase x)) :: R) := by
 refine ok_of (N := 25) Tryz.func125 rfl rfl rfl (fun W => ?_)
 refine c_seq (fun K1 hK1 => c_region (tp rfl (lv_assign rfl) (t_done (q_then_n (hK1 _ _ (c_seq (fun K2 hK2 => c_region (tp rfl (lv_move rfl) (tp rfl (lv_nilCheck rfl) (tp rfl (lv_fieldAddr (o' := 1) Tryz.underlying134 rfl Tryz.sizeOf34 rfl rfl) ?_))))))))))
 refine tp rfl (lv_load Tryz.isAgg34 rfl (gives_blk (.head _) rfl)) (tp rfl (lv_move rfl) ?_)
 refine tc rfl (en_fn Tryz.call154 rfl) (sindex_ok l x (rd_sl (.tail _ (.head _))) okl (by first | omega | (simp; omega) | (simp; done))) ?_
 rintro _ _ ⟨rfl, rfl⟩
 refine tp rfl (lv_assign rfl) (t_done (q_then_n (hK2 _ _ (c_seq (fun K3 hK3 => c_seq (fun K4 hK4 => c_region (tp rfl (lv_move rfl) ?_)))))))
 by_cases h1 : (idxF (fun y => decide (x = y)) l) < 0
 · refine tp rfl (lv_lss rfl rfl (decide_eq_true h1)) (t_done (q_then_n (hK4 _ _ (c_true rfl (c_seq (fun K5 hK5 => c_region (tp rfl (lv_assign rfl) (t_done (q_then_n (hK5 _ _ (c_ret ?_)))))))))))
   refine q_then_r ?_
   refine q_ret rfl rfl ?_
   have hc := idx_none (v := x) (xs := l) ‹_›
   rw [hc, List.erase_of_not_mem (by simpa using hc)]
   exact ⟨okl, rfl, rfl⟩
 · refine tp rfl (lv_lss rfl rfl (decide_eq_false h1)) (t_done (q_then_n (hK4 _ _ (c_false rfl (c_skip (q_then_n (hK3 _ _ (c_seq (fun K5 hK5 => c_region ?_)))))))))
   have hi := idx_erase (v := x) (xs := l) (by omega)
   rw [show idxF (fun y => decide (x = y)) l = ((idxF (fun y => decide (x = y)) l).toNat : Int) by omega]
   refine tp rfl (lv_move rfl) (tp rfl (lv_move rfl) (tp rfl (lv_nilCheck rfl) (tp rfl (lv_fieldAddr (o' := 1) Tryz.underlying134 rfl Tryz.sizeOf34 rfl rfl) (tp rfl (lv_load Tryz.isAgg34 rfl (gives_blk (.head _) rfl)) (tp rfl (lv_move rfl) (tp rfl (lv_move rfl) (tp rfl (lv_add (c := (((idxF (fun y => decide (x = y)) l).toNat + 1 : Nat) : Int)) rfl rfl (wr_i64_succ (by omega))) ?_)))))))
   refine t_f1 ?_
   refine tc rfl (en_fn Tryz.call155 rfl) (sdelete_ok (cx := cl) l ((idxF (fun y => decide (x = y)) l).toNat) hi.2.1) ?_
   rintro _ _ ⟨rfl, rfl⟩
   refine tp rfl (lv_nilCheck rfl) (tp rfl (lv_fieldAddr (o' := 1) Tryz.underlying134 rfl Tryz.sizeOf34 rfl rfl) (t_f1 ?_))
   refine ts (sv_blk Tryz.sizeOf34 rfl rfl rfl (Nat.le_of_ble_eq_true rfl) rfl) ?_
   refine t_done (q_then_n (hK5 _ _ (c_seq (fun K6 hK6 => c_region (tp rfl (lv_assign rfl) (t_done (q_then_n (hK6 _ _ (c_ret ?_)))))))))
   rw [hi.2.2]
   refine q_ret rfl rfl ?_
   rw [hi.1]
   exact ⟨fun _ => okl (by omega), rfl, rfl⟩
theorem rhas0_ok {R : List HP} {p : Nat} {A : Int} {bl : Option Addr} {cl : Nat} {u1 u2 : Value} {l : List Int} (x : Int) (okl : SlOk bl l.length) (hl : l.length ≤ 1000000) :
    Ok Tryz.prog 122 [(.pointer (some ⟨p, 0, none⟩)), (.int .i64 x)] ((Blk p [(.int .i64 A), (.slice bl l.length cl), u1, u2] 136) :: (SlV 3 1 (.slice bl l.length cl) l.length (ints .i64 l)) :: R)
      (fun v M => v = .bool (l.contains x) ∧ M = Blk p [.int .i64 A, .slice bl l.length cl, u1, u2] 136 :: SlV 3 1 (.slice bl l.length cl) l.length (ints .i64 l) :: R) := by
 refine ok_of (N := 11) Tryz.func122 rfl rfl rfl (fun W => ?_)
 refine c_seq (fun K1 hK1 => c_region (tp rfl (lv_assign rfl) (t_done (q_then_n (hK1 _ _ (c_seq (fun K2 hK2 => c_region (tp rfl (lv_move rfl) (tp rfl (lv_nilCheck rfl) (tp rfl (lv_fieldAddr (o' := 1) Tryz.underlying134 rfl Tryz.sizeOf34 rfl rfl) ?_))))))))))
 refine tp rfl (lv_load Tryz.isAgg34 rfl (gives_blk (.head _) rfl)) (tp rfl (lv_move rfl) ?_)
 refine tc rfl (en_fn Tryz.call151 rfl) (scontains_ok l x (rd_sl (.tail _ (.head _))) okl (by first | omega | (simp; omega) | (simp; done))) ?_
 rintro _ _ ⟨rfl, rfl⟩
 refine tp rfl (lv_assign rfl) (t_done (q_then_n (hK2 _ _ (c_ret ?_))))
 refine q_ret rfl rfl ?_
 exact ⟨rfl, rfl⟩
theorem rall0_ok {R : List HP} {p : Nat} {A : Int} {bl : Option Addr} {cl : Nat} {u1 u2 : Value} {l : List Int} (okl : SlOk bl l.length) (hl : l.length ≤ 1000000) :
    Ok Tryz.prog 70 [(.pointer (some ⟨p, 0, none⟩))] ((Blk p [(.int .i64 A), (.slice bl l.length cl), u1, u2] 136) :: (SlV 3 1 (.slice bl l.length cl) l.length (ints .i64 l)) :: R)
      (OutSl 3 1 l.length (ints .i64 l) (Blk p [.int .i64 A, .slice bl l.length cl, u1, u2] 136 :: SlV 3 1 (.slice bl l.length cl) l.length (ints .i64 l) :: R)) := by
 refine ok_of (N := 8) Tryz.func70 rfl rfl rfl (fun W => ?_)
 refine c_seq (fun K1 hK1 => c_region (tp rfl (lv_assign rfl) (t_done (q_then_n (hK1 _ _ (c_seq (fun K2 hK2 => c_region (tp rfl (lv_move rfl) (tp rfl (lv_nilCheck rfl) (tp rfl (lv_fieldAddr (o' := 1) Tryz.underlying134 rfl Tryz.sizeOf34 rfl rfl) ?_))))))))))
 refine tp rfl (lv_load Tryz.isAgg34 rfl (gives_blk (.head _) rfl)) ?_
 refine tc rfl (en_fn Tryz.call72 rfl) (clone_ok l (rd_sl (.tail _ (.head _))) okl (by first | omega | (simp; omega) | (simp; done))) ?_
 rintro _ _ ⟨bs1, cp2, hok3, hle4, rfl, rfl⟩
 refine tp rfl (lv_assign rfl) (t_done (q_then_n (hK2 _ _ (c_ret ?_))))
 refine q_ret rfl rfl ?_
 exact ⟨_, _, hok3, hle4, rfl, rfl⟩
set_option maxHeartbeats 4000000 in
theorem radd2_ok {R : List HP} {p : Nat} {A : Int} {bl : Option Addr} {cl : Nat} {u1 u2 : Value} {l : List Int} (x : Int) (okl : SlOk bl l.length) (hl : l.length ≤ 1000000) :
    Ok Tryz.prog 74 [(.pointer (some ⟨p, 2, none⟩)), (.int .i64 x)] ((Blk p [u1, u2, (.int .i64 A), (.slice bl l.length cl)] 136) :: (SlV 3 1 (.slice bl l.length cl) l.length (ints .i64 l)) :: R)
      (fun v M => ∃ bs cp, SlOk bs (bif !decide ((l.length : Int) ≥ A) then l ++ [x] else l).length ∧ (bif !decide ((l.length : Int) ≥ A) then l ++ [x] else l).length ≤ cp ∧ v = .bool (!decide ((l.length : Int) ≥ A)) ∧ M = Blk p [u1, u2, .int .i64 A, .slice bs (bif !decide ((l.length : Int) ≥ A) then l ++ [x] else l).length cp] 136 :: SlV 3 1 (.slice bs (bif !decide ((l.length : Int) ≥ A) then l ++ [x] else l).length cp) (bif !decide ((l.length : Int) ≥ A) then l ++ [x] else l).length (ints .i64 (bif !decide ((l.length : Int) ≥ A) then l ++ [x] else l)) :: R) := by
 refine ok_of (N := 25) Tryz.func74 rfl rfl rfl (fun W => ?_)
 refine t_f1 ?_
 refine t_learn (fun _ h => (slv_facts h).2.1) (fun hcl => ?_)
 refine t_f1 (c_seq (fun K1 hK1 => c_region (tp rfl (lv_assign rfl) (t_done (q_then_n (hK1 _ _ (c_seq (fun K2 hK2 => c_seq (fun K3 hK3 => ?_)))))))))
 by_cases h1 : ((l.length : Nat) : Int) ≥ A
 · refine c_draw (γ := Unit) (n := 10) Tryz.mixed rfl rfl (fun _ S => True) (fun _ => [(0, 5, (vP p 2)), (1, 6, (vP p 2)), (2, 7, (vP p 3)), (3, 8, (.slice bl l.length cl)), (4, 9, (vN l.length)), (5, 10, (vP p 2)), (6, 11, (vP p 2)), (7, 12, (vP p 2)), (8, 13, (.int .i64 A)), (9, 14, (.bool true))]) (fun _ S => (Blk p [u1, u2, (.int .i64 A), (.slice bl l.length cl)] 136) :: (SlV 3 1 (.slice bl l.length cl) l.length (ints .i64 l)) :: R) (()) trivial (fun _ h => h) (fun _ _ h => h) ?_ ?_
   · refine ⟨?_, ?_, ?_, ?_, ?_, ?_, ?_, ?_, ?_, ?_, trivial⟩
     · intro _ S h s D p K k; exact d_lv1 (look_b (t := 0) rfl rfl) (lv_move rfl) 0 rfl rfl s (k () h)
     · intro _ S h s D p K k; exact d_lv1 (lkr p 0 rfl rfl) (lv_nilCheck rfl) 1 rfl rfl s (k () h)
     · intro _ S h s D p K k; exact d_lv1 (lkr p 1 rfl rfl) (lv_fieldAddr (o' := 3) Tryz.underlying134 rfl Tryz.sizeOf34 rfl rfl) 2 rfl rfl s (k () h)
     · intro _ S h s D p K k; exact d_lv1 (lkr p 2 rfl rfl) (lv_load Tryz.isAgg34 rfl (gives_blk (.head _) rfl)) 3 rfl rfl s (k () h)
     · intro _ S h s D p K k; exact d_lv1 (lkr p 3 rfl rfl) (lv_len Tryz.underlying34 rfl rfl) 4 rfl rfl s (k () h)
     · intro _ S h s D p K k; exact d_lv1 (look_b (t := 0) rfl rfl) (lv_move rfl) 5 rfl rfl s (k () h)
     · intro _ S h s D p K k; exact d_lv1 (lkr p 5 rfl rfl) (lv_nilCheck rfl) 6 rfl rfl s (k () h)
     · intro _ S h s D p K k; exact d_lv1 (lkr p 6 rfl rfl) (lv_fieldAddr (o' := 2) Tryz.underlying134 rfl Tryz.sizeOf3 rfl rfl) 7 rfl rfl s (k () h)
     · intro _ S h s D p K k; exact d_lv1 (lkr p 7 rfl rfl) (lv_load Tryz.isAgg3 rfl (gives_blk (.head _) rfl)) 8 rfl rfl s (k () h)
     · intro _ S h s D p K k; exact d_lv2 (lkr p 4 rfl rfl) (lkr p 8 rfl rfl) (lv_geq rfl rfl (decide_eq_true h1)) 9 rfl rfl s (k () h)
   · rintro _ hF
     try dsimp only at hF ⊢
     refine t_weak (E' := [(0, (vP p 2)), (1, (.int .i64 x)), (4, (.bool false)), (14, (.bool true))]) ⟨rfl, rfl, rfl, rfl, trivial⟩ ?_
     refine q_then_n (hK3 _ _ (c_true rfl (c_seq (fun K4 hK4 => c_region (tp rfl (lv_assign rfl) (t_done (q_then_n (hK4 _ _ (c_ret ?_)))))))))
     refine q_then_r ?_
     refine q_ret rfl rfl ?_
     rw [show decide ((l.length : Int) ≥ A) = true from (decide_eq_true h1)]
     exact ⟨_, _, okl, hcl, rfl, rfl⟩
 · refine c_draw (γ := Unit) (n := 10) Tryz.mixed rfl rfl (fun _ S => True) (fun _ => [(0, 5, (vP p 2)), (1, 6, (vP p 2)), (2, 7, (vP p 3)), (3, 8, (.slice bl l.length cl)), (4, 9, (vN l.length)), (5, 10, (vP p 2)), (6, 11, (vP p 2)), (7, 12, (vP p 2)), (8, 13, (.int .i64 A)), (9, 14, (.bool false))]) (fun _ S => (Blk p [u1, u2, (.int .i64 A), (.slice bl l.length cl)] 136) :: (SlV 3 1 (.slice bl l.length cl) l.length (ints .i64 l)) :: R) (()) trivial (fun _ h => h) (fun _ _ h => h) ?_ ?_
   · refine ⟨?_, ?_, ?_, ?_, ?_, ?_, ?_, ?_, ?_, ?_, trivial⟩
     · intro _ S h s D p K k; exact d_lv1 (look_b (t := 0) rfl rfl) (lv_move rfl) 0 rfl rfl s (k () h)
     · intro _ S h s D p K k; exact d_lv1 (lkr p 0 rfl rfl) (lv_nilCheck rfl) 1 rfl rfl s (k () h)
     · intro _ S h s D p K k; exact d_lv1 (lkr p 1 rfl rfl) (lv_fieldAddr (o' := 3) Tryz.underlying134 rfl Tryz.sizeOf34 rfl rfl) 2 rfl rfl s (k () h)
     · intro _ S h s D p K k; exact d_lv1 (lkr p 2 rfl rfl) (lv_load Tryz.isAgg34 rfl (gives_blk (.head _) rfl)) 3 rfl rfl s (k () h)
     · intro _ S h s D p K k; exact d_lv1 (lkr p 3 rfl rfl) (lv_len Tryz.underlying34 rfl rfl) 4 rfl rfl s (k () h)
     · intro _ S h s D p K k; exact d_lv1 (look_b (t := 0) rfl rfl) (lv_move rfl) 5 rfl rfl s (k () h)
     · intro _ S h s D p K k; exact d_lv1 (lkr p 5 rfl rfl) (lv_nilCheck rfl) 6 rfl rfl s (k () h)
     · intro _ S h s D p K k; exact d_lv1 (lkr p 6 rfl rfl) (lv_fieldAddr (o' := 2) Tryz.underlying134 rfl Tryz.sizeOf3 rfl rfl) 7 rfl rfl s (k () h)
     · intro _ S h s D p K k; exact d_lv1 (lkr p 7 rfl rfl) (lv_load Tryz.isAgg3 rfl (gives_blk (.head _) rfl)) 8 rfl rfl s (k () h)
     · intro _ S h s D p K k; exact d_lv2 (lkr p 4 rfl rfl) (lkr p 8 rfl rfl) (lv_geq rfl rfl (decide_eq_false h1)) 9 rfl rfl s (k () h)
   · rintro _ hF
     try dsimp only at hF ⊢
     refine t_weak (E' := [(0, (vP p 2)), (1, (.int .i64 x)), (4, (.bool false)), (14, (.bool false))]) ⟨rfl, rfl, rfl, rfl, trivial⟩ ?_
     refine q_then_n (hK3 _ _ (c_false rfl (c_skip (q_then_n (hK2 _ _ (c_seq (fun K4 hK4 => c_region (tp rfl (lv_move rfl) (tp rfl (lv_move rfl) (tp rfl (lv_nilCheck rfl) (tp rfl (lv_fieldAddr (o' := 3) Tryz.underlying134 rfl Tryz.sizeOf34 rfl rfl) ?_)))))))))))
     refine tp rfl (lv_load Tryz.isAgg34 rfl (gives_blk (.head _) rfl)) (tp rfl (lv_move rfl) ?_)
     refine tm rfl (mv_buildSlice (cs := [(.int .i64 x)]) Tryz.underlying34 Tryz.sizeOf3 Tryz.zeroValue3 (by decide) rfl rfl rfl rfl) ?_
     rintro _ _ ⟨bs2, cp3, hok4, hle5, rfl, rfl⟩
     refine t_f2 ?_
     refine tm rfl (mv_append (i := Tryz.t3) Tryz.underlying34 Tryz.type3 rfl rfl rfl (by decide) rfl rfl hok4 (by first | (simp; done) | (simp; omega)) (rd_sl (.tail _ (.head _))) (by simp [Value.oneCell']) (by rw [show Tryz.t3.bytes = 8 from rfl]; omega)) ?_
     rintro _ _ ⟨bs6, cp7, hok8, hle9, rfl, rfl⟩
     rw [show ints .i64 l ++ [(.int .i64 x)] = ints .i64 (l ++ [x]) from ints_snoc _ _ _]
     rw [show l.length + 1 = (l ++ [x]).length from by simp] at hok8 hle9 ⊢
     refine tp rfl (lv_nilCheck rfl) (tp rfl (lv_fieldAddr (o' := 3) Tryz.underlying134 rfl Tryz.sizeOf34 rfl rfl) (t_f2 ?_))
     refine ts (sv_blk Tryz.sizeOf34 rfl rfl rfl (Nat.le_of_ble_eq_true rfl) rfl) ?_
     refine t_done (q_then_n (hK4 _ _ (c_seq (fun K5 hK5 => c_region (tp rfl (lv_assign rfl) (t_done (q_then_n (hK5 _ _ (c_ret (t_f2 (t_drop ?_)))))))))))
     refine q_ret rfl rfl ?_
     rw [show decide ((l.length : Int) ≥ A) = false from (decide_eq_false h1)]
     exact ⟨_, _, hok8, hle9, rfl, rfl⟩
theorem rdrop2_ok {R : List HP} {p : Nat} {A : Int} {bl : Option Addr} {cl : Nat} {u1 u2 : Value} {l : List Int} (x : Int) (okl : SlOk bl l.length) (hl : l.length ≤ 1000000) :
    Ok Tryz.prog 125 [(.pointer (some ⟨p, 2, none⟩)), (.int .i64 x)] ((Blk p [u1, u2, (.int .i64 A), (.slice bl l.length cl)] 136) :: (SlV 3 1 (.slice bl l.length cl) l.length (ints .i64 l)) :: R)
      (fun v M => SlOk bl (l.erase x).length ∧ v = .bool (l.contains x) ∧ M = Blk p [u1, u2, .int .i64 A, .slice bl (l.erase x).length cl] 136 :: SlV 3 1 (.slice bl (l.erase x).length cl) (l.erase x).length (ints .i64 (l.erase x)) :: R) := by
 refine ok_of (N := 25) Tryz.func125 rfl rfl rfl (fun W => ?_)
 refine c_seq (fun K1 hK1 => c_region (tp rfl (lv_assign rfl) (t_done (q_then_n (hK1 _ _ (c_seq (fun K2 hK2 => c_region (tp rfl (lv_move rfl) (tp rfl (lv_nilCheck rfl) (tp rfl (lv_fieldAddr (o' := 3) Tryz.underlying134 rfl Tryz.sizeOf34 rfl rfl) ?_))))))))))
 refine tp rfl (lv_load Tryz.isAgg34 rfl (gives_blk (.head _) rfl)) (tp rfl (lv_move rfl) ?_)
 refine tc rfl (en_fn Tryz.call154 rfl) (sindex_ok l x (rd_sl (.tail _ (.head _))) okl (by first | omega | (simp; omega) | (simp; done))) ?_
 rintro _ _ ⟨rfl, rfl⟩
 refine tp rfl (lv_assign rfl) (t_done (q_then_n (hK2 _ _ (c_seq (fun K3 hK3 => c_seq (fun K4 hK4 => c_region (tp rfl (lv_move rfl) ?_)))))))
 by_cases h1 : (idxF (fun y => decide (x = y)) l) < 0
 · refine tp rfl (lv_lss rfl rfl (decide_eq_true h1)) (t_done (q_then_n (hK4 _ _ (c_true rfl (c_seq (fun K5 hK5 => c_region (tp rfl (lv_assign rfl) (t_done (q_then_n (hK5 _ _ (c_ret ?_)))))))))))
   refine q_then_r ?_
   refine q_ret rfl rfl ?_
   have hc := idx_none (v := x) (xs := l) ‹_›
   rw [hc, List.erase_of_not_mem (by simpa using hc)]
   exact ⟨okl, rfl, rfl⟩
 · refine tp rfl (lv_lss rfl rfl (decide_eq_false h1)) (t_done (q_then_n (hK4 _ _ (c_false rfl (c_skip (q_then_n (hK3 _ _ (c_seq (fun K5 hK5 => c_region ?_)))))))))
   have hi := idx_erase (v := x) (xs := l) (by omega)
   rw [show idxF (fun y => decide (x = y)) l = ((idxF (fun y => decide (x = y)) l).toNat : Int) by omega]
   refine tp rfl (lv_move rfl) (tp rfl (lv_move rfl) (tp rfl (lv_nilCheck rfl) (tp rfl (lv_fieldAddr (o' := 3) Tryz.underlying134 rfl Tryz.sizeOf34 rfl rfl) (tp rfl (lv_load Tryz.isAgg34 rfl (gives_blk (.head _) rfl)) (tp rfl (lv_move rfl) (tp rfl (lv_move rfl) (tp rfl (lv_add (c := (((idxF (fun y => decide (x = y)) l).toNat + 1 : Nat) : Int)) rfl rfl (wr_i64_succ (by omega))) ?_)))))))
   refine t_f1 ?_
   refine tc rfl (en_fn Tryz.call155 rfl) (sdelete_ok (cx := cl) l ((idxF (fun y => decide (x = y)) l).toNat) hi.2.1) ?_
   rintro _ _ ⟨rfl, rfl⟩
   refine tp rfl (lv_nilCheck rfl) (tp rfl (lv_fieldAddr (o' := 3) Tryz.underlying134 rfl Tryz.sizeOf34 rfl rfl) (t_f1 ?_))
   refine ts (sv_blk Tryz.sizeOf34 rfl rfl rfl (Nat.le_of_ble_eq_true rfl) rfl) ?_
   refine t_done (q_then_n (hK5 _ _ (c_seq (fun K6 hK6 => c_region (tp rfl (lv_assign rfl) (t_done (q_then_n (hK6 _ _ (c_ret ?_)))))))))
   rw [hi.2.2]
   refine q_ret rfl rfl ?_
   rw [hi.1]
   exact ⟨fun _ => okl (by omega), rfl, rfl⟩
theorem rhas2_ok {R : List HP} {p : Nat} {A : Int} {bl : Option Addr} {cl : Nat} {u1 u2 : Value} {l : List Int} (x : Int) (okl : SlOk bl l.length) (hl : l.length ≤ 1000000) :
    Ok Tryz.prog 122 [(.pointer (some ⟨p, 2, none⟩)), (.int .i64 x)] ((Blk p [u1, u2, (.int .i64 A), (.slice bl l.length cl)] 136) :: (SlV 3 1 (.slice bl l.length cl) l.length (ints .i64 l)) :: R)
      (fun v M => v = .bool (l.contains x) ∧ M = Blk p [u1, u2, .int .i64 A, .slice bl l.length cl] 136 :: SlV 3 1 (.slice bl l.length cl) l.length (ints .i64 l) :: R) := by
 refine ok_of (N := 11) Tryz.func122 rfl rfl rfl (fun W => ?_)
 refine c_seq (fun K1 hK1 => c_region (tp rfl (lv_assign rfl) (t_done (q_then_n (hK1 _ _ (c_seq (fun K2 hK2 => c_region (tp rfl (lv_move rfl) (tp rfl (lv_nilCheck rfl) (tp rfl (lv_fieldAddr (o' := 3) Tryz.underlying134 rfl Tryz.sizeOf34 rfl rfl) ?_))))))))))
 refine tp rfl (lv_load Tryz.isAgg34 rfl (gives_blk (.head _) rfl)) (tp rfl (lv_move rfl) ?_)
 refine tc rfl (en_fn Tryz.call151 rfl) (scontains_ok l x (rd_sl (.tail _ (.head _))) okl (by first | omega | (simp; omega) | (simp; done))) ?_
 rintro _ _ ⟨rfl, rfl⟩
 refine tp rfl (lv_assign rfl) (t_done (q_then_n (hK2 _ _ (c_ret ?_))))
 refine q_ret rfl rfl ?_
 exact ⟨rfl, rfl⟩
end Go.Proofs.YtanfdikglplkaaaGreatDoor
set_option maxRecDepth 100000
namespace Go.Proofs.YtanfdikglplkaaaGreatDoor
open Go Go.Proofs Sp
theorem anew_ok {R : List HP} (x y : Int) :
    Ok Tryz.prog 38 [(.int .i64 x), (.int .i64 y)] R
      (fun v M => ∃ p, v = .pointer (some ⟨p, 0, none⟩) ∧ M = AdmO p (max x 1) (max y 0) ⟨[], []⟩ :: R) := by
 refine ok_of (N := 13) Tryz.func38 rfl rfl rfl (fun W => ?_)
 refine c_seq (fun K1 hK1 => c_region (tp rfl (lv_assign rfl) (t_done (q_then_n (hK1 _ _ (c_seq (fun K2 hK2 => c_region (tp rfl (lv_move rfl) (tp rfl (lv_max (c := max x 1) rfl rfl rfl) (tp rfl (lv_build (cs := [(.int .i64 (max x 1)), (.slice none 0 0)]) (pl := [(0, 1), (1, 1)]) Tryz.underlying134 Tryz.zeroValue134 (fun _ => by simp) rfl rfl) ?_))))))))))
 refine tp rfl (lv_move rfl) (tp rfl (lv_max (c := max y 0) rfl rfl rfl) (tp rfl (lv_build (cs := [(.int .i64 (max y 0)), (.slice none 0 0)]) (pl := [(0, 1), (1, 1)]) Tryz.underlying134 Tryz.zeroValue134 (fun _ => by simp) rfl rfl) ?_))
 refine tp rfl (lv_build (cs := [(.int .i64 (max x 1)), (.slice none 0 0), (.int .i64 (max y 0)), (.slice none 0 0)]) (pl := [(0, 2), (2, 2)]) Tryz.underlying136 Tryz.zeroValue136 (fun _ => by simp) rfl rfl) ?_
 refine tm rfl (mv_box rfl rfl) ?_
 rintro _ _ ⟨b1, rfl, rfl⟩
 refine tp rfl (lv_assign rfl) (t_done (q_then_n (hK2 _ _ (c_ret ?_))))
 refine t_sat (fun _ h => sat_nilsl 3 1 h) ?_
 refine t_sat (fun _ h => sat_nilsl 3 1 h) ?_
 refine t_f2 ?_
 refine t_shutA (a := []) (q := []) ⟨[], []⟩ (AOk.new _ _) rfl rfl slok_none slok_none ?_
 refine q_ret rfl rfl ?_
 exact ⟨_, rfl, rfl⟩
theorem actives_ok {R : List HP} {p : Nat} {A Q : Int} {s : AS} (hb : s.a.length + s.q.length ≤ 100000) :
    Ok Tryz.prog 42 [(.pointer (some ⟨p, 0, none⟩))] ((AdmO p A Q s) :: R)
      (OutSl 3 1 s.a.length (ints .i64 s.a) (AdmO p A Q s :: R)) := by
 refine ok_of (N := 7) Tryz.func42 rfl rfl rfl (fun W => ?_)
 refine t_openA (fun ba ka bq kq hF => ?_)
 have hA1 := hF.ok.A1
 have hla := hF.ok.la
 have hlq := hF.ok.lq
 refine c_seq (fun K1 hK1 => c_region (tp rfl (lv_assign rfl) (t_done (q_then_n (hK1 _ _ (c_seq (fun K2 hK2 => c_region (tp rfl (lv_move rfl) (tp rfl (lv_nilCheck rfl) (tp rfl (lv_fieldAddr (o' := 0) Tryz.underlying136 rfl Tryz.sizeOf134 rfl rfl) ?_))))))))))
 refine t_f1 (t_f1 ?_)
 refine tc rfl (en_fn Tryz.call70 rfl) (rall0_ok (l := s.a) hF.k1 (by omega)) ?_
 rintro _ _ ⟨bs1, cp2, hok3, hle4, rfl, rfl⟩
 refine tp rfl (lv_assign rfl) (t_done (q_then_n (hK2 _ _ (c_ret (t_f3 (t_f3 (t_f3 ?_)))))))
 refine t_shutA s hF.ok rfl rfl hF.k1 hF.k2 ?_
 refine t_f1 ?_
 refine q_ret rfl rfl ?_
 exact ⟨_, _, hok3, hle4, rfl, rfl⟩
set_option maxHeartbeats 4000000 in
theorem state_ok {R : List HP} {p : Nat} {A Q : Int} {s : AS} (x : Int) (hb : s.a.length + s.q.length ≤ 100000) :
    Ok Tryz.prog 73 [(.pointer (some ⟨p, 0, none⟩)), (.int .i64 x)] ((AdmO p A Q s) :: R)
      (fun v M => v = .tuple #[.int .i64 (stV s x), .bool (there s x)] ∧ M = AdmO p A Q s :: R) := by
 refine ok_of (N := 18) Tryz.func73 rfl rfl rfl (fun W => ?_)
 refine t_openA (fun ba ka bq kq hF => ?_)
 have hA1 := hF.ok.A1
 have hla := hF.ok.la
 have hlq := hF.ok.lq
 refine c_seq (fun K1 hK1 => c_region (tp rfl (lv_assign rfl) (tp rfl (lv_assign rfl) (t_done (q_then_n (hK1 _ _ (c_seq (fun K2 hK2 => c_block (c_seq (fun K3 hK3 => c_region ?_))))))))))
 refine tp rfl (lv_move rfl) (tp rfl (lv_nilCheck rfl) (tp rfl (lv_fieldAddr (o' := 0) Tryz.underlying136 rfl Tryz.sizeOf134 rfl rfl) (tp rfl (lv_move rfl) (t_f1 (t_f1 ?_)))))
 refine tc rfl (en_fn Tryz.call122 rfl) (rhas0_ok (l := s.a) x hF.k1 (by omega)) ?_
 rintro _ _ ⟨rfl, rfl⟩
 refine tp rfl (lv_assign rfl) (t_done (q_then_n (hK3 _ _ ?_)))
 refine c_split rfl (fun c1 => ?_) (fun c1 => ?_)
 · refine c_seq (fun K4 hK4 => c_region (tp rfl (lv_assign rfl) (tp rfl (lv_assign rfl) (t_done (q_then_n (hK4 _ _ (c_ret ?_)))))))
   refine q_in_r ?_
   refine q_then_r ?_
   refine t_f2 (t_f2 (t_f2 ?_))
   refine t_shutA s hF.ok rfl rfl hF.k1 hF.k2 ?_
   refine q_ret2 rfl rfl rfl ?_
   exact ⟨by first | (simp only [stV, there, inA, inQ, c1]; done) | (simp only [stV, there, inA, inQ, c1]; rfl), rfl⟩
 · refine c_seq (fun K4 hK4 => c_region (tp rfl (lv_move rfl) (tp rfl (lv_nilCheck rfl) (tp rfl (lv_fieldAddr (o' := 2) Tryz.underlying136 rfl Tryz.sizeOf134 rfl rfl) (tp rfl (lv_move rfl) (t_f2 (t_f1 ?_)))))))
   refine tc rfl (en_fn Tryz.call122 rfl) (rhas2_ok (l := s.q) x hF.k2 (by omega)) ?_
   rintro _ _ ⟨rfl, rfl⟩
   refine tp rfl (lv_assign rfl) (t_done (q_then_n (hK4 _ _ ?_)))
   refine c_split rfl (fun c2 => ?_) (fun c2 => ?_)
   · refine c_seq (fun K5 hK5 => c_region (tp rfl (lv_assign rfl) (tp rfl (lv_assign rfl) (t_done (q_then_n (hK5 _ _ (c_ret ?_)))))))
     refine q_in_r ?_
     refine q_then_r ?_
     refine t_f1 (t_f2 (t_f2 ?_))
     refine t_shutA s hF.ok rfl rfl hF.k1 hF.k2 ?_
     refine q_ret2 rfl rfl rfl ?_
     exact ⟨by first | (simp only [stV, there, inA, inQ, c1, c2]; done) | (simp only [stV, there, inA, inQ, c1, c2]; rfl), rfl⟩
   · refine c_skip (q_in_n (q_then_n (hK2 _ _ (c_seq (fun K5 hK5 => c_region (tp rfl (lv_assign rfl) (tp rfl (lv_assign rfl) (t_done (q_then_n (hK5 _ _ (c_ret ?_)))))))))))
     refine t_f1 (t_f2 (t_f2 ?_))
     refine t_shutA s hF.ok rfl rfl hF.k1 hF.k2 ?_
     refine q_ret2 rfl rfl rfl ?_
     exact ⟨by first | (simp only [stV, there, inA, inQ, c1, c2]; done) | (simp only [stV, there, inA, inQ, c1, c2]; rfl), rfl⟩
set_option maxHeartbeats 4000000 in
theorem aadd_ok {R : List HP} {p : Nat} {A Q : Int} {s : AS} (x : Int) (hb : s.a.length + s.q.length ≤ 100000) :
    Ok Tryz.prog 44 [(.pointer (some ⟨p, 0, none⟩)), (.int .i64 x)] ((AdmO p A Q s) :: R)
      (fun v M => v = .tuple #[.int .i64 (addV A Q s x), .int .i64 (addEr A Q s x)] ∧ M = AdmO p A Q (addS A Q s x) :: R) := by
 refine ok_of (N := 28) Tryz.func44 rfl rfl rfl (fun W => ?_)
 refine c_seq (fun K1 hK1 => c_region (tp rfl (lv_assign rfl) (tp rfl (lv_assign rfl) (t_done (q_then_n (hK1 _ _ (c_seq (fun K2 hK2 => c_region (tp rfl (lv_move rfl) (tp rfl (lv_move rfl) ?_))))))))))
 refine tc rfl (en_fn Tryz.call73 rfl) (state_ok (A := A) (Q := Q) (s := s) x (by omega)) ?_
 rintro _ _ ⟨rfl, rfl⟩
 refine tp rfl (lv_move rfl) (tp rfl (lv_extract rfl rfl) (tp rfl (lv_extract rfl rfl) (tp rfl (lv_assign rfl) (tp rfl (lv_assign rfl) (t_done (q_then_n (hK2 _ _ (c_seq (fun K3 hK3 => c_block (c_seq (fun K4 hK4 => ?_)))))))))))
 refine c_region (tp rfl (lv_move rfl) (tp rfl (lv_assign rfl) (t_done (q_then_n (hK4 _ _ ?_)))))
 refine c_split rfl (fun c1 => ?_) (fun c1 => ?_)
 · refine c_seq (fun K5 hK5 => c_region (tp rfl (lv_assign rfl) (tp rfl (lv_assign rfl) (t_done (q_then_n (hK5 _ _ (c_ret ?_)))))))
   refine q_in_r ?_
   refine q_then_r ?_
   rw [show AdmO p A Q s = AdmO p A Q (addS A Q s x) from by rw [show addS A Q s x = s from (by first | (simp only [addS, addV, addEr, aFull, qFull, c1]; done) | (simp only [addS, addV, addEr, aFull, qFull, c1]; rfl))]]
   refine q_ret2 rfl rfl rfl ?_
   exact ⟨(by first | (simp only [addS, addV, addEr, aFull, qFull, c1]; done) | (simp only [addS, addV, addEr, aFull, qFull, c1]; rfl)), rfl⟩
 · refine c_seq (fun K5 hK5 => c_region ?_)
   refine t_openA (fun ba ka bq kq hF => ?_)
   have hA1 := hF.ok.A1
   have hla := hF.ok.la
   have hlq := hF.ok.lq
   refine tp rfl (lv_move rfl) (tp rfl (lv_nilCheck rfl) (tp rfl (lv_fieldAddr (o' := 0) Tryz.underlying136 rfl Tryz.sizeOf134 rfl rfl) (tp rfl (lv_move rfl) (t_f1 (t_f1 ?_)))))
   refine tc rfl (en_fn Tryz.call74 rfl) (radd0_ok (A := A) (l := s.a) x hF.k1 (by omega)) ?_
   rintro _ _ ⟨bs2, cp3, hok4, hle5, rfl, rfl⟩
   refine tp rfl (lv_assign rfl) (t_done (q_then_n (hK5 _ _ ?_)))
   refine c_split rfl (fun c6 => ?_) (fun c6 => ?_)
   · refine c_seq (fun K6 hK6 => c_region (tp rfl (lv_assign rfl) (tp rfl (lv_assign rfl) (t_done (q_then_n (hK6 _ _ (c_ret ?_)))))))
     refine q_in_r ?_
     refine q_then_r ?_
     refine t_f2 (t_f2 (t_f2 ?_))
     refine t_shutA (addS A Q s x) (hF.ok.add x) (by first | (simp only [addS, addV, addEr, aFull, qFull, c1, c6]; done) | (simp only [addS, addV, addEr, aFull, qFull, c1, c6]; rfl)) (by first | (simp only [addS, addV, addEr, aFull, qFull, c1, c6]; done) | (simp only [addS, addV, addEr, aFull, qFull, c1, c6]; rfl)) hok4 hF.k2 ?_
     refine q_ret2 rfl rfl rfl ?_
     exact ⟨(by first | (simp only [addS, addV, addEr, aFull, qFull, c1, c6]; done) | (simp only [addS, addV, addEr, aFull, qFull, c1, c6]; rfl)), rfl⟩
   · refine c_seq (fun K6 hK6 => c_region (tp rfl (lv_move rfl) (tp rfl (lv_nilCheck rfl) (tp rfl (lv_fieldAddr (o' := 2) Tryz.underlying136 rfl Tryz.sizeOf134 rfl rfl) (tp rfl (lv_move rfl) (t_f2 (t_f1 ?_)))))))
     refine tc rfl (en_fn Tryz.call74 rfl) (radd2_ok (A := Q) (l := s.q) x hF.k2 (by omega)) ?_
     rintro _ _ ⟨bs7, cp8, hok9, hle10, rfl, rfl⟩
     refine tp rfl (lv_assign rfl) (t_done (q_then_n (hK6 _ _ ?_)))
     refine c_split rfl (fun c11 => ?_) (fun c11 => ?_)
     · refine c_seq (fun K7 hK7 => c_region (tp rfl (lv_assign rfl) (tp rfl (lv_assign rfl) (t_done (q_then_n (hK7 _ _ (c_ret ?_)))))))
       refine q_in_r ?_
       refine q_then_r ?_
       refine t_f1 (t_f2 (t_f2 ?_))
       refine t_shutA (addS A Q s x) (hF.ok.add x) (by first | (simp only [addS, addV, addEr, aFull, qFull, c1, c6, c11]; done) | (simp only [addS, addV, addEr, aFull, qFull, c1, c6, c11]; rfl)) (by first | (simp only [addS, addV, addEr, aFull, qFull, c1, c6, c11]; done) | (simp only [addS, addV, addEr, aFull, qFull, c1, c6, c11]; rfl)) hok4 hok9 ?_
       refine q_ret2 rfl rfl rfl ?_
       exact ⟨(by first | (simp only [addS, addV, addEr, aFull, qFull, c1, c6, c11]; done) | (simp only [addS, addV, addEr, aFull, qFull, c1, c6, c11]; rfl)), rfl⟩
     · refine c_skip (q_in_n (q_then_n (hK3 _ _ (c_seq (fun K7 hK7 => c_region (tp rfl (lv_assign rfl) (tp rfl (lv_assign rfl) (t_done (q_then_n (hK7 _ _ (c_ret ?_)))))))))))
       refine t_f1 (t_f2 (t_f2 ?_))
       refine t_shutA (addS A Q s x) (hF.ok.add x) (by first | (simp only [addS, addV, addEr, aFull, qFull, c1, c6, c11]; done) | (simp only [addS, addV, addEr, aFull, qFull, c1, c6, c11]; rfl)) (by first | (simp only [addS, addV, addEr, aFull, qFull, c1, c6, c11]; done) | (simp only [addS, addV, addEr, aFull, qFull, c1, c6, c11]; rfl)) hok4 hok9 ?_
       refine q_ret2 rfl rfl rfl ?_
       exact ⟨(by first | (simp only [addS, addV, addEr, aFull, qFull, c1, c6, c11]; done) | (simp only [addS, addV, addEr, aFull, qFull, c1, c6, c11]; rfl)), rfl⟩
set_option maxHeartbeats 4000000 in
theorem aend_ok {R : List HP} {p : Nat} {A Q : Int} {s : AS} (x : Int) (hb : s.a.length + s.q.length ≤ 100000) :
    Ok Tryz.prog 79 [(.pointer (some ⟨p, 0, none⟩)), (.int .i64 x)] ((AdmO p A Q s) :: R)
      (fun v M => v = .tuple #[.int .i64 (endV s x), .int .i64 (endEr s x)] ∧ M = AdmO p A Q (endS s x) :: R) := by
 refine ok_of (N := 46) Tryz.func79 rfl rfl rfl (fun W => ?_)
 refine t_openA (fun ba ka bq kq hF => ?_)
 have hA1 := hF.ok.A1
 have hla := hF.ok.la
 have hlq := hF.ok.lq
 refine c_seq (fun K1 hK1 => c_region (tp rfl (lv_assign rfl) (tp rfl (lv_assign rfl) (t_done (q_then_n (hK1 _ _ (c_seq (fun K2 hK2 => c_block (c_seq (fun K3 hK3 => c_region ?_))))))))))
 refine tp rfl (lv_move rfl) (tp rfl (lv_nilCheck rfl) (tp rfl (lv_fieldAddr (o' := 2) Tryz.underlying136 rfl Tryz.sizeOf134 rfl rfl) (tp rfl (lv_move rfl) (t_f2 (t_f1 ?_)))))
 refine tc rfl (en_fn Tryz.call125 rfl) (rdrop2_ok (l := s.q) x hF.k2 (by omega)) ?_
 rintro _ _ ⟨hok1, rfl, rfl⟩
 refine tp rfl (lv_assign rfl) (t_done (q_then_n (hK3 _ _ ?_)))
 refine c_split rfl (fun c2 => ?_) (fun c2 => ?_)
 · refine c_seq (fun K4 hK4 => c_region (tp rfl (lv_assign rfl) (tp rfl (lv_assign rfl) (t_done (q_then_n (hK4 _ _ (c_ret ?_)))))))
   refine q_in_r ?_
   refine q_then_r ?_
   have hnx := c2
   refine t_f1 (t_f2 (t_f2 ?_))
   refine t_shutA (endS s x) (hF.ok.ende x) (by first | (simp only [endS, endV, endEr, there, inA, inQ, c2, cond_true, cond_false, Bool.not_true, Bool.not_false, Bool.true_or, Bool.or_true, Bool.false_or, Bool.or_false]; done) | (simp only [endS, endV, endEr, there, inA, inQ, c2, cond_true, cond_false, Bool.not_true, Bool.not_false, Bool.true_or, Bool.or_true, Bool.false_or, Bool.or_false]; rfl)) (by first | (simp only [endS, endV, endEr, there, inA, inQ, c2, cond_true, cond_false, Bool.not_true, Bool.not_false, Bool.true_or, Bool.or_true, Bool.false_or, Bool.or_false]; done) | (simp only [endS, endV, endEr, there, inA, inQ, c2, cond_true, cond_false, Bool.not_true, Bool.not_false, Bool.true_or, Bool.or_true, Bool.false_or, Bool.or_false]; rfl)) hF.k1 hok1 ?_
   refine q_ret2 rfl rfl rfl ?_
   exact ⟨(by first | (simp only [endS, endV, endEr, there, inA, inQ, c2, cond_true, cond_false, Bool.not_true, Bool.not_false, Bool.true_or, Bool.or_true, Bool.false_or, Bool.or_false]; done) | (simp only [endS, endV, endEr, there, inA, inQ, c2, cond_true, cond_false, Bool.not_true, Bool.not_false, Bool.true_or, Bool.or_true, Bool.false_or, Bool.or_false]; rfl)), rfl⟩
 · refine c_seq (fun K4 hK4 => c_region ?_)
   rw [show (s.q.erase x) = s.q from List.erase_of_not_mem (by have := c2; simpa using this)] at hok1 ⊢
   refine tp rfl (lv_move rfl) (tp rfl (lv_nilCheck rfl) (tp rfl (lv_fieldAddr (o' := 0) Tryz.underlying136 rfl Tryz.sizeOf134 rfl rfl) (tp rfl (lv_move rfl) (t_f2 (t_f1 ?_)))))
   refine tc rfl (en_fn Tryz.call125 rfl) (rdrop0_ok (l := s.a) x hF.k1 (by omega)) ?_
   rintro _ _ ⟨hok3, rfl, rfl⟩
   refine tp rfl (lv_not (c := !(s.a.contains x)) rfl rfl) (tp rfl (lv_assign rfl) (t_done (q_then_n (hK4 _ _ ?_))))
   refine c_split rfl (fun c4 => ?_) (fun c4 => ?_)
   · refine c_seq (fun K5 hK5 => c_region ?_)
     rw [show (s.a.erase x) = s.a from List.erase_of_not_mem (by have := c4; simpa using this)] at hok3 ⊢
     refine tp rfl (lv_assign rfl) (tp rfl (lv_assign rfl) (t_done (q_then_n (hK5 _ _ (c_ret ?_)))))
     refine q_in_r ?_
     refine q_then_r ?_
     have hnx := c4
     refine t_f2 (t_f2 (t_f2 ?_))
     refine t_shutA (endS s x) (hF.ok.ende x) (by first | (simp only [endS, endV, endEr, there, inA, inQ, c2, (show (s.a.contains x) = false from by have := c4; simpa using this), cond_true, cond_false, Bool.not_true, Bool.not_false, Bool.true_or, Bool.or_true, Bool.false_or, Bool.or_false]; done) | (simp only [endS, endV, endEr, there, inA, inQ, c2, (show (s.a.contains x) = false from by have := c4; simpa using this), cond_true, cond_false, Bool.not_true, Bool.not_false, Bool.true_or, Bool.or_true, Bool.false_or, Bool.or_false]; rfl)) (by first | (simp only [endS, endV, endEr, there, inA, inQ, c2, (show (s.a.contains x) = false from by have := c4; simpa using this), cond_true, cond_false, Bool.not_true, Bool.not_false, Bool.true_or, Bool.or_true, Bool.false_or, Bool.or_false]; done) | (simp only [endS, endV, endEr, there, inA, inQ, c2, (show (s.a.contains x) = false from by have := c4; simpa using this), cond_true, cond_false, Bool.not_true, Bool.not_false, Bool.true_or, Bool.or_true, Bool.false_or, Bool.or_false]; rfl)) hok3 hok1 ?_
     refine q_ret2 rfl rfl rfl ?_
     exact ⟨(by first | (simp only [endS, endV, endEr, there, inA, inQ, c2, (show (s.a.contains x) = false from by have := c4; simpa using this), cond_true, cond_false, Bool.not_true, Bool.not_false, Bool.true_or, Bool.or_true, Bool.false_or, Bool.or_false]; done) | (simp only [endS, endV, endEr, there, inA, inQ, c2, (show (s.a.contains x) = false from by have := c4; simpa using this), cond_true, cond_false, Bool.not_true, Bool.not_false, Bool.true_or, Bool.or_true, Bool.false_or, Bool.or_false]; rfl)), rfl⟩
   · refine c_seq (fun K5 hK5 => c_region ?_)
     have hel := erase_len (l := s.a) (x := x) (by have := c4; simpa using this)
     refine tp rfl (lv_move rfl) (tp rfl (lv_nilCheck rfl) (tp rfl (lv_fieldAddr (o' := 2) Tryz.underlying136 rfl Tryz.sizeOf134 rfl rfl) (tp rfl (lv_fieldAddr (o' := 3) Tryz.underlying134 rfl Tryz.sizeOf34 rfl rfl) (tp rfl (lv_load Tryz.isAgg34 rfl (gives_blk (.head _) rfl)) (tp rfl (lv_len Tryz.underlying34 rfl rfl) ?_)))))
     by_cases h5 : ((s.q.length : Nat) : Int) = 0
     · refine tp rfl (lv_eql rfl rfl (beq_iff_eq.2 h5)) (tp rfl (lv_assign rfl) (t_done (q_then_n (hK5 _ _ (c_true rfl (c_seq (fun K6 hK6 => c_region (tp rfl (lv_assign rfl) (tp rfl (lv_assign rfl) (t_done ?_))))))))))
       refine q_then_n (hK6 _ _ (c_ret ?_))
       refine q_in_r ?_
       refine q_then_r ?_
       have hq0 : s.q = [] := List.eq_nil_of_length_eq_zero (by omega)
       have hnx := c4
       refine t_f2 (t_f2 (t_f2 ?_))
       refine t_shutA (endS s x) (hF.ok.ende x) (by first | (simp only [endS, endV, endEr, there, inA, inQ, hq0, c2, (show (s.a.contains x) = true from by have := c4; simpa using this), cond_true, cond_false, Bool.not_true, Bool.not_false, Bool.true_or, Bool.or_true, Bool.false_or, Bool.or_false]; done) | (simp only [endS, endV, endEr, there, inA, inQ, hq0, c2, (show (s.a.contains x) = true from by have := c4; simpa using this), cond_true, cond_false, Bool.not_true, Bool.not_false, Bool.true_or, Bool.or_true, Bool.false_or, Bool.or_false]; rfl)) (by first | (simp only [endS, endV, endEr, there, inA, inQ, hq0, c2, (show (s.a.contains x) = true from by have := c4; simpa using this), cond_true, cond_false, Bool.not_true, Bool.not_false, Bool.true_or, Bool.or_true, Bool.false_or, Bool.or_false]; done) | (simp only [endS, endV, endEr, there, inA, inQ, hq0, c2, (show (s.a.contains x) = true from by have := c4; simpa using this), cond_true, cond_false, Bool.not_true, Bool.not_false, Bool.true_or, Bool.or_true, Bool.false_or, Bool.or_false]; rfl)) hok3 hok1 ?_
       refine q_ret2 rfl rfl rfl ?_
       exact ⟨(by first | (simp only [endS, endV, endEr, there, inA, inQ, hq0, c2, (show (s.a.contains x) = true from by have := c4; simpa using this), cond_true, cond_false, Bool.not_true, Bool.not_false, Bool.true_or, Bool.or_true, Bool.false_or, Bool.or_false]; done) | (simp only [endS, endV, endEr, there, inA, inQ, hq0, c2, (show (s.a.contains x) = true from by have := c4; simpa using this), cond_true, cond_false, Bool.not_true, Bool.not_false, Bool.true_or, Bool.or_true, Bool.false_or, Bool.or_false]; rfl)), rfl⟩
     · refine tp rfl (lv_eql rfl rfl (beq_eq_false_iff_ne.2 h5)) (tp rfl (lv_assign rfl) (t_done (q_then_n (hK5 _ _ (c_false rfl (c_skip (q_in_n (q_then_n (hK2 _ _ (c_seq (fun K6 hK6 => c_region ?_)))))))))))
       refine tp rfl (lv_move rfl) (tp rfl (lv_nilCheck rfl) (tp rfl (lv_fieldAddr (o' := 2) Tryz.underlying136 rfl Tryz.sizeOf134 rfl rfl) (tp rfl (lv_fieldAddr (o' := 3) Tryz.underlying134 rfl Tryz.sizeOf34 rfl rfl) (tp rfl (lv_load Tryz.isAgg34 rfl (gives_blk (.head _) rfl)) (tp rfl (lv_indexAddr (k' := 0) Tryz.underlying34 Tryz.sizeOf3 rfl rfl hok1 (by omega) (by omega) (by omega)) ?_)))))
       refine tp rfl (lv_load Tryz.isAgg3 rfl (gives_sl (.tail _ (.tail _ (.head _))) (ints_get (by omega)))) ?_
       refine tp rfl (lv_assign rfl) (t_done (q_then_n (hK6 _ _ (c_seq (fun K7 hK7 => c_region (tp rfl (lv_move rfl) (tp rfl (lv_nilCheck rfl) (tp rfl (lv_fieldAddr (o' := 2) Tryz.underlying136 rfl Tryz.sizeOf134 rfl rfl) (tp rfl (lv_move rfl) (t_f2 ?_))))))))))
       refine t_f1 ?_
       refine tc rfl (en_fn Tryz.call125 rfl) (rdrop2_ok (l := s.q) ((s.q).getD 0 0) hok1 (by omega)) ?_
       rintro _ _ ⟨hok6, rfl, rfl⟩
       refine t_done (q_then_n (hK7 _ _ (c_seq (fun K8 hK8 => c_region (tp rfl (lv_move rfl) (tp rfl (lv_nilCheck rfl) (tp rfl (lv_fieldAddr (o' := 0) Tryz.underlying136 rfl Tryz.sizeOf134 rfl rfl) (tp rfl (lv_move rfl) (t_f2 (t_f1 ?_))))))))))
       refine tc rfl (en_fn Tryz.call74 rfl) (radd0_ok (A := A) (l := (s.a.erase x)) ((s.q).getD 0 0) hok3 (by omega)) ?_
       rintro _ _ ⟨bs7, cp8, hok9, hle10, rfl, rfl⟩
       refine t_done (q_then_n (hK8 _ _ (c_seq (fun K9 hK9 => c_region (tp rfl (lv_move rfl) (tp rfl (lv_assign rfl) (tp rfl (lv_assign rfl) (t_done (q_then_n (hK9 _ _ (c_ret ?_)))))))))))
       have hen := endS_next (x := x) hF.ok c2 (by have := c4; simpa using this) (by omega)
       refine t_f2 (t_f2 (t_f2 ?_))
       refine t_shutA (endS s x) (hF.ok.ende x) hen.1 hen.2.1 hok9 hok6 ?_
       refine q_ret2 rfl rfl rfl ?_
       exact ⟨by rw [hen.2.2.1, hen.2.2.2], rfl⟩
end Go.Proofs.YtanfdikglplkaaaGreatDoor
