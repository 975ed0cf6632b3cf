/- Parts Ta: own lemmas and contracts of the code that the claim reaches. -/
import Derived.Test.YtanfdikglplkaaaGreatDoorM03
import Derived.Test.YtanfdikglplkaaaGreatDoorM13
import Derived.Test.YtanfdikglplkaaaGreatDoorM06
import Derived.Test.YtanfdikglplkaaaGreatDoorM04
set_option linter.unusedSimpArgs false
set_option linter.unusedVariables false
set_option maxRecDepth 100000
namespace Go.Proofs.YtanfdikglplkaaaGreatDoor
open Go Go.Proofs Sp
set_option maxHeartbeats 4000000 in
theorem indexFuncP_ok {R : List HP} {p : Nat → Bool} {f n : Nat} {caps : List Value} {bx : Option Addr} {cx : Nat} (ps : List Nat) (hlp : ps.length = n) (hf : (∀ args w, (callFunc f args).run Tryz.prog w = .ok (.enter f args) w) ∧ ∀ k, k < n → Ok Tryz.prog f ([.pointer (some ⟨ps.getD k 0, 0, none⟩)] ++ caps) R (fun v M => v = .bool (p k) ∧ M = R)) (hx : Rd R bx (recs ptrF ps)) (okx : SlOk bx n) (lx : n ≤ 4611686018427387904) :
    Ok Tryz.prog 152 [(.slice bx n cx), (.func (.func f) #[] caps.toArray)] R
      (fun v M => v = .int .i64 (idxN p n) ∧ M = R) := by
 obtain ⟨hcall, hf⟩ := hf
 refine ok_of (N := 19) Tryz.func152 rfl rfl rfl (fun W => ?_)
 refine c_seq (fun K1 hK1 => c_region (tp rfl (lv_assign rfl) (t_done (q_then_n (hK1 _ _ (c_seq (fun K2 hK2 => c_seq (fun K3 hK3 => c_region (tp rfl (lv_move rfl) (tp rfl (lv_len Tryz.underlying137 rfl rfl) ?_))))))))))
 refine tp rfl (lv_move rfl) (t_done (q_then_n (hK3 _ _ (c_block ?_))))
 refine c_loop (γ := (Nat)) (fun (k : Nat) => k ≤ n ∧ (∀ j, j < k → p j = false)) (fun (k : Nat) => [(0, (.slice bx n cx)), (1, (.func (.func f) #[] caps.toArray)), (7, (vN n)), (8, (vN k))]) (fun (k : Nat) => R) (fun (k : Nat) => n - k) (0) ⟨by omega, fun j hj => by omega⟩ ⟨rfl, rfl, rfl, rfl, trivial⟩ (fun _ h => h) ?_
 rintro k K4 hF hK4
 try dsimp only at hF hK4 ⊢
 obtain ⟨hk, hall⟩ := hF
 refine c_seq (fun K5 hK5 => c_region ?_)
 by_cases h1 : ((k : Nat) : Int) < ((n : Nat) : Int)
 · refine tp rfl (lv_lss rfl rfl (decide_eq_true h1)) (t_done (q_then_n (hK5 _ _ (c_seq (fun K6 hK6 => c_true rfl (c_skip (q_then_n (hK6 _ _ (c_seq (fun K7 hK7 => c_block (c_seq (fun K8 hK8 => ?_))))))))))))
   refine c_region (tp rfl (lv_move rfl) (tp rfl (lv_assign rfl) (t_done (q_then_n (hK8 _ _ (c_seq (fun K9 hK9 => c_region (tp rfl (lv_move rfl) (tp rfl (lv_move rfl) (tp rfl (lv_move rfl) ?_))))))))))
   refine tp rfl (lv_indexAddr (k' := k) Tryz.underlying137 Tryz.sizeOf159 rfl rfl okx (by omega) (by omega) (by omega)) ?_
   refine tp rfl (lv_load Tryz.isAgg159 rfl (Rd.gives hx (ptrs_get (by first | omega | (simp; omega))))) ?_
   refine tc rfl (en_clo hcall rfl rfl) (hf k (by omega)) ?_
   rintro _ _ ⟨rfl, hMR⟩
   rw [hMR]; clear hMR
   refine t_done (q_then_n (hK9 _ _ ?_))
   refine c_split rfl (fun c2 => ?_) (fun c2 => ?_)
   · skip
     refine c_seq (fun K10 hK10 => c_region (tp rfl (lv_move rfl) (tp rfl (lv_assign rfl) (t_done (q_then_n (hK10 _ _ (c_ret ?_)))))))
     refine q_in_r ?_
     refine q_then_r ?_
     refine q_then_r ?_
     refine q_in_r ?_
     refine q_then_r ?_
     refine q_ret rfl rfl ?_
     exact ⟨by rw [idxN_at (k := k) (by omega) ‹_› hall], rfl⟩
   · skip
     refine c_skip (q_in_n (q_then_n (hK7 _ _ (c_region (tp rfl (lv_add (c := ((k + 1 : Nat) : Int)) rfl rfl (wr_i64_succ (by omega))) ?_)))))
     refine tp rfl (lv_move rfl) (t_done (q_then_n ?_))
     exact t_weak (by exact ⟨rfl, rfl, rfl, rfl, trivial⟩) ((hK4 (k + 1) ⟨by omega, all_succ hall ‹_›⟩ (by omega)))
 · refine tp rfl (lv_lss rfl rfl (decide_eq_false h1)) (t_done (q_then_n (hK5 _ _ (c_seq (fun K6 hK6 => c_false rfl (c_exit (q_then_x (q_then_x (q_in_x (q_then_n (hK2 _ _ ?_)))))))))))
   refine c_seq (fun K7 hK7 => c_region (tp rfl (lv_assign rfl) (t_done (q_then_n (hK7 _ _ (c_ret ?_))))))
   refine q_ret rfl rfl ?_
   exact ⟨by rw [idxN_none (fun j hj => hall j (by omega))], rfl⟩
set_option maxHeartbeats 4000000 in
theorem pdelete_ok {R : List HP} {bx : Option Addr} {cx : Nat} (xs : List Nat) (i : Nat) (hi : i < xs.length) :
    Ok Tryz.prog 124 [(.slice bx xs.length cx), (.int .i64 ((i : Nat) : Int)), (.int .i64 ((i + 1 : Nat) : Int))] ((SlV 159 1 (.slice bx xs.length cx) xs.length (recs ptrF xs)) :: R)
      (fun v M => v = .slice bx (xs.eraseIdx i).length cx ∧ M = SlV 159 1 (.slice bx (xs.eraseIdx i).length cx) (xs.eraseIdx i).length (recs ptrF (xs.eraseIdx i)) :: R) := by
 refine ok_of (N := 33) Tryz.func124 rfl rfl rfl (fun W => ?_)
 refine t_learn (fun _ h => slv_facts h) (fun hbx => ?_)
 obtain ⟨okx, hcx, hmx⟩ := hbx
 unfold maxLen at hmx
 refine c_seq (fun K1 hK1 => c_region (tp rfl (lv_assign rfl) (t_done (q_then_n (hK1 _ _ (c_seq (fun K2 hK2 => c_region (tp rfl (lv_move rfl) (tp rfl (lv_move rfl) (tp rfl (lv_move rfl) ?_))))))))))
 refine tp rfl (lv_move rfl) (tp rfl (lv_len Tryz.underlying137 rfl rfl) (tp rfl (lv_slice (l := i) (h := i + 1) (m := xs.length) (v := (.slice (sbase bx i xs.length 1) ((i + 1) - i) (xs.length - i))) Tryz.underlying137 Tryz.sizeOf159 rfl rfl rfl rfl (.inl ⟨_, _, rfl, (by omega), (by omega), (by omega)⟩) (.inl ⟨_, _, rfl, (by omega), (by omega), (by omega)⟩) (.inl ⟨_, _, rfl, (by omega), (by omega), (by omega)⟩) (by simp) rfl) ?_))
 refine t_done (q_then_n (hK2 _ _ (c_seq (fun K3 hK3 => c_seq (fun K4 hK4 => c_region (tp rfl (lv_move rfl) (tp rfl (lv_move rfl) (tp rfl (lv_eql rfl rfl (beq_eq_false_iff_ne.2 (by omega))) ?_))))))))
 refine t_done (q_then_n (hK4 _ _ (c_false rfl (c_skip (q_then_n (hK3 _ _ (c_seq (fun K5 hK5 => c_region (tp rfl (lv_move rfl) (tp rfl (lv_len Tryz.underlying137 rfl rfl) (tp rfl (lv_assign rfl) ?_)))))))))))
 refine t_done (q_then_n (hK5 _ _ (c_seq (fun K6 hK6 => ?_))))
 refine c_draw (γ := Unit) (n := 8) Tryz.mixed rfl rfl (fun _ S => True) (fun _ => [(0, 20, (.slice bx xs.length cx)), (1, 21, (vN i)), (2, 22, (.slice bx i cx)), (3, 23, (.slice bx xs.length cx)), (4, 24, (.int .i64 ((i + 1 : Nat) : Int))), (5, 25, (.slice (sbase bx (i + 1) cx 1) (xs.length - (i + 1)) (cx - (i + 1)))), (6, 26, (.slice bx (i + (xs.length - (i + 1))) cx)), (7, 0, (.slice bx (i + (xs.length - (i + 1))) cx))]) (fun _ S => (bif S 6 then (SlV 159 1 (.slice bx xs.length cx) xs.length (recs ptrF (xs.take i ++ (xs.drop (i + 1)) ++ xs.drop (i + (xs.length - (i + 1)))))) else (SlV 159 1 (.slice bx xs.length cx) xs.length (recs ptrF xs))) :: R) (()) trivial (fun _ h => h) (fun _ _ h => h) ?_ ?_
 · refine ⟨?_, ?_, ?_, ?_, ?_, ?_, ?_, ?_, trivial⟩
   · intro _ S h s D p K k; exact d_lv1 (look_b1 (t := 0) 7 (nf s D (k := 7) (i := 0) rfl) rfl rfl) (lv_move rfl) 0 rfl rfl s (k () h)
   · intro _ S h s D p K k; exact d_lv1 (look_b (t := 1) rfl rfl) (lv_move rfl) 1 rfl rfl s (k () h)
   · rintro _ S hF hS D hp K hK; try dsimp only
     exact d_lv2 (lkr hp 0 rfl rfl) (lkr hp 1 rfl rfl) (lv_slice (l := 0) (h := i) (m := cx) (v := (.slice bx i cx)) Tryz.underlying137 Tryz.sizeOf159 rfl rfl rfl rfl (.inr ⟨rfl, rfl⟩) (.inl ⟨_, _, rfl, (by omega), (by omega), (by omega)⟩) (.inr ⟨rfl, rfl⟩) (by simp) (by rw [sbase_zero]; rfl)) 2 rfl rfl hS (hK () hF)
   · intro _ S h s D p K k; exact d_lv1 (look_b1 (t := 0) 7 (nf s D (k := 7) (i := 3) rfl) rfl rfl) (lv_move rfl) 3 rfl rfl s (k () h)
   · intro _ S h s D p K k; exact d_lv1 (look_b (t := 2) rfl rfl) (lv_move rfl) 4 rfl rfl s (k () h)
   · rintro _ S hF hS D hp K hK; try dsimp only
     exact d_lv2 (lkr hp 3 rfl rfl) (lkr hp 4 rfl rfl) (lv_slice (l := i + 1) (h := xs.length) (m := cx) (v := (.slice (sbase bx (i + 1) cx 1) (xs.length - (i + 1)) (cx - (i + 1)))) Tryz.underlying137 Tryz.sizeOf159 rfl rfl rfl rfl (.inr ⟨rfl, rfl⟩) (.inr ⟨rfl, rfl⟩) (.inl ⟨_, _, rfl, (by omega), (by omega), (by omega)⟩) (by simp) rfl) 5 rfl rfl hS (hK () hF)
   · rintro _ S hF hS D hp K hK
     try dsimp only at hF ⊢
     have s2 := hp 2 rfl
     have s5 := hp 5 rfl
     refine d_need (small := [(22, (.slice bx i cx)), (25, (.slice (sbase bx (i + 1) cx 1) (xs.length - (i + 1)) (cx - (i + 1))))]) ⟨look_row rfl 2 rfl s2, look_row rfl 5 rfl s5, trivial⟩ ?_
     refine t_cF hS ?_
     refine tm rfl (mv_appendOwn (i := Tryz.t159) (k := i) Tryz.underlying137 Tryz.type159 rfl rfl rfl (fun hz => slok_sbase okx (by omega) hz) (by omega) (by first | exact recs_len ptrF_len _ | (rw [recs_len ptrF_len]; congr 1; first | (simp; done) | (simp; omega))) (rd_sb_recs (l := i + 1) (m := cx) ptrF_len (rd_sl (.head _)) okx rfl hcx) (recs_one ptrF_one) (by omega) (recs_splice ptrF_len)) ?_
     rintro _ _ ⟨rfl, rfl⟩
     exact d_closes ⟨look_row rfl 2 rfl s2, look_row rfl 5 rfl s5, trivial⟩ 6 rfl rfl rfl hS (AgreeR.refl _) (t_sat (fun _ h => h) (hK () trivial))
   · intro _ S h s D p K k; exact d_lv1 (lkr p 6 rfl rfl) (lv_assign rfl) 7 rfl rfl s (k () h)
 · rintro _ hF
   try dsimp only at hF ⊢
   refine t_weak (E' := [(0, (.slice bx (i + (xs.length - (i + 1))) cx)), (1, (vN i)), (2, (.int .i64 ((i + 1 : Nat) : Int))), (6, (.slice none 0 0)), (7, (vN xs.length)), (16, (.bool false))]) ⟨rfl, rfl, rfl, rfl, rfl, rfl, trivial⟩ ?_
   refine q_then_n (hK6 _ _ (c_seq (fun K7 hK7 => c_region (tp rfl (lv_move rfl) (tp rfl (lv_move rfl) (tp rfl (lv_len Tryz.underlying137 rfl rfl) (tp rfl (lv_move rfl) (tp rfl (lv_slice (l := i + (xs.length - (i + 1))) (h := xs.length) (m := cx) (v := (.slice (sbase bx (i + (xs.length - (i + 1))) cx 1) (xs.length - (i + (xs.length - (i + 1)))) (cx - (i + (xs.length - (i + 1)))))) Tryz.underlying137 Tryz.sizeOf159 rfl rfl rfl rfl (.inr ⟨rfl, rfl⟩) (.inl ⟨_, _, rfl, (by omega), (by omega), (by omega)⟩) (.inl ⟨_, _, rfl, (by omega), (by omega), (by omega)⟩) (by simp) rfl) ?_))))))))
   refine tm0 (mv_clear (l := i + (xs.length - (i + 1))) (c := cx) Tryz.underlying137 Tryz.zeroValue159 rfl rfl (by decide) rfl okx (by omega) (by omega) (by omega)) ?_
   rintro _ _ ⟨zs1, rfl⟩
   refine t_done (q_then_n (hK7 _ _ (c_seq (fun K8 hK8 => c_region (tp rfl (lv_move rfl) (tp rfl (lv_assign rfl) (t_done (q_then_n (hK8 _ _ (c_ret ?_))))))))))
   refine t_sat (fun _ h => sat_cut_recs ptrF_len (by omega) (by omega) (by simp; omega) h) ?_
   rw [erase_takeG hi _ (by omega)]
   rw [show i + (xs.length - (i + 1)) = (xs.eraseIdx i).length by rw [List.length_eraseIdx, if_pos hi]; omega]
   refine q_ret rfl rfl ?_
   exact ⟨rfl, rfl⟩
theorem pdelete_ok_n {R : List HP} {bx : Option Addr} {cx n : Nat} (xs : List Nat) (hn : xs.length = n) (i : Nat) (hi : i < n) : Ok Tryz.prog 124 [.slice bx n cx, .int .i64 ((i : Nat) : Int), .int .i64 ((i + 1 : Nat) : Int)] (SlV 159 1 (.slice bx n cx) n (recs ptrF xs) :: R)
      (fun v M => v = .slice bx (xs.eraseIdx i).length cx ∧ M = SlV 159 1 (.slice bx (xs.eraseIdx i).length cx) (xs.eraseIdx i).length (recs ptrF (xs.eraseIdx i)) :: R) := by subst hn; exact pdelete_ok xs i hi
theorem place1_ok {R : List HP} {b k : Nat} {ps : List Nat} {ms : List M3} (hlp : ps.length = ms.length) (hk : k < ms.length) (id : Int) :
    Ok Tryz.prog 153 [(.pointer (some ⟨(ps.getD k 0), 0, none⟩)), (.pointer (some ⟨b, 0, none⟩))] ((Blk b [(.int .i64 id)] 3) :: (Join (mems ps ms)) :: R)
      (fun v M => v = .bool (decide ((ms.getD k M3.z).id = id)) ∧ M = Blk b [.int .i64 id] 3 :: Join (mems ps ms) :: R) := by
 refine ok_of (N := 10) Tryz.func153 rfl rfl rfl (fun W => ?_)
 refine t_f1 ?_
 refine t_takeM (i := k) hlp hk ?_
 refine c_seq (fun K1 hK1 => c_region (tp rfl (lv_assign rfl) (t_done (q_then_n (hK1 _ _ (c_seq (fun K2 hK2 => ?_)))))))
 refine c_draw (γ := Unit) (n := 7) Tryz.mixed rfl rfl (fun _ S => True) (fun _ => [(0, 4, (vP (ps.getD k 0) 0)), (1, 5, (vP (ps.getD k 0) 0)), (2, 6, (vP (ps.getD k 0) 0)), (3, 7, (.int .i64 ((ms.getD k M3.z).id))), (4, 8, (.int .i64 id)), (5, 9, (.bool (((ms.getD k M3.z).id) == id))), (6, 3, (.bool (((ms.getD k M3.z).id) == id)))]) (fun _ S => (Blk (ps.getD k 0) [(.int .i64 ((ms.getD k M3.z).id)), (.int .i64 ((ms.getD k M3.z).w)), (.int .i64 ((ms.getD k M3.z).c))] 161) :: (Join (mems (ps.eraseIdx k) (ms.eraseIdx k))) :: (Blk b [(.int .i64 id)] 3) :: R) (()) trivial (fun _ h => h) (fun _ _ h => h) ?_ ?_
 · refine ⟨?_, ?_, ?_, ?_, ?_, ?_, ?_, trivial⟩
   · intro _ S h s D p K k; exact d_lv1 (look_b (t := 0) rfl rfl) (lv_move rfl) 0 rfl rfl s (k () h)
   · intro _ S h s D p K k; exact d_lv1 (lkr p 0 rfl rfl) (lv_nilCheck rfl) 1 rfl rfl s (k () h)
   · intro _ S h s D p K k; exact d_lv1 (lkr p 1 rfl rfl) (lv_fieldAddr (o' := 0) Tryz.underlying161 rfl Tryz.sizeOf3 rfl rfl) 2 rfl rfl s (k () h)
   · intro _ S h s D p K k; exact d_lv1 (lkr p 2 rfl rfl) (lv_load Tryz.isAgg3 rfl (gives_blk (.head _) rfl)) 3 rfl rfl s (k () h)
   · intro _ S h s D p K k; exact d_lv1 (look_b (t := 1) rfl rfl) (lv_load Tryz.isAgg3 rfl (gives_blk (.tail _ (.tail _ (.head _))) rfl)) 4 rfl rfl s (k () h)
   · intro _ S h s D p K k; exact d_lv2 (lkr p 3 rfl rfl) (lkr p 4 rfl rfl) (lv_eql rfl rfl rfl) 5 rfl rfl s (k () h)
   · intro _ S h s D p K k; exact d_lv1 (lkr p 5 rfl rfl) (lv_assign rfl) 6 rfl rfl s (k () h)
 · rintro _ hF
   try dsimp only at hF ⊢
   refine t_weak (E' := [(0, (vP (ps.getD k 0) 0)), (1, (vP b 0)), (3, (.bool (((ms.getD k M3.z).id) == id)))]) ⟨rfl, rfl, rfl, trivial⟩ ?_
   refine q_then_n (hK2 _ _ (c_ret (t_f1 (t_f1 ?_))))
   refine t_putM0 hlp hk ?_
   refine t_f1 ?_
   refine q_ret rfl rfl ?_
   exact ⟨rfl, rfl⟩
theorem place_ok {R : List HP} {p n ca : Nat} {vq va : Value} {ba : Option Addr} {ps : List Nat} {ms : List M3} (hlp : ps.length = n) (hn : ms.length = n) (hok : SlOk ba n) (hl : n ≤ 100000) (id : Int) :
    Ok Tryz.prog 123 [(.pointer (some ⟨p, 0, none⟩)), (.int .i64 id)] ((Blk p [vq, (.slice ba n ca), va] 139) :: (SlV 159 1 (.slice ba n ca) n (recs ptrF ps)) :: (Join (mems ps ms)) :: R)
      (fun v M => v = .int .i64 (placeM ms id) ∧ M = Blk p [vq, .slice ba n ca, va] 139 :: SlV 159 1 (.slice ba n ca) n (recs ptrF ps) :: Join (mems ps ms) :: R) := by
 refine ok_of (N := 11) Tryz.func123 rfl rfl rfl (fun W => ?_)
 refine c_seq (fun K1 hK1 => c_region ?_)
 refine tm rfl (mv_box rfl rfl) ?_
 rintro _ _ ⟨b1, rfl, rfl⟩
 refine tp rfl (lv_assign rfl) (t_done (q_then_n (hK1 _ _ (c_seq (fun K2 hK2 => c_region (tp rfl (lv_move rfl) (tp rfl (lv_nilCheck rfl) (tp rfl (lv_fieldAddr (o' := 1) Tryz.underlying139 rfl Tryz.sizeOf137 rfl rfl) (tp rfl (lv_load Tryz.isAgg137 rfl (gives_blk (.tail _ (.head _)) rfl)) (tp rfl (lv_makeFunc rfl) ?_))))))))))
 refine t_f3 (t_f1 ?_)
 refine tc rfl (en_fn Tryz.call152 rfl) (indexFuncP_ok (p := fun k => decide ((ms.getD k M3.z).id = id)) (n := n) ps hlp ⟨Tryz.call153, fun k hk => place1_ok (hlp.trans hn.symm) (by omega) id⟩ (rd_sl (.tail _ (.tail _ (.tail _ (.head _))))) hok (by omega)) ?_
 rintro _ _ ⟨rfl, rfl⟩
 rw [show idxN (fun k => decide ((ms.getD k M3.z).id = id)) n = placeM ms id from by rw [← placeM_idxN, hn]]
 refine tp rfl (lv_assign rfl) (t_done (q_then_n (hK2 _ _ (c_ret (t_drop (t_f2 (t_f2 ?_)))))))
 refine q_ret rfl rfl ?_
 exact ⟨rfl, rfl⟩
set_option maxHeartbeats 4000000 in
theorem gain_ok {R : List HP} {p m : Nat} {q i_ w_ c_ : Int} {v1 v2 : Value} (h : 0 ≤ q * w_ ∧ q * w_ ≤ 200000000) :
    Ok Tryz.prog 106 [(.pointer (some ⟨p, 0, none⟩)), (.pointer (some ⟨m, 0, none⟩))] ((Blk p [(.int .i64 q), v1, v2] 139) :: (Blk m [(.int .i64 i_), (.int .i64 w_), (.int .i64 c_)] 161) :: R)
      (fun v M => v = .int .i64 (q * w_) ∧ M = Blk p [.int .i64 q, v1, v2] 139 :: Blk m [.int .i64 i_, .int .i64 w_, .int .i64 c_] 161 :: R) := by
 refine ok_of (N := 14) Tryz.func106 rfl rfl rfl (fun W => ?_)
 refine c_seq (fun K1 hK1 => c_region (tp rfl (lv_assign rfl) (t_done (q_then_n (hK1 _ _ (c_seq (fun K2 hK2 => ?_)))))))
 refine c_draw (γ := Unit) (n := 10) Tryz.mixed rfl rfl (fun _ S => True) (fun _ => [(0, 5, (vP p 0)), (1, 6, (vP p 0)), (2, 7, (vP p 0)), (3, 8, (.int .i64 q)), (4, 9, (vP m 0)), (5, 10, (vP m 0)), (6, 11, (vP m 1)), (7, 12, (.int .i64 w_)), (8, 13, (.int .i64 (q * w_))), (9, 4, (.int .i64 (q * w_)))]) (fun _ S => (Blk p [(.int .i64 q), v1, v2] 139) :: (Blk m [(.int .i64 i_), (.int .i64 w_), (.int .i64 c_)] 161) :: R) (()) trivial (fun _ h => h) (fun _ _ h => h) ?_ ?_
 · refine ⟨?_, ?_, ?_, ?_, ?_, ?_, ?_, ?_, ?_, ?_, trivial⟩
   · intro _ S h s D p K k; exact d_lv1 (look_b (t := 0) rfl rfl) (lv_move rfl) 0 rfl rfl s (k () h)
   · intro _ S h s D p K k; exact d_lv1 (lkr p 0 rfl rfl) (lv_nilCheck rfl) 1 rfl rfl s (k () h)
   · intro _ S h s D p K k; exact d_lv1 (lkr p 1 rfl rfl) (lv_fieldAddr (o' := 0) Tryz.underlying139 rfl Tryz.sizeOf3 rfl rfl) 2 rfl rfl s (k () h)
   · intro _ S h s D p K k; exact d_lv1 (lkr p 2 rfl rfl) (lv_load Tryz.isAgg3 rfl (gives_blk (.head _) rfl)) 3 rfl rfl s (k () h)
   · intro _ S h s D p K k; exact d_lv1 (look_b (t := 1) rfl rfl) (lv_move rfl) 4 rfl rfl s (k () h)
   · intro _ S h s D p K k; exact d_lv1 (lkr p 4 rfl rfl) (lv_nilCheck rfl) 5 rfl rfl s (k () h)
   · intro _ S h s D p K k; exact d_lv1 (lkr p 5 rfl rfl) (lv_fieldAddr (o' := 1) Tryz.underlying161 rfl Tryz.sizeOf3 rfl rfl) 6 rfl rfl s (k () h)
   · intro _ S h s D p K k; exact d_lv1 (lkr p 6 rfl rfl) (lv_load Tryz.isAgg3 rfl (gives_blk (.tail _ (.head _)) rfl)) 7 rfl rfl s (k () h)
   · intro _ S h s D p K k; exact d_lv2 (lkr p 3 rfl rfl) (lkr p 7 rfl rfl) (lv_mul (c := q * w_) rfl rfl (wr_i64 (by omega) (by omega))) 8 rfl rfl s (k () h)
   · intro _ S h s D p K k; exact d_lv1 (lkr p 8 rfl rfl) (lv_assign rfl) 9 rfl rfl s (k () h)
 · rintro _ hF
   try dsimp only at hF ⊢
   refine t_weak (E' := [(0, (vP p 0)), (1, (vP m 0)), (4, (.int .i64 (q * w_)))]) ⟨rfl, rfl, rfl, trivial⟩ ?_
   refine q_then_n (hK2 _ _ (c_ret ?_))
   refine q_ret rfl rfl ?_
   exact ⟨rfl, rfl⟩
set_option maxHeartbeats 4000000 in
theorem costs_ok {R : List HP} {p n ca : Nat} {vq va : Value} {ba : Option Addr} {ps : List Nat} {ms : List M3} (hlp : ps.length = n) (hn : ms.length = n) (hok : SlOk ba n) (hl : n ≤ 100000) (hnd : (ms.map (·.id)).Nodup) (ws : List (Int × Int)) {bl : Option Addr} {cl : Nat} (hw : Rd R bl (pairs ws)) (okl : SlOk bl ws.length) (lw : ws.length ≤ 1000000) :
    Ok Tryz.prog 104 [(.pointer (some ⟨p, 0, none⟩)), (.slice bl ws.length cl)] ((Blk p [vq, (.slice ba n ca), va] 139) :: (SlV 159 1 (.slice ba n ca) n (recs ptrF ps)) :: (Join (mems ps ms)) :: R)
      (fun v M => ∃ bs cp, SlOk bs n ∧ n ≤ cp ∧ v = .tuple #[.slice bs n cp, .bool (anyPos (costsL ms ws))] ∧ M = SlV 3 1 (.slice bs n cp) n (ints .i64 (costsL ms ws)) :: Blk p [vq, .slice ba n ca, va] 139 :: SlV 159 1 (.slice ba n ca) n (recs ptrF ps) :: Join (mems ps ms) :: R) := by
 refine ok_of (N := 52) Tryz.func104 rfl rfl rfl (fun W => ?_)
 refine c_seq (fun K1 hK1 => c_region (tp rfl (lv_assign rfl) (tp rfl (lv_assign rfl) (t_done (q_then_n (hK1 _ _ (c_seq (fun K2 hK2 => c_region (tp rfl (lv_move rfl) (tp rfl (lv_nilCheck rfl) ?_))))))))))
 refine tp rfl (lv_fieldAddr (o' := 1) Tryz.underlying139 rfl Tryz.sizeOf137 rfl rfl) (tp rfl (lv_load Tryz.isAgg137 rfl (gives_blk (.head _) rfl)) (tp rfl (lv_len Tryz.underlying137 rfl rfl) ?_))
 refine tm rfl (mv_makeSlice (i := Tryz.t3) Tryz.underlying34 Tryz.type3 rfl rfl rfl rfl rfl (by omega) (by rw [show Tryz.t3.bytes = 8 from rfl]; omega) (by omega)) ?_
 rintro _ _ ⟨bs1, cp2, hok3, hle4, rfl, rfl⟩
 rw [ints_rep]
 refine tp rfl (lv_assign rfl) (t_done (q_then_n (hK2 _ _ (c_seq (fun K3 hK3 => c_seq (fun K4 hK4 => c_region (tp rfl (lv_move rfl) (tp rfl (lv_len Tryz.underlying103 rfl rfl) (tp rfl (lv_move rfl) (t_done ?_))))))))))
 refine q_then_n (hK4 _ _ (c_block ?_))
 simp only [Int.toNat_natCast]
 rw [show List.replicate n (0 : Int) = costsL ms (ws.take 0) from by rw [List.take_zero, costsL_nil, hn]]
 refine c_loop (γ := (Nat)) (fun (k : Nat) => k ≤ ws.length) (fun (k : Nat) => [(0, (vP p 0)), (1, (.slice bl ws.length cl)), (4, (.slice bs1 n cp2)), (5, (.bool (anyPos (costsL ms (ws.take k))))), (15, (.slice bl ws.length cl)), (16, (vN ws.length)), (17, (vN k))]) (fun (k : Nat) => (SlV 3 1 (.slice bs1 n cp2) n (ints .i64 (costsL ms (ws.take k)))) :: (Blk p [vq, (.slice ba n ca), va] 139) :: (SlV 159 1 (.slice ba n ca) n (recs ptrF ps)) :: (Join (mems ps ms)) :: R) (fun (k : Nat) => ws.length - k) (0) (by omega) ⟨rfl, rfl, rfl, (by rw [List.take_zero, costsL_nil, anyPos_rep]; rfl), rfl, rfl, rfl, trivial⟩ (fun _ h => h) ?_
 rintro k K5 hF hK5
 try dsimp only at hF hK5 ⊢
 have hcl := costsL_len ms (ws.take k)
 have hpg := placeM_ge ms (ws.getD k (0, 0)).1
 refine c_seq (fun K6 hK6 => c_region ?_)
 by_cases h5 : ((k : Nat) : Int) < ((ws.length : Nat) : Int)
 · refine tp rfl (lv_lss rfl rfl (decide_eq_true h5)) (t_done (q_then_n (hK6 _ _ (c_seq (fun K7 hK7 => c_true rfl (c_skip (q_then_n (hK7 _ _ (c_seq (fun K8 hK8 => c_block (c_seq (fun K9 hK9 => ?_))))))))))))
   refine c_region (tp rfl (lv_indexAddr (k' := k * 2) Tryz.underlying103 Tryz.sizeOf110 rfl rfl okl (by omega) (by omega) (by omega)) ?_)
   refine tp rfl (lv_loadAgg_ad (cs := [(.int .i64 (((ws).getD k (0, 0)).1)), (.int .i64 (((ws).getD k (0, 0)).2))]) Tryz.isAgg110 Tryz.sizeOf110 rfl (gives_all2 (Rd.gives (Rd.cons (Rd.cons (Rd.cons (Rd.cons hw)))) (pairs_get0 (by omega))) (Rd.gives (Rd.cons (Rd.cons (Rd.cons (Rd.cons hw)))) (pairs_get1 (by omega))))) ?_
   refine tm rfl (mv_alloc Tryz.zeroValue110 rfl) ?_
   rintro _ _ ⟨b6, rfl, rfl⟩
   refine ts (sv_blkAgg (news := [(.int .i64 (((ws).getD k (0, 0)).1)), (.int .i64 (((ws).getD k (0, 0)).2))]) Tryz.sizeOf110 rfl rfl rfl rfl (Nat.le_of_ble_eq_true rfl) rfl) ?_
   refine t_done (q_then_n (hK9 _ _ (c_seq (fun K10 hK10 => c_region (tp rfl (lv_move rfl) (tp rfl (lv_fieldAddr (o' := 0) Tryz.underlying110 rfl Tryz.sizeOf3 rfl rfl) (tp rfl (lv_load Tryz.isAgg3 rfl (gives_blk (.head _) rfl)) (t_f4 (t_f4 (t_f4 ?_))))))))))
   refine tc rfl (en_fn Tryz.call123 rfl) (place_ok hlp hn hok (by omega) (((ws).getD k (0, 0)).1)) ?_
   rintro _ _ ⟨rfl, rfl⟩
   refine tp rfl (lv_assign rfl) (t_done (q_then_n (hK10 _ _ (c_seq (fun K11 hK11 => c_region (tp rfl (lv_move rfl) ?_))))))
   by_cases h7 : (placeM ms (((ws).getD k (0, 0)).1)) ≥ 0
   · refine tp rfl (lv_geq rfl rfl (decide_eq_true h7)) (tp rfl (lv_move rfl) ?_)
     refine t_guard rfl rfl ?_
     refine tp rfl (lv_move rfl) ?_
     refine t_guard rfl rfl ?_
     refine tp rfl (lv_move rfl) ?_
     refine t_guard rfl rfl ?_
     refine tp rfl (lv_indexAddr (k' := (placeM ms (((ws).getD k (0, 0)).1)).toNat) Tryz.underlying34 Tryz.sizeOf3 rfl rfl hok3 (by omega) (by omega) (by omega)) ?_
     refine t_guard rfl rfl ?_
     refine tp rfl (lv_load Tryz.isAgg3 rfl (gives_sl (.tail _ (.tail _ (.tail _ (.tail _ (.head _))))) (ints_get (by first | omega | (simp; omega))))) ?_
     refine t_guard rfl rfl ?_
     by_cases h8 : ((costsL ms (ws.take k)).getD ((placeM ms (((ws).getD k (0, 0)).1)).toNat) 0) = 0
     · refine tp rfl (lv_eql rfl rfl (beq_iff_eq.2 h8)) (tp rfl (lv_pick_t rfl rfl) (tp rfl (lv_move rfl) ?_))
       refine t_guard rfl rfl ?_
       refine tp rfl (lv_fieldAddr (o' := 1) Tryz.underlying110 rfl Tryz.sizeOf3 rfl rfl) ?_
       refine t_guard rfl rfl ?_
       refine tp rfl (lv_load Tryz.isAgg3 rfl (gives_blk (.tail _ (.tail _ (.tail _ (.head _)))) rfl)) ?_
       refine t_guard rfl rfl ?_
       by_cases h9 : (((ws).getD k (0, 0)).2) ≥ 1
       · refine tp rfl (lv_geq rfl rfl (decide_eq_true h9)) (tp rfl (lv_pick_t rfl rfl) (tp rfl (lv_move rfl) ?_))
         refine t_guard rfl rfl ?_
         refine tp rfl (lv_fieldAddr (o' := 1) Tryz.underlying110 rfl Tryz.sizeOf3 rfl rfl) ?_
         refine t_guard rfl rfl ?_
         refine tp rfl (lv_load Tryz.isAgg3 rfl (gives_blk (.tail _ (.tail _ (.tail _ (.head _)))) rfl)) ?_
         refine t_guard rfl rfl ?_
         by_cases h10 : (((ws).getD k (0, 0)).2) ≤ 1048576
         · refine tp rfl (lv_leq rfl rfl (decide_eq_true h10)) (tp rfl (lv_pick_t rfl rfl) (t_done (q_then_n (hK11 _ _ (c_true rfl (c_region (tp rfl (lv_move rfl) (tp rfl (lv_move rfl) (tp rfl (lv_fieldAddr (o' := 1) Tryz.underlying110 rfl Tryz.sizeOf3 rfl rfl) (tp rfl (lv_load Tryz.isAgg3 rfl (gives_blk (.tail _ (.tail _ (.tail _ (.head _)))) rfl)) ?_))))))))))
           refine tp rfl (lv_indexAddr (k' := (placeM ms (((ws).getD k (0, 0)).1)).toNat) Tryz.underlying34 Tryz.sizeOf3 rfl rfl hok3 (by omega) (by omega) (by omega)) ?_
           refine t_f4 ?_
           refine ts (sv_sl Tryz.sizeOf3 rfl rfl rfl (by first | (rw [ints_length]; omega) | (simp; omega) | omega) ints_set) ?_
           refine tp rfl (lv_assign rfl) (t_done (q_in_n (q_then_n (hK8 _ _ (c_region (tp rfl (lv_add (c := ((k + 1 : Nat) : Int)) rfl rfl (wr_i64_succ (by omega))) ?_))))))
           refine tp rfl (lv_move rfl) (t_done (q_then_n (t_f4 (t_drop ?_))))
           have hnew : costsL ms (ws.take (k + 1)) = ((costsL ms (ws.take k))).set ((placeM ms (((ws).getD k (0, 0)).1)).toNat) (((ws).getD k (0, 0)).2) := by rw [take_succ_getD (by omega) (0, 0), costs_step hnd]; first | exact if_pos ⟨by omega, by omega, by omega, by omega⟩ | exact if_neg (fun hh => by omega)
           rw [← hnew]
           exact t_weak (by exact ⟨rfl, rfl, rfl, (by rw [hnew, anyPos_set (by omega) (by omega)]; rfl), rfl, rfl, rfl, trivial⟩) ((hK5 (k + 1) (by omega) (by omega)))
         · refine tp rfl (lv_leq rfl rfl (decide_eq_false h10)) (tp rfl (lv_pick_t rfl rfl) (t_done (q_then_n (hK11 _ _ (c_false rfl (c_skip (q_in_n (q_then_n (hK8 _ _ (c_region (tp rfl (lv_add (c := ((k + 1 : Nat) : Int)) rfl rfl (wr_i64_succ (by omega))) ?_)))))))))))
           refine tp rfl (lv_move rfl) (t_done (q_then_n (t_f3 (t_drop (t_f2 (t_f2 (t_f2 (t_f3 ?_))))))))
           have hnew : costsL ms (ws.take (k + 1)) = costsL ms (ws.take k) := by rw [take_succ_getD (by omega) (0, 0), costs_step hnd]; first | exact if_pos ⟨by omega, by omega, by omega, by omega⟩ | exact if_neg (fun hh => by omega)
           rw [← hnew]
           exact t_weak (by exact ⟨rfl, rfl, rfl, (by rw [hnew]; rfl), rfl, rfl, rfl, trivial⟩) ((hK5 (k + 1) (by omega) (by omega)))
       · refine tp rfl (lv_geq rfl rfl (decide_eq_false h9)) (tp rfl (lv_pick_t rfl rfl) (tp rfl (lv_move rfl) ?_))
         refine t_skip rfl rfl rfl ?_
         refine t_skip rfl rfl rfl ?_
         refine t_skip rfl rfl rfl ?_
         refine tp rfl (lv_pick_f rfl rfl) (t_done (q_then_n (hK11 _ _ (c_false rfl (c_skip (q_in_n (q_then_n (hK8 _ _ (c_region (tp rfl (lv_add (c := ((k + 1 : Nat) : Int)) rfl rfl (wr_i64_succ (by omega))) ?_))))))))))
         refine tp rfl (lv_move rfl) (t_done (q_then_n (t_f3 (t_drop (t_f2 (t_f2 (t_f2 (t_f3 ?_))))))))
         have hnew : costsL ms (ws.take (k + 1)) = costsL ms (ws.take k) := by rw [take_succ_getD (by omega) (0, 0), costs_step hnd]; first | exact if_pos ⟨by omega, by omega, by omega, by omega⟩ | exact if_neg (fun hh => by omega)
         rw [← hnew]
         exact t_weak (by exact ⟨rfl, rfl, rfl, (by rw [hnew]; rfl), rfl, rfl, rfl, trivial⟩) ((hK5 (k + 1) (by omega) (by omega)))
     · refine tp rfl (lv_eql rfl rfl (beq_eq_false_iff_ne.2 h8)) (tp rfl (lv_pick_t rfl rfl) (tp rfl (lv_move rfl) ?_))
       refine t_skip rfl rfl rfl ?_
       refine t_skip rfl rfl rfl ?_
       refine t_skip rfl rfl rfl ?_
       refine tp rfl (lv_pick_f rfl rfl) (tp rfl (lv_move rfl) ?_)
       refine t_skip rfl rfl rfl ?_
       refine t_skip rfl rfl rfl ?_
       refine t_skip rfl rfl rfl ?_
       refine tp rfl (lv_pick_f rfl rfl) (t_done (q_then_n (hK11 _ _ (c_false rfl (c_skip (q_in_n (q_then_n (hK8 _ _ (c_region (tp rfl (lv_add (c := ((k + 1 : Nat) : Int)) rfl rfl (wr_i64_succ (by omega))) ?_))))))))))
       refine tp rfl (lv_move rfl) (t_done (q_then_n (t_f3 (t_drop (t_f2 (t_f2 (t_f2 (t_f3 ?_))))))))
       have hnew : costsL ms (ws.take (k + 1)) = costsL ms (ws.take k) := by rw [take_succ_getD (by omega) (0, 0), costs_step hnd]; first | exact if_pos ⟨by omega, by omega, by omega, by omega⟩ | exact if_neg (fun hh => by omega)
       rw [← hnew]
       exact t_weak (by exact ⟨rfl, rfl, rfl, (by rw [hnew]; rfl), rfl, rfl, rfl, trivial⟩) ((hK5 (k + 1) (by omega) (by omega)))
   · refine tp rfl (lv_geq rfl rfl (decide_eq_false h7)) (tp rfl (lv_move rfl) ?_)
     refine t_skip rfl rfl rfl ?_
     refine t_skip rfl rfl rfl ?_
     refine t_skip rfl rfl rfl ?_
     refine t_skip rfl rfl rfl ?_
     refine t_skip rfl rfl rfl ?_
     refine tp rfl (lv_pick_f rfl rfl) (tp rfl (lv_move rfl) ?_)
     refine t_skip rfl rfl rfl ?_
     refine t_skip rfl rfl rfl ?_
     refine t_skip rfl rfl rfl ?_
     refine tp rfl (lv_pick_f rfl rfl) (tp rfl (lv_move rfl) ?_)
     refine t_skip rfl rfl rfl ?_
     refine t_skip rfl rfl rfl ?_
     refine t_skip rfl rfl rfl ?_
     refine tp rfl (lv_pick_f rfl rfl) (t_done (q_then_n (hK11 _ _ (c_false rfl (c_skip (q_in_n (q_then_n (hK8 _ _ (c_region (tp rfl (lv_add (c := ((k + 1 : Nat) : Int)) rfl rfl (wr_i64_succ (by omega))) ?_))))))))))
     refine tp rfl (lv_move rfl) (t_done (q_then_n (t_f3 (t_drop (t_f2 (t_f2 (t_f2 (t_f3 ?_))))))))
     have hnew : costsL ms (ws.take (k + 1)) = costsL ms (ws.take k) := by rw [take_succ_getD (by omega) (0, 0), costs_step hnd]; first | exact if_pos ⟨by omega, by omega, by omega, by omega⟩ | exact if_neg (fun hh => by omega)
     rw [← hnew]
     exact t_weak (by exact ⟨rfl, rfl, rfl, (by rw [hnew]; rfl), rfl, rfl, rfl, trivial⟩) ((hK5 (k + 1) (by omega) (by omega)))
 · refine tp rfl (lv_lss rfl rfl (decide_eq_false h5)) (t_done (q_then_n (hK6 _ _ (c_seq (fun K7 hK7 => c_false rfl (c_exit (q_then_x (q_then_x (q_in_x (q_then_n (hK3 _ _ ?_)))))))))))
   refine c_seq (fun K8 hK8 => c_region (tp rfl (lv_move rfl) (tp rfl (lv_move rfl) (tp rfl (lv_assign rfl) (tp rfl (lv_assign rfl) (t_done (q_then_n (hK8 _ _ (c_ret ?_)))))))))
   rw [show ws.take k = ws from List.take_of_length_le (by omega)]
   refine q_ret2 rfl rfl rfl ?_
   exact ⟨_, _, hok3, hle4, rfl, rfl⟩
set_option maxHeartbeats 4000000 in
theorem skip_ok {R : List HP} {p n ca : Nat} {q : Int} {cs : List Int} {bs : Option Addr} {cp : Nat} {va : Value} {ba : Option Addr} {ps : List Nat} {ms : List M3} (hlp : ps.length = n) (hn : ms.length = n) (hok : SlOk ba n) (hl : n ≤ 100000) (hbs : SlOk bs n) (hcl : cs.length = n) (hq : 0 ≤ q) (hlow : ∀ i, i < n → 0 < cs.getD i 0 → (ms.getD i M3.z).c < cs.getD i 0) (hz : ∀ i, i < n → 1 ≤ q * (ms.getD i M3.z).w ∧ q * (ms.getD i M3.z).w ≤ 104857600 ∧ 0 ≤ (ms.getD i M3.z).c ∧ (ms.getD i M3.z).c ≤ 106000000) (hcb : ∀ i, 0 ≤ cs.getD i 0 ∧ cs.getD i 0 ≤ 1048576) (hany : ∃ j, j < n ∧ 0 < cs.getD j 0) :
    Ok Tryz.prog 105 [(.pointer (some ⟨p, 0, none⟩)), (.slice bs n cp)] ((SlV 3 1 (.slice bs n cp) n (ints .i64 cs)) :: (Blk p [(.int .i64 q), (.slice ba n ca), va] 139) :: (SlV 159 1 (.slice ba n ca) n (recs ptrF ps)) :: (Join (mems ps ms)) :: R)
      (fun v M => ∃ r : Nat, (∀ i, i < n → 0 < cs.getD i 0 → (ms.getD i M3.z).c + (r : Int) * (q * (ms.getD i M3.z).w) < cs.getD i 0) ∧ (∃ j, j < n ∧ 0 < cs.getD j 0 ∧ cs.getD j 0 ≤ (ms.getD j M3.z).c + (r : Int) * (q * (ms.getD j M3.z).w) + q * (ms.getD j M3.z).w) ∧ v = .tuple #[] ∧ M = SlV 3 1 (.slice bs n cp) n (ints .i64 cs) :: Blk p [.int .i64 q, .slice ba n ca, va] 139 :: SlV 159 1 (.slice ba n ca) n (recs ptrF ps) :: Join (mems ps (bumpF q cs (fun _ => (r : Int)) ms)) :: R) := by
 refine ok_of (N := 70) Tryz.func105 rfl rfl rfl (fun W => ?_)
 refine c_seq (fun K1 hK1 => c_region (tp rfl (lv_assign rfl) (t_done (q_then_n (hK1 _ _ (c_seq (fun K2 hK2 => c_seq (fun K3 hK3 => c_region (tp rfl (lv_move rfl) (tp rfl (lv_nilCheck rfl) ?_))))))))))
 refine tp rfl (lv_fieldAddr (o' := 1) Tryz.underlying139 rfl Tryz.sizeOf137 rfl rfl) (tp rfl (lv_load Tryz.isAgg137 rfl (gives_blk (.tail _ (.head _)) rfl)) (tp rfl (lv_len Tryz.underlying137 rfl rfl) (tp rfl (lv_move rfl) (t_done (q_then_n (hK3 _ _ (c_block ?_)))))))
 refine c_loop (γ := (Nat) × (Nat)) (fun (i, r) => i ≤ n ∧ SkInv q cs ms i r) (fun (i, r) => [(0, (vP p 0)), (1, (.slice bs n cp)), (4, (vN r)), (12, (.slice ba n ca)), (13, (vN n)), (14, (vN i))]) (fun (i, r) => (SlV 3 1 (.slice bs n cp) n (ints .i64 cs)) :: (Blk p [(.int .i64 q), (.slice ba n ca), va] 139) :: (SlV 159 1 (.slice ba n ca) n (recs ptrF ps)) :: (Join (mems ps ms)) :: R) (fun (i, r) => n - i) (0, 1048576) ⟨by omega, SkInv.zero _ _ _⟩ ⟨rfl, rfl, rfl, rfl, rfl, rfl, trivial⟩ (fun _ h => h) ?_
 rintro ⟨i, r⟩ K4 hF hK4
 try dsimp only at hF hK4 ⊢
 obtain ⟨hi, hs⟩ := hF
 have hr2 := hs.r2
 refine c_seq (fun K5 hK5 => c_region ?_)
 by_cases h1 : ((i : Nat) : Int) < ((n : Nat) : Int)
 · refine tp rfl (lv_lss rfl rfl (decide_eq_true h1)) (t_done (q_then_n (hK5 _ _ (c_seq (fun K6 hK6 => c_true rfl (c_skip (q_then_n (hK6 _ _ (c_seq (fun K7 hK7 => c_block (c_seq (fun K8 hK8 => ?_))))))))))))
   refine c_region (tp rfl (lv_move rfl) (tp rfl (lv_indexAddr (k' := i) Tryz.underlying137 Tryz.sizeOf159 rfl rfl hok (by omega) (by omega) (by omega)) ?_))
   refine tp rfl (lv_load Tryz.isAgg159 rfl (gives_sl (.tail _ (.tail _ (.head _))) (ptrs_get (by first | omega | (simp; omega))))) ?_
   refine tp rfl (lv_assign rfl) (tp rfl (lv_assign rfl) (t_done (q_then_n (hK8 _ _ (c_seq (fun K9 hK9 => c_region (tp rfl (lv_move rfl) (tp rfl (lv_move rfl) (tp rfl (lv_indexAddr (k' := i) Tryz.underlying34 Tryz.sizeOf3 rfl rfl hbs (by omega) (by omega) (by omega)) ?_)))))))))
   refine tp rfl (lv_load Tryz.isAgg3 rfl (gives_sl (.head _) (ints_get (by first | omega | (simp; omega))))) ?_
   by_cases h2 : ((cs).getD i 0) > 0
   · refine tp rfl (lv_gtr rfl rfl (decide_eq_true h2)) (t_done (q_then_n (hK9 _ _ (c_true rfl ?_))))
     have hzi := hz i (by omega)
     have hli := hlow i (by omega) (by omega)
     have hcbi := hcb i
     have hxq : 0 ≤ (cs.getD i 0 - (ms.getD i M3.z).c - 1) / (q * (ms.getD i M3.z).w) := Int.ediv_nonneg (by omega) (by omega)
     refine t_f3 ?_
     refine t_takeM (i := i) (hlp.trans hn.symm) (by omega) ?_
     refine c_draw (γ := Unit) (n := 17) Tryz.mixed rfl rfl (fun _ S => True) (fun _ => [(0, 24, (vN r)), (1, 25, (.slice bs n cp)), (2, 26, (vN i)), (3, 27, (.pointer (some (ad bs i)))), (4, 28, (.int .i64 ((cs).getD i 0))), (5, 29, (vP (ps.getD i 0) 0)), (6, 30, (vP (ps.getD i 0) 0)), (7, 31, (vP (ps.getD i 0) 2)), (8, 32, (.int .i64 ((ms.getD i M3.z).c))), (9, 33, (.int .i64 (((cs).getD i 0) - ((ms.getD i M3.z).c)))), (10, 34, (.int .i64 ((((cs).getD i 0) - ((ms.getD i M3.z).c)) - 1))), (11, 35, (vP p 0)), (12, 36, (vP (ps.getD i 0) 0)), (13, 37, (.int .i64 (q * ((ms.getD i M3.z).w)))), (14, 38, (.int .i64 (((((cs).getD i 0) - ((ms.getD i M3.z).c)) - 1) / (q * ((ms.getD i M3.z).w))))), (15, 39, (.int .i64 ((min r ((cs.getD i 0 - (ms.getD i M3.z).c - 1) / (q * (ms.getD i M3.z).w)).toNat : Nat) : Int))), (16, 4, (.int .i64 ((min r ((cs.getD i 0 - (ms.getD i M3.z).c - 1) / (q * (ms.getD i M3.z).w)).toNat : Nat) : Int)))]) (fun _ S => (Blk (ps.getD i 0) [(.int .i64 ((ms.getD i M3.z).id)), (.int .i64 ((ms.getD i M3.z).w)), (.int .i64 ((ms.getD i M3.z).c))] 161) :: (Join (mems (ps.eraseIdx i) (ms.eraseIdx i))) :: (SlV 3 1 (.slice bs n cp) n (ints .i64 cs)) :: (Blk p [(.int .i64 q), (.slice ba n ca), va] 139) :: (SlV 159 1 (.slice ba n ca) n (recs ptrF ps)) :: R) (()) trivial (fun _ h => h) (fun _ _ h => h) ?_ ?_
     · refine ⟨?_, ?_, ?_, ?_, ?_, ?_, ?_, ?_, ?_, ?_, ?_, ?_, ?_, ?_, ?_, ?_, ?_, trivial⟩
       · intro _ S h s D p K k; exact d_lv1 (look_b1 (t := 4) 16 (nf s D (k := 16) (i := 0) rfl) rfl rfl) (lv_move rfl) 0 rfl rfl s (k () h)
       · intro _ S h s D p K k; exact d_lv1 (look_b (t := 1) rfl rfl) (lv_move rfl) 1 rfl rfl s (k () h)
       · intro _ S h s D p K k; exact d_lv1 (look_b (t := 5) rfl rfl) (lv_move rfl) 2 rfl rfl s (k () h)
       · rintro _ S hF hS D hp K hK; try dsimp only
         exact d_lv2 (lkr hp 1 rfl rfl) (lkr hp 2 rfl rfl) (lv_indexAddr (k' := i) Tryz.underlying34 Tryz.sizeOf3 rfl rfl hbs (by omega) (by omega) (by omega)) 3 rfl rfl hS (hK () hF)
       · intro _ S h s D p K k; exact d_lv1 (lkr p 3 rfl rfl) (lv_load Tryz.isAgg3 rfl (gives_sl (.tail _ (.tail _ (.head _))) (ints_get (by first | omega | (simp; omega))))) 4 rfl rfl s (k () h)
       · intro _ S h s D p K k; exact d_lv1 (look_b (t := 6) rfl rfl) (lv_move rfl) 5 rfl rfl s (k () h)
       · intro _ S h s D p K k; exact d_lv1 (lkr p 5 rfl rfl) (lv_nilCheck rfl) 6 rfl rfl s (k () h)
       · intro _ S h s D p K k; exact d_lv1 (lkr p 6 rfl rfl) (lv_fieldAddr (o' := 2) Tryz.underlying161 rfl Tryz.sizeOf3 rfl rfl) 7 rfl rfl s (k () h)
       · intro _ S h s D p K k; exact d_lv1 (lkr p 7 rfl rfl) (lv_load Tryz.isAgg3 rfl (gives_blk (.head _) rfl)) 8 rfl rfl s (k () h)
       · intro _ S h s D p K k; exact d_lv2 (lkr p 4 rfl rfl) (lkr p 8 rfl rfl) (lv_sub (c := ((cs).getD i 0) - ((ms.getD i M3.z).c)) rfl rfl (wr_i64 (by omega) (by omega))) 9 rfl rfl s (k () h)
       · intro _ S h s D p K k; exact d_lv1 (lkr p 9 rfl rfl) (lv_sub (c := (((cs).getD i 0) - ((ms.getD i M3.z).c)) - 1) rfl rfl (wr_i64 (by omega) (by omega))) 10 rfl rfl s (k () h)
       · intro _ S h s D p K k; exact d_lv1 (look_b (t := 0) rfl rfl) (lv_move rfl) 11 rfl rfl s (k () h)
       · intro _ S h s D p K k; exact d_lv1 (look_b (t := 6) rfl rfl) (lv_move rfl) 12 rfl rfl s (k () h)
       · rintro _ S hF hS D hp K hK
         try dsimp only at hF ⊢
         have s11 := hp 11 rfl
         have s12 := hp 12 rfl
         refine d_need (small := [(35, (vP p 0)), (36, (vP (ps.getD i 0) 0))]) ⟨look_row rfl 11 rfl s11, look_row rfl 12 rfl s12, trivial⟩ ?_
         refine t_f3 ?_
         refine tc rfl (en_fn Tryz.call106 rfl) (gain_ok (by omega)) ?_
         rintro _ _ ⟨rfl, rfl⟩
         refine t_f3 (t_f3 (t_f3 ?_))
         exact d_closes ⟨look_row rfl 11 rfl s11, look_row rfl 12 rfl s12, trivial⟩ 13 rfl rfl rfl hS (AgreeR.refl _) (t_sat (fun _ h => h) (hK () trivial))
       · intro _ S h s D p K k; exact d_lv2 (lkr p 10 rfl rfl) (lkr p 13 rfl rfl) (lv_quo (c := ((((cs).getD i 0) - ((ms.getD i M3.z).c)) - 1) / (q * ((ms.getD i M3.z).w))) rfl rfl (by omega) (wr_quo (by omega) (by omega) (by omega))) 14 rfl rfl s (k () h)
       · intro _ S h s D p K k; exact d_lv2 (lkr p 0 rfl rfl) (lkr p 14 rfl rfl) (lv_min (c := ((min r ((cs.getD i 0 - (ms.getD i M3.z).c - 1) / (q * (ms.getD i M3.z).w)).toNat : Nat) : Int)) rfl rfl (by omega)) 15 rfl rfl s (k () h)
       · intro _ S h s D p K k; exact d_lv1 (lkr p 15 rfl rfl) (lv_assign rfl) 16 rfl rfl s (k () h)
     · rintro _ hF
       try dsimp only at hF ⊢
       refine t_weak (E' := [(0, (vP p 0)), (1, (.slice bs n cp)), (4, (.int .i64 ((min r ((cs.getD i 0 - (ms.getD i M3.z).c - 1) / (q * (ms.getD i M3.z).w)).toNat : Nat) : Int))), (5, (vN i)), (6, (vP (ps.getD i 0) 0)), (12, (.slice ba n ca)), (13, (vN n)), (14, (vN i)), (15, (.bool true)), (23, (.bool true))]) ⟨rfl, rfl, rfl, rfl, rfl, rfl, rfl, rfl, rfl, rfl, trivial⟩ ?_
       refine q_in_n (q_then_n (hK7 _ _ (c_region (t_f1 (t_f1 ?_)))))
       refine t_putM0 (hlp.trans hn.symm) (by omega) ?_
       refine tp rfl (lv_add (c := ((i + 1 : Nat) : Int)) rfl rfl (wr_i64_succ (by omega))) ?_
       refine tp rfl (lv_move rfl) (t_done (q_then_n (t_f3 (t_f3 (t_f3 ?_)))))
       exact t_weak (by exact ⟨rfl, rfl, rfl, rfl, rfl, rfl, trivial⟩) ((hK4 (i + 1, min r ((cs.getD i 0 - (ms.getD i M3.z).c - 1) / (q * (ms.getD i M3.z).w)).toNat) ⟨by omega, hs.yes (by omega) (hlow i (by omega) (by omega)) hzi.2.2.1 (hcb i).2 (fun j hj => (hz j (by omega)).1)⟩ (by dsimp only; omega)))
   · refine tp rfl (lv_gtr rfl rfl (decide_eq_false h2)) (t_done (q_then_n (hK9 _ _ (c_false rfl (c_skip (q_in_n (q_then_n (hK7 _ _ (c_region (tp rfl (lv_add (c := ((i + 1 : Nat) : Int)) rfl rfl (wr_i64_succ (by omega))) ?_))))))))))
     refine tp rfl (lv_move rfl) (t_done (q_then_n ?_))
     exact t_weak (by exact ⟨rfl, rfl, rfl, rfl, rfl, rfl, trivial⟩) ((hK4 (i + 1, r) ⟨by omega, hs.no (by omega)⟩ (by dsimp only; omega)))
 · refine tp rfl (lv_lss rfl rfl (decide_eq_false h1)) (t_done (q_then_n (hK5 _ _ (c_seq (fun K6 hK6 => c_false rfl (c_exit (q_then_x (q_then_x (q_in_x (q_then_n (hK2 _ _ ?_)))))))))))
   refine c_seq (fun K7 hK7 => c_region (tp rfl (lv_move rfl) (tp rfl (lv_nilCheck rfl) (tp rfl (lv_fieldAddr (o' := 1) Tryz.underlying139 rfl Tryz.sizeOf137 rfl rfl) (tp rfl (lv_load Tryz.isAgg137 rfl (gives_blk (.tail _ (.head _)) rfl)) (tp rfl (lv_len Tryz.underlying137 rfl rfl) (tp rfl (lv_move rfl) (t_done (q_then_n (hK7 _ _ ?_))))))))))
   refine c_block ?_
   have hub := hs.ub
   have hr2 := hs.r2
   have hex := hs.done (n := n) (by omega) hany hi
   refine c_loop (γ := (Nat)) (fun (k : Nat) => k ≤ n) (fun (k : Nat) => [(0, (vP p 0)), (1, (.slice bs n cp)), (4, (vN r)), (12, (.slice ba n ca)), (13, (vN n)), (14, (vN i)), (15, (.bool false)), (44, (.slice ba n ca)), (45, (vN n)), (46, (vN k))]) (fun (k : Nat) => (SlV 3 1 (.slice bs n cp) n (ints .i64 cs)) :: (Blk p [(.int .i64 q), (.slice ba n ca), va] 139) :: (SlV 159 1 (.slice ba n ca) n (recs ptrF ps)) :: (Join (mems ps (bumpI q cs r k ms))) :: R) (fun (k : Nat) => n - k) (0) (by omega) ⟨rfl, rfl, rfl, rfl, rfl, rfl, rfl, rfl, rfl, rfl, trivial⟩ (fun _ h => by rw [bumpI_zero]; exact h) ?_
   rintro k K8 hF hK8
   try dsimp only at hF hK8 ⊢
   have hbl := bumpI_len q cs r k ms
   refine c_seq (fun K9 hK9 => c_region ?_)
   by_cases h3 : ((k : Nat) : Int) < ((n : Nat) : Int)
   · refine tp rfl (lv_lss rfl rfl (decide_eq_true h3)) (t_done (q_then_n (hK9 _ _ (c_seq (fun K10 hK10 => c_true rfl (c_skip (q_then_n (hK10 _ _ (c_seq (fun K11 hK11 => c_block (c_seq (fun K12 hK12 => ?_))))))))))))
     refine c_region (tp rfl (lv_move rfl) (tp rfl (lv_indexAddr (k' := k) Tryz.underlying137 Tryz.sizeOf159 rfl rfl hok (by omega) (by omega) (by omega)) ?_))
     refine tp rfl (lv_load Tryz.isAgg159 rfl (gives_sl (.tail _ (.tail _ (.head _))) (ptrs_get (by first | omega | (simp; omega))))) ?_
     refine tp rfl (lv_assign rfl) (tp rfl (lv_assign rfl) (t_done (q_then_n (hK12 _ _ (c_seq (fun K13 hK13 => c_region (tp rfl (lv_move rfl) (tp rfl (lv_move rfl) (tp rfl (lv_indexAddr (k' := k) Tryz.underlying34 Tryz.sizeOf3 rfl rfl hbs (by omega) (by omega) (by omega)) ?_)))))))))
     refine tp rfl (lv_load Tryz.isAgg3 rfl (gives_sl (.head _) (ints_get (by first | omega | (simp; omega))))) ?_
     by_cases h4 : ((cs).getD k 0) > 0
     · refine tp rfl (lv_gtr rfl rfl (decide_eq_true h4)) (t_done (q_then_n (hK13 _ _ (c_true rfl ?_))))
       have hzi := hz k (by omega)
       have hui := hub k (by omega) (by omega)
       have hcbi := hcb k
       have hrg : 0 ≤ ((r : Nat) : Int) * (q * (ms.getD k M3.z).w) := Int.mul_nonneg (by omega) (by omega)
       refine t_f3 ?_
       refine t_takeM (i := k) (by rw [hbl]; omega) (by omega) ?_
       rw [show (bumpI q cs r k ms).getD k M3.z = ms.getD k M3.z from bumpI_at (by omega)]
       refine c_draw (γ := Unit) (n := 14) Tryz.mixed rfl rfl (fun _ S => True) (fun _ => [(0, 56, (vP (ps.getD k 0) 0)), (1, 57, (vP (ps.getD k 0) 0)), (2, 58, (vP (ps.getD k 0) 2)), (3, 59, (.int .i64 ((ms.getD k M3.z).c))), (4, 60, (vN r)), (5, 61, (vN r)), (6, 62, (vP p 0)), (7, 63, (vP (ps.getD k 0) 0)), (8, 64, (.int .i64 (q * ((ms.getD k M3.z).w)))), (9, 65, (.int .i64 (((r : Nat) : Int) * (q * ((ms.getD k M3.z).w))))), (10, 66, (.int .i64 (((ms.getD k M3.z).c) + (((r : Nat) : Int) * (q * ((ms.getD k M3.z).w)))))), (11, 67, (vP (ps.getD k 0) 0)), (12, 68, (vP (ps.getD k 0) 2))]) (fun _ S => (bif S 13 then (Blk (ps.getD k 0) [(.int .i64 ((ms.getD k M3.z).id)), (.int .i64 ((ms.getD k M3.z).w)), (.int .i64 (((ms.getD k M3.z).c) + (((r : Nat) : Int) * (q * ((ms.getD k M3.z).w)))))] 161) else (Blk (ps.getD k 0) [(.int .i64 ((ms.getD k M3.z).id)), (.int .i64 ((ms.getD k M3.z).w)), (.int .i64 ((ms.getD k M3.z).c))] 161)) :: (Join (mems (ps.eraseIdx k) ((bumpI q cs r k ms).eraseIdx k))) :: (SlV 3 1 (.slice bs n cp) n (ints .i64 cs)) :: (Blk p [(.int .i64 q), (.slice ba n ca), va] 139) :: (SlV 159 1 (.slice ba n ca) n (recs ptrF ps)) :: R) (()) trivial (fun _ h => h) (fun _ _ h => h) ?_ ?_
       · refine ⟨?_, ?_, ?_, ?_, ?_, ?_, ?_, ?_, ?_, ?_, ?_, ?_, ?_, ?_, trivial⟩
         · intro _ S h s D p K k; exact d_lv1 (look_b (t := 8) rfl rfl) (lv_move rfl) 0 rfl rfl s (k () h)
         · intro _ S h s D p K k; exact d_lv1 (lkr p 0 rfl rfl) (lv_nilCheck rfl) 1 rfl rfl s (k () h)
         · intro _ S h s D p K k; exact d_lv1 (lkr p 1 rfl rfl) (lv_fieldAddr (o' := 2) Tryz.underlying161 rfl Tryz.sizeOf3 rfl rfl) 2 rfl rfl s (k () h)
         · rintro _ S hF hS D hp K hK; try dsimp only
           exact d_lv1 (lkr hp 2 rfl rfl) (lv_load Tryz.isAgg3 rfl (gives_blk (mem_cF (nf hS D (k := 13) (i := 3) rfl) (.head _)) rfl)) 3 rfl rfl hS (hK () hF)
         · intro _ S h s D p K k; exact d_lv1 (look_b (t := 4) rfl rfl) (lv_move rfl) 4 rfl rfl s (k () h)
         · intro _ S h s D p K k; exact d_lv1 (lkr p 4 rfl rfl) (lv_max (c := ((r : Nat) : Int)) rfl rfl (by omega)) 5 rfl rfl s (k () h)
         · intro _ S h s D p K k; exact d_lv1 (look_b (t := 0) rfl rfl) (lv_move rfl) 6 rfl rfl s (k () h)
         · intro _ S h s D p K k; exact d_lv1 (look_b (t := 8) rfl rfl) (lv_move rfl) 7 rfl rfl s (k () h)
         · rintro _ S hF hS D hp K hK
           try dsimp only at hF ⊢
           have s6 := hp 6 rfl
           have s7 := hp 7 rfl
           refine d_need (small := [(62, (vP p 0)), (63, (vP (ps.getD k 0) 0))]) ⟨look_row rfl 6 rfl s6, look_row rfl 7 rfl s7, trivial⟩ ?_
           refine t_cF (nf hS D (k := 13) (i := 8) rfl) ?_
           refine t_f3 ?_
           refine tc rfl (en_fn Tryz.call106 rfl) (gain_ok (by omega)) ?_
           rintro _ _ ⟨rfl, rfl⟩
           refine t_f1 ?_
           refine t_wF (A := (Blk (ps.getD k 0) [(.int .i64 ((ms.getD k M3.z).id)), (.int .i64 ((ms.getD k M3.z).w)), (.int .i64 (((ms.getD k M3.z).c) + (((r : Nat) : Int) * (q * ((ms.getD k M3.z).w)))))] 161)) (nf hS D (k := 13) (i := 8) rfl) ?_
           refine t_f1 (t_f3 (t_f3 (t_f3 ?_)))
           exact d_closes ⟨look_row rfl 6 rfl s6, look_row rfl 7 rfl s7, trivial⟩ 8 rfl rfl rfl hS (AgreeR.refl _) (t_sat (fun _ h => h) (hK () trivial))
         · rintro _ S hF hS D hp K hK; try dsimp only
           exact d_lv2 (lkr hp 5 rfl rfl) (lkr hp 8 rfl rfl) (lv_mul (c := ((r : Nat) : Int) * (q * ((ms.getD k M3.z).w))) rfl rfl (wr_i64 (by omega) (by omega))) 9 rfl rfl hS (hK () hF)
         · rintro _ S hF hS D hp K hK; try dsimp only
           exact d_lv2 (lkr hp 3 rfl rfl) (lkr hp 9 rfl rfl) (lv_add (c := ((ms.getD k M3.z).c) + (((r : Nat) : Int) * (q * ((ms.getD k M3.z).w)))) rfl rfl (wr_i64 (by omega) (by omega))) 10 rfl rfl hS (hK () hF)
         · intro _ S h s D p K k; exact d_lv1 (lkr p 0 rfl rfl) (lv_nilCheck rfl) 11 rfl rfl s (k () h)
         · intro _ S h s D p K k; exact d_lv1 (lkr p 11 rfl rfl) (lv_fieldAddr (o' := 2) Tryz.underlying161 rfl Tryz.sizeOf3 rfl rfl) 12 rfl rfl s (k () h)
         · rintro _ S hF hS D hp K hK
           try dsimp only at hF ⊢
           have s10 := hp 10 rfl
           have s12 := hp 12 rfl
           refine d_need (small := [(66, (.int .i64 (((ms.getD k M3.z).c) + (((r : Nat) : Int) * (q * ((ms.getD k M3.z).w)))))), (68, (vP (ps.getD k 0) 2))]) ⟨look_row rfl 10 rfl s10, look_row rfl 12 rfl s12, trivial⟩ ?_
           refine t_cF hS ?_
           refine ts (sv_blk Tryz.sizeOf3 rfl rfl rfl (Nat.le_of_ble_eq_true rfl) rfl) ?_
           exact d_closes0 ⟨look_row rfl 10 rfl s10, look_row rfl 12 rfl s12, trivial⟩ rfl (t_sat (fun _ h => h) (hK () trivial))
       · rintro _ hF
         try dsimp only at hF ⊢
         refine t_weak (E' := [(0, (vP p 0)), (1, (.slice bs n cp)), (4, (vN r)), (7, (vN k)), (8, (vP (ps.getD k 0) 0)), (12, (.slice ba n ca)), (13, (vN n)), (14, (vN i)), (15, (.bool false)), (44, (.slice ba n ca)), (45, (vN n)), (46, (vN k)), (47, (.bool true)), (55, (.bool true))]) ⟨rfl, rfl, rfl, rfl, rfl, rfl, rfl, rfl, rfl, rfl, rfl, rfl, rfl, rfl, trivial⟩ ?_
         refine q_in_n (q_then_n (hK11 _ _ (c_region (t_f1 (t_f1 ?_)))))
         refine t_putMx (c := ((ms.getD k M3.z).c) + (((r : Nat) : Int) * (q * ((ms.getD k M3.z).w)))) (bumpI_at (by omega)) (by rw [hbl]; omega) (by omega) ?_
         rw [show setC (bumpI q cs r k ms) k (((ms.getD k M3.z).c) + (((r : Nat) : Int) * (q * ((ms.getD k M3.z).w)))) = bumpI q cs r (k + 1) ms from bumpI_yes (by omega) (by omega)]
         refine tp rfl (lv_add (c := ((k + 1 : Nat) : Int)) rfl rfl (wr_i64_succ (by omega))) ?_
         refine tp rfl (lv_move rfl) (t_done (q_then_n (t_f3 (t_f3 (t_f3 ?_)))))
         exact t_weak (by exact ⟨rfl, rfl, rfl, rfl, rfl, rfl, rfl, rfl, rfl, rfl, trivial⟩) ((hK8 (k + 1) (by omega) (by omega)))
     · refine tp rfl (lv_gtr rfl rfl (decide_eq_false h4)) (t_done (q_then_n (hK13 _ _ (c_false rfl (c_skip (q_in_n (q_then_n (hK11 _ _ (c_region ?_)))))))))
       rw [show bumpI q cs r k ms = bumpI q cs r (k + 1) ms from bumpI_no (by omega)]
       refine tp rfl (lv_add (c := ((k + 1 : Nat) : Int)) rfl rfl (wr_i64_succ (by omega))) ?_
       refine tp rfl (lv_move rfl) (t_done (q_then_n ?_))
       exact t_weak (by exact ⟨rfl, rfl, rfl, rfl, rfl, rfl, rfl, rfl, rfl, rfl, trivial⟩) ((hK8 (k + 1) (by omega) (by omega)))
   · refine tp rfl (lv_lss rfl rfl (decide_eq_false h3)) (t_done (q_then_n (hK9 _ _ (c_seq (fun K10 hK10 => c_false rfl (c_exit (q_then_x (q_then_x (q_in_x ?_)))))))))
     rw [show bumpI q cs r k ms = bumpF q cs (fun _ => ((r : Nat) : Int)) ms from bumpI_all (by omega)]
     refine q_ret0 rfl ?_
     exact ⟨r, fun i h1 h2 => hub i (by omega) h2, hex, rfl, rfl⟩
end Go.Proofs.YtanfdikglplkaaaGreatDoor
