/- Package turns: contracts, the first half. -/
import Derived.KernelRfl
import Derived.Test.YtkhceihokoheaaaProg
import Derived.Test.YtkhceihokoheaaaTrm
import Derived.Test.YtkhceihokoheaaaPln
set_option maxRecDepth 100000
set_option linter.unusedVariables false
set_option linter.unusedSimpArgs false
namespace Go.Proofs.Ytkhceihokoheaaa
open Go Go.Proofs Sp
theorem Try.mixed : Try.prog.follows .mixedOrders = true := by kernel_rfl

theorem indexFuncP_ok {R : List HP} {p : Nat → Bool} {f n : Nat} {caps : List Value} {bx : Option Addr} {cx : Nat} (ps : List Nat) (hlp : ps.length = n) (hf : (∀ args w, (callFunc f args).run Try.prog w = .ok (.enter f args) w) ∧ ∀ k, k < n → Ok Try.prog f ([.pointer (some ⟨ps.getD k 0, 0, none⟩)] ++ caps) R (fun v M => v = .bool (p k) ∧ M = R)) (hx : Rd R bx (recs ptrF ps)) (okx : SlOk bx n) (lx : n ≤ 4611686018427387904) :
    Ok Try.prog 30 [(.slice bx n cx), (.func (.func f) #[] caps.toArray)] R
      (fun v M => v = .int .i64 (idxN p n) ∧ M = R) := by
  obtain ⟨hcall, hf⟩ := hf
  refine ok_of (N := 19) Try.func30 rfl rfl rfl (fun W => ?_)
  refine c_seq (fun K1 hK1 => ?_)
  refine c_region ?_
  refine tp rfl (lv_assign rfl) ?_
  refine t_done ?_
  refine q_then_n (hK1 _ _ ?_)
  refine c_seq (fun K2 hK2 => ?_)
  refine c_seq (fun K3 hK3 => ?_)
  refine c_region ?_
  refine tp rfl (lv_move rfl) ?_
  refine tp rfl (lv_len Try.underlying60 rfl rfl) ?_
  refine tp rfl (lv_move rfl) ?_
  refine t_done ?_
  refine q_then_n (hK3 _ _ ?_)
  refine c_block ?_
  refine c_loop (γ := (Nat)) (fun (k : Nat) => k ≤ n ∧ (∀ j, j < k → p j = false)) (fun (k : Nat) => [(0, (.slice bx n cx)), (1, (.func (.func f) #[] caps.toArray)), (7, (.int .i64 ((n : Nat) : Int))), (8, (.int .i64 ((k : Nat) : Int)))]) (fun (k : Nat) => R) (fun (k : Nat) => n - k) (0) ⟨by omega, fun j hj => by omega⟩ ⟨rfl, rfl, rfl, rfl, trivial⟩ (fun _ h => h) ?_
  rintro k K4 hF hK4
  try dsimp only at hF hK4 ⊢
  obtain ⟨hk, hall⟩ := hF
  refine c_seq (fun K5 hK5 => ?_)
  refine c_region ?_
  by_cases h1 : ((k : Nat) : Int) < ((n : Nat) : Int)
  · -- yes
    refine tp rfl (lv_lss rfl rfl (decide_eq_true h1)) ?_
    refine t_done ?_
    refine q_then_n (hK5 _ _ ?_)
    refine c_seq (fun K6 hK6 => ?_)
    refine c_true rfl ?_
    refine c_skip ?_
    refine q_then_n (hK6 _ _ ?_)
    refine c_seq (fun K7 hK7 => ?_)
    refine c_block ?_
    refine c_seq (fun K8 hK8 => ?_)
    refine c_region ?_
    refine tp rfl (lv_move rfl) ?_
    refine tp rfl (lv_assign rfl) ?_
    refine t_done ?_
    refine q_then_n (hK8 _ _ ?_)
    refine c_seq (fun K9 hK9 => ?_)
    refine c_region ?_
    refine tp rfl (lv_move rfl) ?_
    refine tp rfl (lv_move rfl) ?_
    refine tp rfl (lv_move rfl) ?_
    refine tp rfl (lv_indexAddr (k' := k) Try.underlying60 Try.sizeOf63 rfl rfl okx (by omega) (by omega) (by omega)) ?_
    refine tp rfl (lv_load Try.isAgg63 rfl (Rd.gives hx (ptrs_get (by first | omega | (simp; omega))))) ?_
    refine tc rfl (en_clo hcall rfl rfl) (hf k (by omega)) ?_
    rintro _ _ ⟨rfl, hMR⟩
    rw [hMR]; clear hMR
    refine t_done ?_
    refine q_then_n (hK9 _ _ ?_)
    refine c_split rfl (fun c2 => ?_) (fun c2 => ?_)
    · -- true
      skip
      refine c_seq (fun K10 hK10 => ?_)
      refine c_region ?_
      refine tp rfl (lv_move rfl) ?_
      refine tp rfl (lv_assign rfl) ?_
      refine t_done ?_
      refine q_then_n (hK10 _ _ ?_)
      refine c_ret ?_
      refine q_in_r ?_
      refine q_then_r ?_
      refine q_then_r ?_
      refine q_in_r ?_
      refine q_then_r ?_
      refine q_ret rfl rfl ?_
      exact ⟨by rw [idxN_at (k := k) (by omega) ‹_› hall], rfl⟩
    · -- false
      skip
      refine c_skip ?_
      refine q_in_n ?_
      refine q_then_n (hK7 _ _ ?_)
      refine c_region ?_
      refine tp rfl (lv_add (c := ((k + 1 : Nat) : Int)) rfl rfl (wr_i64_succ (by omega))) ?_
      refine tp rfl (lv_move rfl) ?_
      refine t_done ?_
      refine q_then_n ?_
      exact t_weak (by exact ⟨rfl, rfl, rfl, rfl, trivial⟩) ((hK4 (k + 1) ⟨by omega, all_succ hall ‹_›⟩ (by omega)))
  · -- no
    refine tp rfl (lv_lss rfl rfl (decide_eq_false h1)) ?_
    refine t_done ?_
    refine q_then_n (hK5 _ _ ?_)
    refine c_seq (fun K6 hK6 => ?_)
    refine c_false rfl ?_
    refine c_exit ?_
    refine q_then_x ?_
    refine q_then_x ?_
    refine q_in_x ?_
    refine q_then_n (hK2 _ _ ?_)
    refine c_seq (fun K7 hK7 => ?_)
    refine c_region ?_
    refine tp rfl (lv_assign rfl) ?_
    refine t_done ?_
    refine q_then_n (hK7 _ _ ?_)
    refine c_ret ?_
    refine q_ret rfl rfl ?_
    exact ⟨by rw [idxN_none (fun j hj => hall j (by omega))], rfl⟩

theorem pdelete_ok {R : List HP} {bx : Option Addr} {cx : Nat} (xs : List Nat) (i : Nat) (hi : i < xs.length) :
    Ok Try.prog 28 [(.slice bx xs.length cx), (.int .i64 ((i : Nat) : Int)), (.int .i64 ((i + 1 : Nat) : Int))] ((SlV 63 1 (.slice bx xs.length cx) xs.length (recs ptrF xs)) :: R)
      (fun v M => v = .slice bx (xs.eraseIdx i).length cx ∧ M = SlV 63 1 (.slice bx (xs.eraseIdx i).length cx) (xs.eraseIdx i).length (recs ptrF (xs.eraseIdx i)) :: R) := by
  refine ok_of (N := 33) Try.func28 rfl rfl rfl (fun W => ?_)
  refine t_learn (fun _ h => slv_facts h) (fun hbx => ?_)
  obtain ⟨okx, hcx, hmx⟩ := hbx
  unfold maxLen at hmx
  refine c_seq (fun K1 hK1 => ?_)
  refine c_region ?_
  refine tp rfl (lv_assign rfl) ?_
  refine t_done ?_
  refine q_then_n (hK1 _ _ ?_)
  refine c_seq (fun K2 hK2 => ?_)
  refine c_region ?_
  refine tp rfl (lv_move rfl) ?_
  refine tp rfl (lv_move rfl) ?_
  refine tp rfl (lv_move rfl) ?_
  refine tp rfl (lv_move rfl) ?_
  refine tp rfl (lv_len Try.underlying60 rfl rfl) ?_
  refine tp rfl (lv_slice (l := i) (h := i + 1) (m := xs.length) (v := (.slice (sbase bx i xs.length 1) ((i + 1) - i) (xs.length - i))) Try.underlying60 Try.sizeOf63 rfl rfl rfl rfl (.inl ⟨_, _, rfl, (by omega), (by omega), (by omega)⟩) (.inl ⟨_, _, rfl, (by omega), (by omega), (by omega)⟩) (.inl ⟨_, _, rfl, (by omega), (by omega), (by omega)⟩) (by simp) rfl) ?_
  refine t_done ?_
  refine q_then_n (hK2 _ _ ?_)
  refine c_seq (fun K3 hK3 => ?_)
  refine c_seq (fun K4 hK4 => ?_)
  refine c_region ?_
  refine tp rfl (lv_move rfl) ?_
  refine tp rfl (lv_move rfl) ?_
  refine tp rfl (lv_eql rfl rfl (beq_eq_false_iff_ne.2 (by omega))) ?_
  refine t_done ?_
  refine q_then_n (hK4 _ _ ?_)
  refine c_false rfl ?_
  refine c_skip ?_
  refine q_then_n (hK3 _ _ ?_)
  refine c_seq (fun K5 hK5 => ?_)
  refine c_region ?_
  refine tp rfl (lv_move rfl) ?_
  refine tp rfl (lv_len Try.underlying60 rfl rfl) ?_
  refine tp rfl (lv_assign rfl) ?_
  refine t_done ?_
  refine q_then_n (hK5 _ _ ?_)
  refine c_seq (fun K6 hK6 => ?_)
  refine c_draw (γ := Unit) (n := 8) Try.mixed rfl rfl (fun _ S => True) (fun _ => [(0, 20, (.slice bx xs.length cx)), (1, 21, (.int .i64 ((i : Nat) : Int))), (2, 22, (.slice bx i cx)), (3, 23, (.slice bx xs.length cx)), (4, 24, (.int .i64 ((i + 1 : Nat) : Int))), (5, 25, (.slice (sbase bx (i + 1) cx 1) (xs.length - (i + 1)) (cx - (i + 1)))), (6, 26, (.slice bx (i + (xs.length - (i + 1))) cx)), (7, 0, (.slice bx (i + (xs.length - (i + 1))) cx))]) (fun _ S => (bif S 6 then (SlV 63 1 (.slice bx xs.length cx) xs.length (recs ptrF (xs.take i ++ (xs.drop (i + 1)) ++ xs.drop (i + (xs.length - (i + 1)))))) else (SlV 63 1 (.slice bx xs.length cx) xs.length (recs ptrF xs))) :: R) (()) trivial (fun _ h => h) (fun _ _ h => h) ?_ ?_
  · -- steps
    refine ⟨?_, ?_, ?_, ?_, ?_, ?_, ?_, ?_, trivial⟩
    · -- 0
      rintro _ S hF hS D hp K hK
      try dsimp only at hF ⊢
      refine d_need (small := [(0, (.slice bx xs.length cx))]) ⟨look_b1 7 (nf hS D (k := 7) (i := 0) rfl) rfl rfl, trivial⟩ ?_
      refine tp rfl (lv_move rfl) ?_
      exact d_closes ⟨look_b1 7 (nf hS D (k := 7) (i := 0) rfl) rfl rfl, trivial⟩ 0 rfl rfl rfl hS (AgreeR.refl _) (t_sat (fun _ h => h) (hK () trivial))
    · -- 1
      rintro _ S hF hS D hp K hK
      try dsimp only at hF ⊢
      refine d_need (small := [(1, (.int .i64 ((i : Nat) : Int)))]) ⟨look_b rfl rfl, trivial⟩ ?_
      refine tp rfl (lv_move rfl) ?_
      exact d_closes ⟨look_b rfl rfl, trivial⟩ 1 rfl rfl rfl hS (AgreeR.refl _) (t_sat (fun _ h => h) (hK () trivial))
    · -- 2
      rintro _ S hF hS D hp K hK
      try dsimp only at hF ⊢
      have s0 := hp 0 rfl
      have s1 := hp 1 rfl
      refine d_need (small := [(20, (.slice bx xs.length cx)), (21, (.int .i64 ((i : Nat) : Int)))]) ⟨look_row rfl 0 rfl s0, look_row rfl 1 rfl s1, trivial⟩ ?_
      refine tp rfl (lv_slice (l := 0) (h := i) (m := cx) (v := (.slice bx i cx)) Try.underlying60 Try.sizeOf63 rfl rfl rfl rfl (.inr ⟨rfl, rfl⟩) (.inl ⟨_, _, rfl, (by omega), (by omega), (by omega)⟩) (.inr ⟨rfl, rfl⟩) (by simp) (by rw [sbase_zero]; rfl)) ?_
      exact d_closes ⟨look_row rfl 0 rfl s0, look_row rfl 1 rfl s1, trivial⟩ 2 rfl rfl rfl hS (AgreeR.refl _) (t_sat (fun _ h => h) (hK () trivial))
    · -- 3
      rintro _ S hF hS D hp K hK
      try dsimp only at hF ⊢
      refine d_need (small := [(0, (.slice bx xs.length cx))]) ⟨look_b1 7 (nf hS D (k := 7) (i := 3) rfl) rfl rfl, trivial⟩ ?_
      refine tp rfl (lv_move rfl) ?_
      exact d_closes ⟨look_b1 7 (nf hS D (k := 7) (i := 3) rfl) rfl rfl, trivial⟩ 3 rfl rfl rfl hS (AgreeR.refl _) (t_sat (fun _ h => h) (hK () trivial))
    · -- 4
      rintro _ S hF hS D hp K hK
      try dsimp only at hF ⊢
      refine d_need (small := [(2, (.int .i64 ((i + 1 : Nat) : Int)))]) ⟨look_b rfl rfl, trivial⟩ ?_
      refine tp rfl (lv_move rfl) ?_
      exact d_closes ⟨look_b rfl rfl, trivial⟩ 4 rfl rfl rfl hS (AgreeR.refl _) (t_sat (fun _ h => h) (hK () trivial))
    · -- 5
      rintro _ S hF hS D hp K hK
      try dsimp only at hF ⊢
      have s3 := hp 3 rfl
      have s4 := hp 4 rfl
      refine d_need (small := [(23, (.slice bx xs.length cx)), (24, (.int .i64 ((i + 1 : Nat) : Int)))]) ⟨look_row rfl 3 rfl s3, look_row rfl 4 rfl s4, trivial⟩ ?_
      refine tp rfl (lv_slice (l := i + 1) (h := xs.length) (m := cx) (v := (.slice (sbase bx (i + 1) cx 1) (xs.length - (i + 1)) (cx - (i + 1)))) Try.underlying60 Try.sizeOf63 rfl rfl rfl rfl (.inr ⟨rfl, rfl⟩) (.inr ⟨rfl, rfl⟩) (.inl ⟨_, _, rfl, (by omega), (by omega), (by omega)⟩) (by simp) rfl) ?_
      exact d_closes ⟨look_row rfl 3 rfl s3, look_row rfl 4 rfl s4, trivial⟩ 5 rfl rfl rfl hS (AgreeR.refl _) (t_sat (fun _ h => h) (hK () trivial))
    · -- 6
      rintro _ S hF hS D hp K hK
      try dsimp only at hF ⊢
      have s2 := hp 2 rfl
      have s5 := hp 5 rfl
      refine d_need (small := [(22, (.slice bx i cx)), (25, (.slice (sbase bx (i + 1) cx 1) (xs.length - (i + 1)) (cx - (i + 1))))]) ⟨look_row rfl 2 rfl s2, look_row rfl 5 rfl s5, trivial⟩ ?_
      refine t_cF hS ?_
      refine tm rfl (mv_appendOwn (i := Try.t63) (k := i) Try.underlying60 Try.type63 rfl rfl rfl (fun hz => slok_sbase okx (by omega) hz) (by omega) (by rw [recs_len ptrF_len]; first | rfl | (congr 1; simp; done) | (congr 1; simp; omega)) (rd_sb_recs (l := i + 1) (m := cx) ptrF_len (rd_sl (.head _)) okx rfl hcx) (recs_one ptrF_one) (by omega) (recs_splice ptrF_len)) ?_
      rintro _ _ ⟨rfl, rfl⟩
      exact d_closes ⟨look_row rfl 2 rfl s2, look_row rfl 5 rfl s5, trivial⟩ 6 rfl rfl rfl hS (AgreeR.refl _) (t_sat (fun _ h => h) (hK () trivial))
    · -- 7
      rintro _ S hF hS D hp K hK
      try dsimp only at hF ⊢
      have s6 := hp 6 rfl
      refine d_need (small := [(26, (.slice bx (i + (xs.length - (i + 1))) cx))]) ⟨look_row rfl 6 rfl s6, trivial⟩ ?_
      refine tp rfl (lv_assign rfl) ?_
      exact d_closes ⟨look_row rfl 6 rfl s6, trivial⟩ 7 rfl rfl rfl hS (AgreeR.refl _) (t_sat (fun _ h => h) (hK () trivial))
  · -- behind
    rintro _ hF
    try dsimp only at hF ⊢
    refine t_weak (E' := [(0, (.slice bx (i + (xs.length - (i + 1))) cx)), (1, (.int .i64 ((i : Nat) : Int))), (2, (.int .i64 ((i + 1 : Nat) : Int))), (6, (.slice none 0 0)), (7, (.int .i64 ((xs.length : Nat) : Int))), (16, (.bool false))]) ⟨rfl, rfl, rfl, rfl, rfl, rfl, trivial⟩ ?_
    refine q_then_n (hK6 _ _ ?_)
    refine c_seq (fun K7 hK7 => ?_)
    refine c_region ?_
    refine tp rfl (lv_move rfl) ?_
    refine tp rfl (lv_move rfl) ?_
    refine tp rfl (lv_len Try.underlying60 rfl rfl) ?_
    refine tp rfl (lv_move rfl) ?_
    refine tp rfl (lv_slice (l := i + (xs.length - (i + 1))) (h := xs.length) (m := cx) (v := (.slice (sbase bx (i + (xs.length - (i + 1))) cx 1) (xs.length - (i + (xs.length - (i + 1)))) (cx - (i + (xs.length - (i + 1)))))) Try.underlying60 Try.sizeOf63 rfl rfl rfl rfl (.inr ⟨rfl, rfl⟩) (.inl ⟨_, _, rfl, (by omega), (by omega), (by omega)⟩) (.inl ⟨_, _, rfl, (by omega), (by omega), (by omega)⟩) (by simp) rfl) ?_
    refine tm0 (mv_clear (l := i + (xs.length - (i + 1))) (c := cx) Try.underlying60 Try.zeroValue63 rfl rfl (by decide) rfl okx (by omega) (by omega) (by omega)) ?_
    rintro _ _ ⟨zs1, rfl⟩
    refine t_done ?_
    refine q_then_n (hK7 _ _ ?_)
    refine c_seq (fun K8 hK8 => ?_)
    refine c_region ?_
    refine tp rfl (lv_move rfl) ?_
    refine tp rfl (lv_assign rfl) ?_
    refine t_done ?_
    refine q_then_n (hK8 _ _ ?_)
    refine c_ret ?_
    refine t_sat (fun _ h => sat_cut_recs ptrF_len (by omega) (by omega) (by simp; omega) h) ?_
    rw [erase_takeG hi _ (by omega)]
    rw [show i + (xs.length - (i + 1)) = (xs.eraseIdx i).length by rw [List.length_eraseIdx, if_pos hi]; omega]
    refine q_ret rfl rfl ?_
    exact ⟨rfl, rfl⟩

theorem pdelete_ok_n {R : List HP} {bx : Option Addr} {cx n : Nat} (xs : List Nat) (hn : xs.length = n) (i : Nat) (hi : i < n) : Ok Try.prog 28 [.slice bx n cx, .int .i64 ((i : Nat) : Int), .int .i64 ((i + 1 : Nat) : Int)] (SlV 63 1 (.slice bx n cx) n (recs ptrF xs) :: R)
      (fun v M => v = .slice bx (xs.eraseIdx i).length cx ∧ M = SlV 63 1 (.slice bx (xs.eraseIdx i).length cx) (xs.eraseIdx i).length (recs ptrF (xs.eraseIdx i)) :: R) := by subst hn; exact pdelete_ok xs i hi

theorem place1_ok {R : List HP} {b k : Nat} {ps : List Nat} {ms : List M3} (hlp : ps.length = ms.length) (hk : k < ms.length) (id : Int) :
    Ok Try.prog 31 [(.pointer (some ⟨(ps.getD k 0), 0, none⟩)), (.pointer (some ⟨b, 0, none⟩))] ((Blk b [(.int .i64 id)] 3) :: (Join (mems ps ms)) :: R)
      (fun v M => v = .bool (decide ((ms.getD k M3.z).id = id)) ∧ M = Blk b [.int .i64 id] 3 :: Join (mems ps ms) :: R) := by
  refine ok_of (N := 10) Try.func31 rfl rfl rfl (fun W => ?_)
  refine t_f1 ?_
  refine t_takeM (i := k) hlp hk ?_
  refine c_seq (fun K1 hK1 => ?_)
  refine c_region ?_
  refine tp rfl (lv_assign rfl) ?_
  refine t_done ?_
  refine q_then_n (hK1 _ _ ?_)
  refine c_seq (fun K2 hK2 => ?_)
  refine c_draw (γ := Unit) (n := 7) Try.mixed rfl rfl (fun _ S => True) (fun _ => [(0, 4, (.pointer (some ⟨(ps.getD k 0), 0, none⟩))), (1, 5, (.pointer (some ⟨(ps.getD k 0), 0, none⟩))), (2, 6, (.pointer (some ⟨(ps.getD k 0), 0, none⟩))), (3, 7, (.int .i64 ((ms.getD k M3.z).id))), (4, 8, (.int .i64 id)), (5, 9, (.bool (((ms.getD k M3.z).id) == id))), (6, 3, (.bool (((ms.getD k M3.z).id) == id)))]) (fun _ S => (Blk (ps.getD k 0) [(.int .i64 ((ms.getD k M3.z).id)), (.int .i64 ((ms.getD k M3.z).w)), (.int .i64 ((ms.getD k M3.z).c))] 65) :: (Join (mems (ps.eraseIdx k) (ms.eraseIdx k))) :: (Blk b [(.int .i64 id)] 3) :: R) (()) trivial (fun _ h => h) (fun _ _ h => h) ?_ ?_
  · -- steps
    refine ⟨?_, ?_, ?_, ?_, ?_, ?_, ?_, trivial⟩
    · -- 0
      rintro _ S hF hS D hp K hK
      try dsimp only at hF ⊢
      refine d_need (small := [(0, (.pointer (some ⟨(ps.getD k 0), 0, none⟩)))]) ⟨look_b rfl rfl, trivial⟩ ?_
      refine tp rfl (lv_move rfl) ?_
      exact d_closes ⟨look_b rfl rfl, trivial⟩ 0 rfl rfl rfl hS (AgreeR.refl _) (t_sat (fun _ h => h) (hK () trivial))
    · -- 1
      rintro _ S hF hS D hp K hK
      try dsimp only at hF ⊢
      have s0 := hp 0 rfl
      refine d_need (small := [(4, (.pointer (some ⟨(ps.getD k 0), 0, none⟩)))]) ⟨look_row rfl 0 rfl s0, trivial⟩ ?_
      refine tp rfl (lv_nilCheck rfl) ?_
      exact d_closes ⟨look_row rfl 0 rfl s0, trivial⟩ 1 rfl rfl rfl hS (AgreeR.refl _) (t_sat (fun _ h => h) (hK () trivial))
    · -- 2
      rintro _ S hF hS D hp K hK
      try dsimp only at hF ⊢
      have s1 := hp 1 rfl
      refine d_need (small := [(5, (.pointer (some ⟨(ps.getD k 0), 0, none⟩)))]) ⟨look_row rfl 1 rfl s1, trivial⟩ ?_
      refine tp rfl (lv_fieldAddr (o' := 0) Try.underlying65 rfl Try.sizeOf3 rfl rfl) ?_
      exact d_closes ⟨look_row rfl 1 rfl s1, trivial⟩ 2 rfl rfl rfl hS (AgreeR.refl _) (t_sat (fun _ h => h) (hK () trivial))
    · -- 3
      rintro _ S hF hS D hp K hK
      try dsimp only at hF ⊢
      have s2 := hp 2 rfl
      refine d_need (small := [(6, (.pointer (some ⟨(ps.getD k 0), 0, none⟩)))]) ⟨look_row rfl 2 rfl s2, trivial⟩ ?_
      refine tp rfl (lv_load Try.isAgg3 rfl (gives_blk (.head _) rfl)) ?_
      exact d_closes ⟨look_row rfl 2 rfl s2, trivial⟩ 3 rfl rfl rfl hS (AgreeR.refl _) (t_sat (fun _ h => h) (hK () trivial))
    · -- 4
      rintro _ S hF hS D hp K hK
      try dsimp only at hF ⊢
      refine d_need (small := [(1, (.pointer (some ⟨b, 0, none⟩)))]) ⟨look_b rfl rfl, trivial⟩ ?_
      refine tp rfl (lv_load Try.isAgg3 rfl (gives_blk (.tail _ (.tail _ (.head _))) rfl)) ?_
      exact d_closes ⟨look_b rfl rfl, trivial⟩ 4 rfl rfl rfl hS (AgreeR.refl _) (t_sat (fun _ h => h) (hK () trivial))
    · -- 5
      rintro _ S hF hS D hp K hK
      try dsimp only at hF ⊢
      have s3 := hp 3 rfl
      have s4 := hp 4 rfl
      refine d_need (small := [(7, (.int .i64 ((ms.getD k M3.z).id))), (8, (.int .i64 id))]) ⟨look_row rfl 3 rfl s3, look_row rfl 4 rfl s4, trivial⟩ ?_
      refine tp rfl (lv_eql rfl rfl rfl) ?_
      exact d_closes ⟨look_row rfl 3 rfl s3, look_row rfl 4 rfl s4, trivial⟩ 5 rfl rfl rfl hS (AgreeR.refl _) (t_sat (fun _ h => h) (hK () trivial))
    · -- 6
      rintro _ S hF hS D hp K hK
      try dsimp only at hF ⊢
      have s5 := hp 5 rfl
      refine d_need (small := [(9, (.bool (((ms.getD k M3.z).id) == id)))]) ⟨look_row rfl 5 rfl s5, trivial⟩ ?_
      refine tp rfl (lv_assign rfl) ?_
      exact d_closes ⟨look_row rfl 5 rfl s5, trivial⟩ 6 rfl rfl rfl hS (AgreeR.refl _) (t_sat (fun _ h => h) (hK () trivial))
  · -- behind
    rintro _ hF
    try dsimp only at hF ⊢
    refine t_weak (E' := [(0, (.pointer (some ⟨(ps.getD k 0), 0, none⟩))), (1, (.pointer (some ⟨b, 0, none⟩))), (3, (.bool (((ms.getD k M3.z).id) == id)))]) ⟨rfl, rfl, rfl, trivial⟩ ?_
    refine q_then_n (hK2 _ _ ?_)
    refine c_ret ?_
    refine t_f1 ?_
    refine t_f1 ?_
    refine t_putM0 hlp hk ?_
    refine t_f1 ?_
    refine q_ret rfl rfl ?_
    exact ⟨rfl, rfl⟩

theorem place_ok {R : List HP} {p n ca : Nat} {vq va : Value} {ba : Option Addr} {ps : List Nat} {ms : List M3} (hlp : ps.length = n) (hn : ms.length = n) (hok : SlOk ba n) (hl : n ≤ 100000) (id : Int) :
    Ok Try.prog 24 [(.pointer (some ⟨p, 0, none⟩)), (.int .i64 id)] ((Blk p [vq, (.slice ba n ca), va] 62) :: (SlV 63 1 (.slice ba n ca) n (recs ptrF ps)) :: (Join (mems ps ms)) :: R)
      (fun v M => v = .int .i64 (placeM ms id) ∧ M = Blk p [vq, .slice ba n ca, va] 62 :: SlV 63 1 (.slice ba n ca) n (recs ptrF ps) :: Join (mems ps ms) :: R) := by
  refine ok_of (N := 11) Try.func24 rfl rfl rfl (fun W => ?_)
  refine c_seq (fun K1 hK1 => ?_)
  refine c_region ?_
  refine tm rfl (mv_box rfl rfl) ?_
  rintro _ _ ⟨b1, rfl, rfl⟩
  refine tp rfl (lv_assign rfl) ?_
  refine t_done ?_
  refine q_then_n (hK1 _ _ ?_)
  refine c_seq (fun K2 hK2 => ?_)
  refine c_region ?_
  refine tp rfl (lv_move rfl) ?_
  refine tp rfl (lv_nilCheck rfl) ?_
  refine tp rfl (lv_fieldAddr (o' := 1) Try.underlying62 rfl Try.sizeOf60 rfl rfl) ?_
  refine tp rfl (lv_load Try.isAgg60 rfl (gives_blk (.tail _ (.head _)) rfl)) ?_
  refine tp rfl (lv_makeFunc rfl) ?_
  refine t_f3 ?_
  refine t_f1 ?_
  refine tc rfl (en_fn Try.call30 rfl) (indexFuncP_ok (p := fun k => decide ((ms.getD k M3.z).id = id)) (n := n) ps hlp ⟨Try.call31, fun k hk => place1_ok (hlp.trans hn.symm) (by omega) id⟩ (rd_sl (.tail _ (.tail _ (.tail _ (.head _))))) hok (by omega)) ?_
  rintro _ _ ⟨rfl, rfl⟩
  rw [show idxN (fun k => decide ((ms.getD k M3.z).id = id)) n = placeM ms id from by rw [← placeM_idxN, hn]]
  refine tp rfl (lv_assign rfl) ?_
  refine t_done ?_
  refine q_then_n (hK2 _ _ ?_)
  refine c_ret ?_
  refine t_drop ?_
  refine t_f2 ?_
  refine t_f2 ?_
  refine q_ret rfl rfl ?_
  exact ⟨rfl, rfl⟩

theorem gain_ok {R : List HP} {p m : Nat} {q i_ w_ c_ : Int} {v1 v2 : Value} (h : 0 ≤ q * w_ ∧ q * w_ ≤ 200000000) :
    Ok Try.prog 27 [(.pointer (some ⟨p, 0, none⟩)), (.pointer (some ⟨m, 0, none⟩))] ((Blk p [(.int .i64 q), v1, v2] 62) :: (Blk m [(.int .i64 i_), (.int .i64 w_), (.int .i64 c_)] 65) :: R)
      (fun v M => v = .int .i64 (q * w_) ∧ M = Blk p [.int .i64 q, v1, v2] 62 :: Blk m [.int .i64 i_, .int .i64 w_, .int .i64 c_] 65 :: R) := by
  refine ok_of (N := 14) Try.func27 rfl rfl rfl (fun W => ?_)
  refine c_seq (fun K1 hK1 => ?_)
  refine c_region ?_
  refine tp rfl (lv_assign rfl) ?_
  refine t_done ?_
  refine q_then_n (hK1 _ _ ?_)
  refine c_seq (fun K2 hK2 => ?_)
  refine c_draw (γ := Unit) (n := 10) Try.mixed rfl rfl (fun _ S => True) (fun _ => [(0, 5, (.pointer (some ⟨p, 0, none⟩))), (1, 6, (.pointer (some ⟨p, 0, none⟩))), (2, 7, (.pointer (some ⟨p, 0, none⟩))), (3, 8, (.int .i64 q)), (4, 9, (.pointer (some ⟨m, 0, none⟩))), (5, 10, (.pointer (some ⟨m, 0, none⟩))), (6, 11, (.pointer (some ⟨m, 1, none⟩))), (7, 12, (.int .i64 w_)), (8, 13, (.int .i64 (q * w_))), (9, 4, (.int .i64 (q * w_)))]) (fun _ S => (Blk p [(.int .i64 q), v1, v2] 62) :: (Blk m [(.int .i64 i_), (.int .i64 w_), (.int .i64 c_)] 65) :: R) (()) trivial (fun _ h => h) (fun _ _ h => h) ?_ ?_
  · -- steps
    refine ⟨?_, ?_, ?_, ?_, ?_, ?_, ?_, ?_, ?_, ?_, trivial⟩
    · -- 0
      rintro _ S hF hS D hp K hK
      try dsimp only at hF ⊢
      refine d_need (small := [(0, (.pointer (some ⟨p, 0, none⟩)))]) ⟨look_b rfl rfl, trivial⟩ ?_
      refine tp rfl (lv_move rfl) ?_
      exact d_closes ⟨look_b rfl rfl, trivial⟩ 0 rfl rfl rfl hS (AgreeR.refl _) (t_sat (fun _ h => h) (hK () trivial))
    · -- 1
      rintro _ S hF hS D hp K hK
      try dsimp only at hF ⊢
      have s0 := hp 0 rfl
      refine d_need (small := [(5, (.pointer (some ⟨p, 0, none⟩)))]) ⟨look_row rfl 0 rfl s0, trivial⟩ ?_
      refine tp rfl (lv_nilCheck rfl) ?_
      exact d_closes ⟨look_row rfl 0 rfl s0, trivial⟩ 1 rfl rfl rfl hS (AgreeR.refl _) (t_sat (fun _ h => h) (hK () trivial))
    · -- 2
      rintro _ S hF hS D hp K hK
      try dsimp only at hF ⊢
      have s1 := hp 1 rfl
      refine d_need (small := [(6, (.pointer (some ⟨p, 0, none⟩)))]) ⟨look_row rfl 1 rfl s1, trivial⟩ ?_
      refine tp rfl (lv_fieldAddr (o' := 0) Try.underlying62 rfl Try.sizeOf3 rfl rfl) ?_
      exact d_closes ⟨look_row rfl 1 rfl s1, trivial⟩ 2 rfl rfl rfl hS (AgreeR.refl _) (t_sat (fun _ h => h) (hK () trivial))
    · -- 3
      rintro _ S hF hS D hp K hK
      try dsimp only at hF ⊢
      have s2 := hp 2 rfl
      refine d_need (small := [(7, (.pointer (some ⟨p, 0, none⟩)))]) ⟨look_row rfl 2 rfl s2, trivial⟩ ?_
      refine tp rfl (lv_load Try.isAgg3 rfl (gives_blk (.head _) rfl)) ?_
      exact d_closes ⟨look_row rfl 2 rfl s2, trivial⟩ 3 rfl rfl rfl hS (AgreeR.refl _) (t_sat (fun _ h => h) (hK () trivial))
    · -- 4
      rintro _ S hF hS D hp K hK
      try dsimp only at hF ⊢
      refine d_need (small := [(1, (.pointer (some ⟨m, 0, none⟩)))]) ⟨look_b rfl rfl, trivial⟩ ?_
      refine tp rfl (lv_move rfl) ?_
      exact d_closes ⟨look_b rfl rfl, trivial⟩ 4 rfl rfl rfl hS (AgreeR.refl _) (t_sat (fun _ h => h) (hK () trivial))
    · -- 5
      rintro _ S hF hS D hp K hK
      try dsimp only at hF ⊢
      have s4 := hp 4 rfl
      refine d_need (small := [(9, (.pointer (some ⟨m, 0, none⟩)))]) ⟨look_row rfl 4 rfl s4, trivial⟩ ?_
      refine tp rfl (lv_nilCheck rfl) ?_
      exact d_closes ⟨look_row rfl 4 rfl s4, trivial⟩ 5 rfl rfl rfl hS (AgreeR.refl _) (t_sat (fun _ h => h) (hK () trivial))
    · -- 6
      rintro _ S hF hS D hp K hK
      try dsimp only at hF ⊢
      have s5 := hp 5 rfl
      refine d_need (small := [(10, (.pointer (some ⟨m, 0, none⟩)))]) ⟨look_row rfl 5 rfl s5, trivial⟩ ?_
      refine tp rfl (lv_fieldAddr (o' := 1) Try.underlying65 rfl Try.sizeOf3 rfl rfl) ?_
      exact d_closes ⟨look_row rfl 5 rfl s5, trivial⟩ 6 rfl rfl rfl hS (AgreeR.refl _) (t_sat (fun _ h => h) (hK () trivial))
    · -- 7
      rintro _ S hF hS D hp K hK
      try dsimp only at hF ⊢
      have s6 := hp 6 rfl
      refine d_need (small := [(11, (.pointer (some ⟨m, 1, none⟩)))]) ⟨look_row rfl 6 rfl s6, trivial⟩ ?_
      refine tp rfl (lv_load Try.isAgg3 rfl (gives_blk (.tail _ (.head _)) rfl)) ?_
      exact d_closes ⟨look_row rfl 6 rfl s6, trivial⟩ 7 rfl rfl rfl hS (AgreeR.refl _) (t_sat (fun _ h => h) (hK () trivial))
    · -- 8
      rintro _ S hF hS D hp K hK
      try dsimp only at hF ⊢
      have s3 := hp 3 rfl
      have s7 := hp 7 rfl
      refine d_need (small := [(8, (.int .i64 q)), (12, (.int .i64 w_))]) ⟨look_row rfl 3 rfl s3, look_row rfl 7 rfl s7, trivial⟩ ?_
      refine tp rfl (lv_mul (c := q * w_) rfl rfl (wr_i64 (by omega) (by omega))) ?_
      exact d_closes ⟨look_row rfl 3 rfl s3, look_row rfl 7 rfl s7, trivial⟩ 8 rfl rfl rfl hS (AgreeR.refl _) (t_sat (fun _ h => h) (hK () trivial))
    · -- 9
      rintro _ S hF hS D hp K hK
      try dsimp only at hF ⊢
      have s8 := hp 8 rfl
      refine d_need (small := [(13, (.int .i64 (q * w_)))]) ⟨look_row rfl 8 rfl s8, trivial⟩ ?_
      refine tp rfl (lv_assign rfl) ?_
      exact d_closes ⟨look_row rfl 8 rfl s8, trivial⟩ 9 rfl rfl rfl hS (AgreeR.refl _) (t_sat (fun _ h => h) (hK () trivial))
  · -- behind
    rintro _ hF
    try dsimp only at hF ⊢
    refine t_weak (E' := [(0, (.pointer (some ⟨p, 0, none⟩))), (1, (.pointer (some ⟨m, 0, none⟩))), (4, (.int .i64 (q * w_)))]) ⟨rfl, rfl, rfl, trivial⟩ ?_
    refine q_then_n (hK2 _ _ ?_)
    refine c_ret ?_
    refine q_ret rfl rfl ?_
    exact ⟨rfl, rfl⟩

theorem costs_ok {R : List HP} {p n ca : Nat} {vq va : Value} {ba : Option Addr} {ps : List Nat} {ms : List M3} (hlp : ps.length = n) (hn : ms.length = n) (hok : SlOk ba n) (hl : n ≤ 100000) (hnd : (ms.map (·.id)).Nodup) (ws : List (Int × Int)) {bl : Option Addr} {cl : Nat} (hw : Rd R bl (pairs ws)) (okl : SlOk bl ws.length) (lw : ws.length ≤ 1000000) :
    Ok Try.prog 25 [(.pointer (some ⟨p, 0, none⟩)), (.slice bl ws.length cl)] ((Blk p [vq, (.slice ba n ca), va] 62) :: (SlV 63 1 (.slice ba n ca) n (recs ptrF ps)) :: (Join (mems ps ms)) :: R)
      (fun v M => ∃ bs cp, SlOk bs n ∧ n ≤ cp ∧ v = .tuple #[.slice bs n cp, .bool (anyPos (costsL ms ws))] ∧ M = SlV 3 1 (.slice bs n cp) n (ints .i64 (costsL ms ws)) :: Blk p [vq, .slice ba n ca, va] 62 :: SlV 63 1 (.slice ba n ca) n (recs ptrF ps) :: Join (mems ps ms) :: R) := by
  refine ok_of (N := 52) Try.func25 rfl rfl rfl (fun W => ?_)
  refine c_seq (fun K1 hK1 => ?_)
  refine c_region ?_
  refine tp rfl (lv_assign rfl) ?_
  refine tp rfl (lv_assign rfl) ?_
  refine t_done ?_
  refine q_then_n (hK1 _ _ ?_)
  refine c_seq (fun K2 hK2 => ?_)
  refine c_region ?_
  refine tp rfl (lv_move rfl) ?_
  refine tp rfl (lv_nilCheck rfl) ?_
  refine tp rfl (lv_fieldAddr (o' := 1) Try.underlying62 rfl Try.sizeOf60 rfl rfl) ?_
  refine tp rfl (lv_load Try.isAgg60 rfl (gives_blk (.head _) rfl)) ?_
  refine tp rfl (lv_len Try.underlying60 rfl rfl) ?_
  refine tm rfl (mv_makeSlice (i := Try.t3) Try.underlying22 Try.type3 rfl rfl rfl rfl rfl (by omega) (by rw [show Try.t3.bytes = 8 from rfl]; omega) (by omega)) ?_
  rintro _ _ ⟨bs1, cp2, hok3, hle4, rfl, rfl⟩
  rw [ints_rep]
  refine tp rfl (lv_assign rfl) ?_
  refine t_done ?_
  refine q_then_n (hK2 _ _ ?_)
  refine c_seq (fun K3 hK3 => ?_)
  refine c_seq (fun K4 hK4 => ?_)
  refine c_region ?_
  refine tp rfl (lv_move rfl) ?_
  refine tp rfl (lv_len Try.underlying29 rfl rfl) ?_
  refine tp rfl (lv_move rfl) ?_
  refine t_done ?_
  refine q_then_n (hK4 _ _ ?_)
  refine c_block ?_
  simp only [Int.toNat_natCast]
  rw [show List.replicate n (0 : Int) = costsL ms (ws.take 0) from by rw [List.take_zero, costsL_nil, hn]]
  refine c_loop (γ := (Nat)) (fun (k : Nat) => k ≤ ws.length) (fun (k : Nat) => [(0, (.pointer (some ⟨p, 0, none⟩))), (1, (.slice bl ws.length cl)), (4, (.slice bs1 n cp2)), (5, (.bool (anyPos (costsL ms (ws.take k))))), (15, (.slice bl ws.length cl)), (16, (.int .i64 ((ws.length : Nat) : Int))), (17, (.int .i64 ((k : Nat) : Int)))]) (fun (k : Nat) => (SlV 3 1 (.slice bs1 n cp2) n (ints .i64 (costsL ms (ws.take k)))) :: (Blk p [vq, (.slice ba n ca), va] 62) :: (SlV 63 1 (.slice ba n ca) n (recs ptrF ps)) :: (Join (mems ps ms)) :: R) (fun (k : Nat) => ws.length - k) (0) (by omega) ⟨rfl, rfl, rfl, (by rw [List.take_zero, costsL_nil, anyPos_rep]; rfl), rfl, rfl, rfl, trivial⟩ (fun _ h => h) ?_
  rintro k K5 hF hK5
  try dsimp only at hF hK5 ⊢
  have hcl := costsL_len ms (ws.take k)
  have hpg := placeM_ge ms (ws.getD k (0, 0)).1
  refine c_seq (fun K6 hK6 => ?_)
  refine c_region ?_
  by_cases h5 : ((k : Nat) : Int) < ((ws.length : Nat) : Int)
  · -- yes
    refine tp rfl (lv_lss rfl rfl (decide_eq_true h5)) ?_
    refine t_done ?_
    refine q_then_n (hK6 _ _ ?_)
    refine c_seq (fun K7 hK7 => ?_)
    refine c_true rfl ?_
    refine c_skip ?_
    refine q_then_n (hK7 _ _ ?_)
    refine c_seq (fun K8 hK8 => ?_)
    refine c_block ?_
    refine c_seq (fun K9 hK9 => ?_)
    refine c_region ?_
    refine tp rfl (lv_indexAddr (k' := k * 2) Try.underlying29 Try.sizeOf31 rfl rfl okl (by omega) (by omega) (by omega)) ?_
    refine tp rfl (lv_loadAgg_ad (cs := [(.int .i64 (((ws).getD k (0, 0)).1)), (.int .i64 (((ws).getD k (0, 0)).2))]) Try.isAgg31 Try.sizeOf31 rfl (gives_all2 (Rd.gives (Rd.cons (Rd.cons (Rd.cons (Rd.cons hw)))) (pairs_get0 (by omega))) (Rd.gives (Rd.cons (Rd.cons (Rd.cons (Rd.cons hw)))) (pairs_get1 (by omega))))) ?_
    refine tm rfl (mv_alloc Try.zeroValue31 rfl) ?_
    rintro _ _ ⟨b6, rfl, rfl⟩
    refine ts (sv_blkAgg (news := [(.int .i64 (((ws).getD k (0, 0)).1)), (.int .i64 (((ws).getD k (0, 0)).2))]) Try.sizeOf31 rfl rfl rfl rfl (Nat.le_of_ble_eq_true rfl) rfl) ?_
    refine t_done ?_
    refine q_then_n (hK9 _ _ ?_)
    refine c_seq (fun K10 hK10 => ?_)
    refine c_region ?_
    refine tp rfl (lv_move rfl) ?_
    refine tp rfl (lv_fieldAddr (o' := 0) Try.underlying31 rfl Try.sizeOf3 rfl rfl) ?_
    refine tp rfl (lv_load Try.isAgg3 rfl (gives_blk (.head _) rfl)) ?_
    refine t_f4 ?_
    refine t_f4 ?_
    refine t_f4 ?_
    refine tc rfl (en_fn Try.call24 rfl) (place_ok hlp hn hok (by omega) (((ws).getD k (0, 0)).1)) ?_
    rintro _ _ ⟨rfl, rfl⟩
    refine tp rfl (lv_assign rfl) ?_
    refine t_done ?_
    refine q_then_n (hK10 _ _ ?_)
    refine c_seq (fun K11 hK11 => ?_)
    refine c_region ?_
    refine tp rfl (lv_move rfl) ?_
    by_cases h7 : (placeM ms (((ws).getD k (0, 0)).1)) ≥ 0
    · -- yes
      refine tp rfl (lv_geq rfl rfl (decide_eq_true h7)) ?_
      refine tp rfl (lv_move rfl) ?_
      refine t_guard rfl rfl ?_
      refine tp rfl (lv_move rfl) ?_
      refine t_guard rfl rfl ?_
      refine tp rfl (lv_move rfl) ?_
      refine t_guard rfl rfl ?_
      refine tp rfl (lv_indexAddr (k' := (placeM ms (((ws).getD k (0, 0)).1)).toNat) Try.underlying22 Try.sizeOf3 rfl rfl hok3 (by omega) (by omega) (by omega)) ?_
      refine t_guard rfl rfl ?_
      refine tp rfl (lv_load Try.isAgg3 rfl (gives_sl (.tail _ (.tail _ (.tail _ (.tail _ (.head _))))) (ints_get (by first | omega | (simp; omega))))) ?_
      refine t_guard rfl rfl ?_
      by_cases h8 : ((costsL ms (ws.take k)).getD ((placeM ms (((ws).getD k (0, 0)).1)).toNat) 0) = 0
      · -- yes
        refine tp rfl (lv_eql rfl rfl (beq_iff_eq.2 h8)) ?_
        refine tp rfl (lv_pick_t rfl rfl) ?_
        refine tp rfl (lv_move rfl) ?_
        refine t_guard rfl rfl ?_
        refine tp rfl (lv_fieldAddr (o' := 1) Try.underlying31 rfl Try.sizeOf3 rfl rfl) ?_
        refine t_guard rfl rfl ?_
        refine tp rfl (lv_load Try.isAgg3 rfl (gives_blk (.tail _ (.tail _ (.tail _ (.head _)))) rfl)) ?_
        refine t_guard rfl rfl ?_
        by_cases h9 : (((ws).getD k (0, 0)).2) ≥ 1
        · -- yes
         refine tp rfl (lv_geq rfl rfl (decide_eq_true h9)) ?_
         refine tp rfl (lv_pick_t rfl rfl) ?_
         refine tp rfl (lv_move rfl) ?_
         refine t_guard rfl rfl ?_
         refine tp rfl (lv_fieldAddr (o' := 1) Try.underlying31 rfl Try.sizeOf3 rfl rfl) ?_
         refine t_guard rfl rfl ?_
         refine tp rfl (lv_load Try.isAgg3 rfl (gives_blk (.tail _ (.tail _ (.tail _ (.head _)))) rfl)) ?_
         refine t_guard rfl rfl ?_
         by_cases h10 : (((ws).getD k (0, 0)).2) ≤ 1048576
         · -- yes
          refine tp rfl (lv_leq rfl rfl (decide_eq_true h10)) ?_
          refine tp rfl (lv_pick_t rfl rfl) ?_
          refine t_done ?_
          refine q_then_n (hK11 _ _ ?_)
          refine c_true rfl ?_
          refine c_region ?_
          refine tp rfl (lv_move rfl) ?_
          refine tp rfl (lv_move rfl) ?_
          refine tp rfl (lv_fieldAddr (o' := 1) Try.underlying31 rfl Try.sizeOf3 rfl rfl) ?_
          refine tp rfl (lv_load Try.isAgg3 rfl (gives_blk (.tail _ (.tail _ (.tail _ (.head _)))) rfl)) ?_
          refine tp rfl (lv_indexAddr (k' := (placeM ms (((ws).getD k (0, 0)).1)).toNat) Try.underlying22 Try.sizeOf3 rfl rfl hok3 (by omega) (by omega) (by omega)) ?_
          refine t_f4 ?_
          refine ts (sv_sl Try.sizeOf3 rfl rfl rfl (by first | (rw [ints_length]; omega) | (simp; omega) | omega) ints_set) ?_
          refine tp rfl (lv_assign rfl) ?_
          refine t_done ?_
          refine q_in_n ?_
          refine q_then_n (hK8 _ _ ?_)
          refine c_region ?_
          refine tp rfl (lv_add (c := ((k + 1 : Nat) : Int)) rfl rfl (wr_i64_succ (by omega))) ?_
          refine tp rfl (lv_move rfl) ?_
          refine t_done ?_
          refine q_then_n ?_
          refine t_f4 ?_
          refine t_drop ?_
          have hnew : costsL ms (ws.take (k + 1)) = ((costsL ms (ws.take k))).set ((placeM ms (((ws).getD k (0, 0)).1)).toNat) (((ws).getD k (0, 0)).2) := by rw [take_succ_getD (by omega) (0, 0), costs_step hnd]; first | exact if_pos ⟨by omega, by omega, by omega, by omega⟩ | exact if_neg (fun hh => by omega)
          rw [← hnew]
          exact t_weak (by exact ⟨rfl, rfl, rfl, (by rw [hnew, anyPos_set (by omega) (by omega)]; rfl), rfl, rfl, rfl, trivial⟩) ((hK5 (k + 1) (by omega) (by omega)))
         · -- no
          refine tp rfl (lv_leq rfl rfl (decide_eq_false h10)) ?_
          refine tp rfl (lv_pick_t rfl rfl) ?_
          refine t_done ?_
          refine q_then_n (hK11 _ _ ?_)
          refine c_false rfl ?_
          refine c_skip ?_
          refine q_in_n ?_
          refine q_then_n (hK8 _ _ ?_)
          refine c_region ?_
          refine tp rfl (lv_add (c := ((k + 1 : Nat) : Int)) rfl rfl (wr_i64_succ (by omega))) ?_
          refine tp rfl (lv_move rfl) ?_
          refine t_done ?_
          refine q_then_n ?_
          refine t_f3 ?_
          refine t_drop ?_
          refine t_f2 ?_
          refine t_f2 ?_
          refine t_f2 ?_
          refine t_f3 ?_
          have hnew : costsL ms (ws.take (k + 1)) = costsL ms (ws.take k) := by rw [take_succ_getD (by omega) (0, 0), costs_step hnd]; first | exact if_pos ⟨by omega, by omega, by omega, by omega⟩ | exact if_neg (fun hh => by omega)
          rw [← hnew]
          exact t_weak (by exact ⟨rfl, rfl, rfl, (by rw [hnew]; rfl), rfl, rfl, rfl, trivial⟩) ((hK5 (k + 1) (by omega) (by omega)))
        · -- no
         refine tp rfl (lv_geq rfl rfl (decide_eq_false h9)) ?_
         refine tp rfl (lv_pick_t rfl rfl) ?_
         refine tp rfl (lv_move rfl) ?_
         refine t_skip rfl rfl rfl ?_
         refine t_skip rfl rfl rfl ?_
         refine t_skip rfl rfl rfl ?_
         refine tp rfl (lv_pick_f rfl rfl) ?_
         refine t_done ?_
         refine q_then_n (hK11 _ _ ?_)
         refine c_false rfl ?_
         refine c_skip ?_
         refine q_in_n ?_
         refine q_then_n (hK8 _ _ ?_)
         refine c_region ?_
         refine tp rfl (lv_add (c := ((k + 1 : Nat) : Int)) rfl rfl (wr_i64_succ (by omega))) ?_
         refine tp rfl (lv_move rfl) ?_
         refine t_done ?_
         refine q_then_n ?_
         refine t_f3 ?_
         refine t_drop ?_
         refine t_f2 ?_
         refine t_f2 ?_
         refine t_f2 ?_
         refine t_f3 ?_
         have hnew : costsL ms (ws.take (k + 1)) = costsL ms (ws.take k) := by rw [take_succ_getD (by omega) (0, 0), costs_step hnd]; first | exact if_pos ⟨by omega, by omega, by omega, by omega⟩ | exact if_neg (fun hh => by omega)
         rw [← hnew]
         exact t_weak (by exact ⟨rfl, rfl, rfl, (by rw [hnew]; rfl), rfl, rfl, rfl, trivial⟩) ((hK5 (k + 1) (by omega) (by omega)))
      · -- no
        refine tp rfl (lv_eql rfl rfl (beq_eq_false_iff_ne.2 h8)) ?_
        refine tp rfl (lv_pick_t rfl rfl) ?_
        refine tp rfl (lv_move rfl) ?_
        refine t_skip rfl rfl rfl ?_
        refine t_skip rfl rfl rfl ?_
        refine t_skip rfl rfl rfl ?_
        refine tp rfl (lv_pick_f rfl rfl) ?_
        refine tp rfl (lv_move rfl) ?_
        refine t_skip rfl rfl rfl ?_
        refine t_skip rfl rfl rfl ?_
        refine t_skip rfl rfl rfl ?_
        refine tp rfl (lv_pick_f rfl rfl) ?_
        refine t_done ?_
        refine q_then_n (hK11 _ _ ?_)
        refine c_false rfl ?_
        refine c_skip ?_
        refine q_in_n ?_
        refine q_then_n (hK8 _ _ ?_)
        refine c_region ?_
        refine tp rfl (lv_add (c := ((k + 1 : Nat) : Int)) rfl rfl (wr_i64_succ (by omega))) ?_
        refine tp rfl (lv_move rfl) ?_
        refine t_done ?_
        refine q_then_n ?_
        refine t_f3 ?_
        refine t_drop ?_
        refine t_f2 ?_
        refine t_f2 ?_
        refine t_f2 ?_
        refine t_f3 ?_
        have hnew : costsL ms (ws.take (k + 1)) = costsL ms (ws.take k) := by rw [take_succ_getD (by omega) (0, 0), costs_step hnd]; first | exact if_pos ⟨by omega, by omega, by omega, by omega⟩ | exact if_neg (fun hh => by omega)
        rw [← hnew]
        exact t_weak (by exact ⟨rfl, rfl, rfl, (by rw [hnew]; rfl), rfl, rfl, rfl, trivial⟩) ((hK5 (k + 1) (by omega) (by omega)))
    · -- no
      refine tp rfl (lv_geq rfl rfl (decide_eq_false h7)) ?_
      refine tp rfl (lv_move rfl) ?_
      refine t_skip rfl rfl rfl ?_
      refine t_skip rfl rfl rfl ?_
      refine t_skip rfl rfl rfl ?_
      refine t_skip rfl rfl rfl ?_
      refine t_skip rfl rfl rfl ?_
      refine tp rfl (lv_pick_f rfl rfl) ?_
      refine tp rfl (lv_move rfl) ?_
      refine t_skip rfl rfl rfl ?_
      refine t_skip rfl rfl rfl ?_
      refine t_skip rfl rfl rfl ?_
      refine tp rfl (lv_pick_f rfl rfl) ?_
      refine tp rfl (lv_move rfl) ?_
      refine t_skip rfl rfl rfl ?_
      refine t_skip rfl rfl rfl ?_
      refine t_skip rfl rfl rfl ?_
      refine tp rfl (lv_pick_f rfl rfl) ?_
      refine t_done ?_
      refine q_then_n (hK11 _ _ ?_)
      refine c_false rfl ?_
      refine c_skip ?_
      refine q_in_n ?_
      refine q_then_n (hK8 _ _ ?_)
      refine c_region ?_
      refine tp rfl (lv_add (c := ((k + 1 : Nat) : Int)) rfl rfl (wr_i64_succ (by omega))) ?_
      refine tp rfl (lv_move rfl) ?_
      refine t_done ?_
      refine q_then_n ?_
      refine t_f3 ?_
      refine t_drop ?_
      refine t_f2 ?_
      refine t_f2 ?_
      refine t_f2 ?_
      refine t_f3 ?_
      have hnew : costsL ms (ws.take (k + 1)) = costsL ms (ws.take k) := by rw [take_succ_getD (by omega) (0, 0), costs_step hnd]; first | exact if_pos ⟨by omega, by omega, by omega, by omega⟩ | exact if_neg (fun hh => by omega)
      rw [← hnew]
      exact t_weak (by exact ⟨rfl, rfl, rfl, (by rw [hnew]; rfl), rfl, rfl, rfl, trivial⟩) ((hK5 (k + 1) (by omega) (by omega)))
  · -- no
    refine tp rfl (lv_lss rfl rfl (decide_eq_false h5)) ?_
    refine t_done ?_
    refine q_then_n (hK6 _ _ ?_)
    refine c_seq (fun K7 hK7 => ?_)
    refine c_false rfl ?_
    refine c_exit ?_
    refine q_then_x ?_
    refine q_then_x ?_
    refine q_in_x ?_
    refine q_then_n (hK3 _ _ ?_)
    refine c_seq (fun K8 hK8 => ?_)
    refine c_region ?_
    refine tp rfl (lv_move rfl) ?_
    refine tp rfl (lv_move rfl) ?_
    refine tp rfl (lv_assign rfl) ?_
    refine tp rfl (lv_assign rfl) ?_
    refine t_done ?_
    refine q_then_n (hK8 _ _ ?_)
    refine c_ret ?_
    rw [show ws.take k = ws from List.take_of_length_le (by omega)]
    refine q_ret2 rfl rfl rfl ?_
    exact ⟨_, _, hok3, hle4, rfl, rfl⟩

set_option maxHeartbeats 4000000 in
theorem skip_ok {R : List HP} {p n ca : Nat} {q : Int} {cs : List Int} {bs : Option Addr} {cp : Nat} {va : Value} {ba : Option Addr} {ps : List Nat} {ms : List M3} (hlp : ps.length = n) (hn : ms.length = n) (hok : SlOk ba n) (hl : n ≤ 100000) (hbs : SlOk bs n) (hcl : cs.length = n) (hq : 0 ≤ q) (hlow : ∀ i, i < n → 0 < cs.getD i 0 → (ms.getD i M3.z).c < cs.getD i 0) (hz : ∀ i, i < n → 1 ≤ q * (ms.getD i M3.z).w ∧ q * (ms.getD i M3.z).w ≤ 104857600 ∧ 0 ≤ (ms.getD i M3.z).c ∧ (ms.getD i M3.z).c ≤ 106000000) (hcb : ∀ i, 0 ≤ cs.getD i 0 ∧ cs.getD i 0 ≤ 1048576) (hany : ∃ j, j < n ∧ 0 < cs.getD j 0) :
    Ok Try.prog 26 [(.pointer (some ⟨p, 0, none⟩)), (.slice bs n cp)] ((SlV 3 1 (.slice bs n cp) n (ints .i64 cs)) :: (Blk p [(.int .i64 q), (.slice ba n ca), va] 62) :: (SlV 63 1 (.slice ba n ca) n (recs ptrF ps)) :: (Join (mems ps ms)) :: R)
      (fun v M => ∃ r : Nat, (∀ i, i < n → 0 < cs.getD i 0 → (ms.getD i M3.z).c + (r : Int) * (q * (ms.getD i M3.z).w) < cs.getD i 0) ∧ (∃ j, j < n ∧ 0 < cs.getD j 0 ∧ cs.getD j 0 ≤ (ms.getD j M3.z).c + (r : Int) * (q * (ms.getD j M3.z).w) + q * (ms.getD j M3.z).w) ∧ v = .tuple #[] ∧ M = SlV 3 1 (.slice bs n cp) n (ints .i64 cs) :: Blk p [.int .i64 q, .slice ba n ca, va] 62 :: SlV 63 1 (.slice ba n ca) n (recs ptrF ps) :: Join (mems ps (bumpF q cs (fun _ => (r : Int)) ms)) :: R) := by
  refine ok_of (N := 70) Try.func26 rfl rfl rfl (fun W => ?_)
  refine c_seq (fun K1 hK1 => ?_)
  refine c_region ?_
  refine tp rfl (lv_assign rfl) ?_
  refine t_done ?_
  refine q_then_n (hK1 _ _ ?_)
  refine c_seq (fun K2 hK2 => ?_)
  refine c_seq (fun K3 hK3 => ?_)
  refine c_region ?_
  refine tp rfl (lv_move rfl) ?_
  refine tp rfl (lv_nilCheck rfl) ?_
  refine tp rfl (lv_fieldAddr (o' := 1) Try.underlying62 rfl Try.sizeOf60 rfl rfl) ?_
  refine tp rfl (lv_load Try.isAgg60 rfl (gives_blk (.tail _ (.head _)) rfl)) ?_
  refine tp rfl (lv_len Try.underlying60 rfl rfl) ?_
  refine tp rfl (lv_move rfl) ?_
  refine t_done ?_
  refine q_then_n (hK3 _ _ ?_)
  refine c_block ?_
  refine c_loop (γ := (Nat) × (Nat)) (fun (i, r) => i ≤ n ∧ SkInv q cs ms i r) (fun (i, r) => [(0, (.pointer (some ⟨p, 0, none⟩))), (1, (.slice bs n cp)), (4, (.int .i64 ((r : Nat) : Int))), (12, (.slice ba n ca)), (13, (.int .i64 ((n : Nat) : Int))), (14, (.int .i64 ((i : Nat) : Int)))]) (fun (i, r) => (SlV 3 1 (.slice bs n cp) n (ints .i64 cs)) :: (Blk p [(.int .i64 q), (.slice ba n ca), va] 62) :: (SlV 63 1 (.slice ba n ca) n (recs ptrF ps)) :: (Join (mems ps ms)) :: R) (fun (i, r) => n - i) (0, 1048576) ⟨by omega, SkInv.zero _ _ _⟩ ⟨rfl, rfl, rfl, rfl, rfl, rfl, trivial⟩ (fun _ h => h) ?_
  rintro ⟨i, r⟩ K4 hF hK4
  try dsimp only at hF hK4 ⊢
  obtain ⟨hi, hs⟩ := hF
  have hr2 := hs.r2
  refine c_seq (fun K5 hK5 => ?_)
  refine c_region ?_
  by_cases h1 : ((i : Nat) : Int) < ((n : Nat) : Int)
  · -- yes
    refine tp rfl (lv_lss rfl rfl (decide_eq_true h1)) ?_
    refine t_done ?_
    refine q_then_n (hK5 _ _ ?_)
    refine c_seq (fun K6 hK6 => ?_)
    refine c_true rfl ?_
    refine c_skip ?_
    refine q_then_n (hK6 _ _ ?_)
    refine c_seq (fun K7 hK7 => ?_)
    refine c_block ?_
    refine c_seq (fun K8 hK8 => ?_)
    refine c_region ?_
    refine tp rfl (lv_move rfl) ?_
    refine tp rfl (lv_indexAddr (k' := i) Try.underlying60 Try.sizeOf63 rfl rfl hok (by omega) (by omega) (by omega)) ?_
    refine tp rfl (lv_load Try.isAgg63 rfl (gives_sl (.tail _ (.tail _ (.head _))) (ptrs_get (by first | omega | (simp; omega))))) ?_
    refine tp rfl (lv_assign rfl) ?_
    refine tp rfl (lv_assign rfl) ?_
    refine t_done ?_
    refine q_then_n (hK8 _ _ ?_)
    refine c_seq (fun K9 hK9 => ?_)
    refine c_region ?_
    refine tp rfl (lv_move rfl) ?_
    refine tp rfl (lv_move rfl) ?_
    refine tp rfl (lv_indexAddr (k' := i) Try.underlying22 Try.sizeOf3 rfl rfl hbs (by omega) (by omega) (by omega)) ?_
    refine tp rfl (lv_load Try.isAgg3 rfl (gives_sl (.head _) (ints_get (by first | omega | (simp; omega))))) ?_
    by_cases h2 : ((cs).getD i 0) > 0
    · -- yes
      refine tp rfl (lv_gtr rfl rfl (decide_eq_true h2)) ?_
      refine t_done ?_
      refine q_then_n (hK9 _ _ ?_)
      refine c_true rfl ?_
      have hzi := hz i (by omega)
      have hli := hlow i (by omega) (by omega)
      have hcbi := hcb i
      have hxq : 0 ≤ (cs.getD i 0 - (ms.getD i M3.z).c - 1) / (q * (ms.getD i M3.z).w) := Int.ediv_nonneg (by omega) (by omega)
      refine t_f3 ?_
      refine t_takeM (i := i) (hlp.trans hn.symm) (by omega) ?_
      refine c_draw (γ := Unit) (n := 17) Try.mixed rfl rfl (fun _ S => True) (fun _ => [(0, 24, (.int .i64 ((r : Nat) : Int))), (1, 25, (.slice bs n cp)), (2, 26, (.int .i64 ((i : Nat) : Int))), (3, 27, (.pointer (some (ad bs i)))), (4, 28, (.int .i64 ((cs).getD i 0))), (5, 29, (.pointer (some ⟨(ps.getD i 0), 0, none⟩))), (6, 30, (.pointer (some ⟨(ps.getD i 0), 0, none⟩))), (7, 31, (.pointer (some ⟨(ps.getD i 0), 2, none⟩))), (8, 32, (.int .i64 ((ms.getD i M3.z).c))), (9, 33, (.int .i64 (((cs).getD i 0) - ((ms.getD i M3.z).c)))), (10, 34, (.int .i64 ((((cs).getD i 0) - ((ms.getD i M3.z).c)) - 1))), (11, 35, (.pointer (some ⟨p, 0, none⟩))), (12, 36, (.pointer (some ⟨(ps.getD i 0), 0, none⟩))), (13, 37, (.int .i64 (q * ((ms.getD i M3.z).w)))), (14, 38, (.int .i64 (((((cs).getD i 0) - ((ms.getD i M3.z).c)) - 1) / (q * ((ms.getD i M3.z).w))))), (15, 39, (.int .i64 ((min r ((cs.getD i 0 - (ms.getD i M3.z).c - 1) / (q * (ms.getD i M3.z).w)).toNat : Nat) : Int))), (16, 4, (.int .i64 ((min r ((cs.getD i 0 - (ms.getD i M3.z).c - 1) / (q * (ms.getD i M3.z).w)).toNat : Nat) : Int)))]) (fun _ S => (Blk (ps.getD i 0) [(.int .i64 ((ms.getD i M3.z).id)), (.int .i64 ((ms.getD i M3.z).w)), (.int .i64 ((ms.getD i M3.z).c))] 65) :: (Join (mems (ps.eraseIdx i) (ms.eraseIdx i))) :: (SlV 3 1 (.slice bs n cp) n (ints .i64 cs)) :: (Blk p [(.int .i64 q), (.slice ba n ca), va] 62) :: (SlV 63 1 (.slice ba n ca) n (recs ptrF ps)) :: R) (()) trivial (fun _ h => h) (fun _ _ h => h) ?_ ?_
      · -- steps
        refine ⟨?_, ?_, ?_, ?_, ?_, ?_, ?_, ?_, ?_, ?_, ?_, ?_, ?_, ?_, ?_, ?_, ?_, trivial⟩
        · -- 0
         rintro _ S hF hS D hp K hK
         try dsimp only at hF ⊢
         refine d_need (small := [(4, (.int .i64 ((r : Nat) : Int)))]) ⟨look_b1 16 (nf hS D (k := 16) (i := 0) rfl) rfl rfl, trivial⟩ ?_
         refine tp rfl (lv_move rfl) ?_
         exact d_closes ⟨look_b1 16 (nf hS D (k := 16) (i := 0) rfl) rfl rfl, trivial⟩ 0 rfl rfl rfl hS (AgreeR.refl _) (t_sat (fun _ h => h) (hK () trivial))
        · -- 1
         rintro _ S hF hS D hp K hK
         try dsimp only at hF ⊢
         refine d_need (small := [(1, (.slice bs n cp))]) ⟨look_b rfl rfl, trivial⟩ ?_
         refine tp rfl (lv_move rfl) ?_
         exact d_closes ⟨look_b rfl rfl, trivial⟩ 1 rfl rfl rfl hS (AgreeR.refl _) (t_sat (fun _ h => h) (hK () trivial))
        · -- 2
         rintro _ S hF hS D hp K hK
         try dsimp only at hF ⊢
         refine d_need (small := [(5, (.int .i64 ((i : Nat) : Int)))]) ⟨look_b rfl rfl, trivial⟩ ?_
         refine tp rfl (lv_move rfl) ?_
         exact d_closes ⟨look_b rfl rfl, trivial⟩ 2 rfl rfl rfl hS (AgreeR.refl _) (t_sat (fun _ h => h) (hK () trivial))
        · -- 3
         rintro _ S hF hS D hp K hK
         try dsimp only at hF ⊢
         have s1 := hp 1 rfl
         have s2 := hp 2 rfl
         refine d_need (small := [(25, (.slice bs n cp)), (26, (.int .i64 ((i : Nat) : Int)))]) ⟨look_row rfl 1 rfl s1, look_row rfl 2 rfl s2, trivial⟩ ?_
         refine tp rfl (lv_indexAddr (k' := i) Try.underlying22 Try.sizeOf3 rfl rfl hbs (by omega) (by omega) (by omega)) ?_
         exact d_closes ⟨look_row rfl 1 rfl s1, look_row rfl 2 rfl s2, trivial⟩ 3 rfl rfl rfl hS (AgreeR.refl _) (t_sat (fun _ h => h) (hK () trivial))
        · -- 4
         rintro _ S hF hS D hp K hK
         try dsimp only at hF ⊢
         have s3 := hp 3 rfl
         refine d_need (small := [(27, (.pointer (some (ad bs i))))]) ⟨look_row rfl 3 rfl s3, trivial⟩ ?_
         refine tp rfl (lv_load Try.isAgg3 rfl (gives_sl (.tail _ (.tail _ (.head _))) (ints_get (by first | omega | (simp; omega))))) ?_
         exact d_closes ⟨look_row rfl 3 rfl s3, trivial⟩ 4 rfl rfl rfl hS (AgreeR.refl _) (t_sat (fun _ h => h) (hK () trivial))
        · -- 5
         rintro _ S hF hS D hp K hK
         try dsimp only at hF ⊢
         refine d_need (small := [(6, (.pointer (some ⟨(ps.getD i 0), 0, none⟩)))]) ⟨look_b rfl rfl, trivial⟩ ?_
         refine tp rfl (lv_move rfl) ?_
         exact d_closes ⟨look_b rfl rfl, trivial⟩ 5 rfl rfl rfl hS (AgreeR.refl _) (t_sat (fun _ h => h) (hK () trivial))
        · -- 6
         rintro _ S hF hS D hp K hK
         try dsimp only at hF ⊢
         have s5 := hp 5 rfl
         refine d_need (small := [(29, (.pointer (some ⟨(ps.getD i 0), 0, none⟩)))]) ⟨look_row rfl 5 rfl s5, trivial⟩ ?_
         refine tp rfl (lv_nilCheck rfl) ?_
         exact d_closes ⟨look_row rfl 5 rfl s5, trivial⟩ 6 rfl rfl rfl hS (AgreeR.refl _) (t_sat (fun _ h => h) (hK () trivial))
        · -- 7
         rintro _ S hF hS D hp K hK
         try dsimp only at hF ⊢
         have s6 := hp 6 rfl
         refine d_need (small := [(30, (.pointer (some ⟨(ps.getD i 0), 0, none⟩)))]) ⟨look_row rfl 6 rfl s6, trivial⟩ ?_
         refine tp rfl (lv_fieldAddr (o' := 2) Try.underlying65 rfl Try.sizeOf3 rfl rfl) ?_
         exact d_closes ⟨look_row rfl 6 rfl s6, trivial⟩ 7 rfl rfl rfl hS (AgreeR.refl _) (t_sat (fun _ h => h) (hK () trivial))
        · -- 8
         rintro _ S hF hS D hp K hK
         try dsimp only at hF ⊢
         have s7 := hp 7 rfl
         refine d_need (small := [(31, (.pointer (some ⟨(ps.getD i 0), 2, none⟩)))]) ⟨look_row rfl 7 rfl s7, trivial⟩ ?_
         refine tp rfl (lv_load Try.isAgg3 rfl (gives_blk (.head _) rfl)) ?_
         exact d_closes ⟨look_row rfl 7 rfl s7, trivial⟩ 8 rfl rfl rfl hS (AgreeR.refl _) (t_sat (fun _ h => h) (hK () trivial))
        · -- 9
         rintro _ S hF hS D hp K hK
         try dsimp only at hF ⊢
         have s4 := hp 4 rfl
         have s8 := hp 8 rfl
         refine d_need (small := [(28, (.int .i64 ((cs).getD i 0))), (32, (.int .i64 ((ms.getD i M3.z).c)))]) ⟨look_row rfl 4 rfl s4, look_row rfl 8 rfl s8, trivial⟩ ?_
         refine tp rfl (lv_sub (c := ((cs).getD i 0) - ((ms.getD i M3.z).c)) rfl rfl (wr_i64 (by omega) (by omega))) ?_
         exact d_closes ⟨look_row rfl 4 rfl s4, look_row rfl 8 rfl s8, trivial⟩ 9 rfl rfl rfl hS (AgreeR.refl _) (t_sat (fun _ h => h) (hK () trivial))
        · -- 10
         rintro _ S hF hS D hp K hK
         try dsimp only at hF ⊢
         have s9 := hp 9 rfl
         refine d_need (small := [(33, (.int .i64 (((cs).getD i 0) - ((ms.getD i M3.z).c))))]) ⟨look_row rfl 9 rfl s9, trivial⟩ ?_
         refine tp rfl (lv_sub (c := (((cs).getD i 0) - ((ms.getD i M3.z).c)) - 1) rfl rfl (wr_i64 (by omega) (by omega))) ?_
         exact d_closes ⟨look_row rfl 9 rfl s9, trivial⟩ 10 rfl rfl rfl hS (AgreeR.refl _) (t_sat (fun _ h => h) (hK () trivial))
        · -- 11
         rintro _ S hF hS D hp K hK
         try dsimp only at hF ⊢
         refine d_need (small := [(0, (.pointer (some ⟨p, 0, none⟩)))]) ⟨look_b rfl rfl, trivial⟩ ?_
         refine tp rfl (lv_move rfl) ?_
         exact d_closes ⟨look_b rfl rfl, trivial⟩ 11 rfl rfl rfl hS (AgreeR.refl _) (t_sat (fun _ h => h) (hK () trivial))
        · -- 12
         rintro _ S hF hS D hp K hK
         try dsimp only at hF ⊢
         refine d_need (small := [(6, (.pointer (some ⟨(ps.getD i 0), 0, none⟩)))]) ⟨look_b rfl rfl, trivial⟩ ?_
         refine tp rfl (lv_move rfl) ?_
         exact d_closes ⟨look_b rfl rfl, trivial⟩ 12 rfl rfl rfl hS (AgreeR.refl _) (t_sat (fun _ h => h) (hK () trivial))
        · -- 13
         rintro _ S hF hS D hp K hK
         try dsimp only at hF ⊢
         have s11 := hp 11 rfl
         have s12 := hp 12 rfl
         refine d_need (small := [(35, (.pointer (some ⟨p, 0, none⟩))), (36, (.pointer (some ⟨(ps.getD i 0), 0, none⟩)))]) ⟨look_row rfl 11 rfl s11, look_row rfl 12 rfl s12, trivial⟩ ?_
         refine t_f3 ?_
         refine tc rfl (en_fn Try.call27 rfl) (gain_ok (by omega)) ?_
         rintro _ _ ⟨rfl, rfl⟩
         refine t_f3 ?_
         refine t_f3 ?_
         refine t_f3 ?_
         exact d_closes ⟨look_row rfl 11 rfl s11, look_row rfl 12 rfl s12, trivial⟩ 13 rfl rfl rfl hS (AgreeR.refl _) (t_sat (fun _ h => h) (hK () trivial))
        · -- 14
         rintro _ S hF hS D hp K hK
         try dsimp only at hF ⊢
         have s10 := hp 10 rfl
         have s13 := hp 13 rfl
         refine d_need (small := [(34, (.int .i64 ((((cs).getD i 0) - ((ms.getD i M3.z).c)) - 1))), (37, (.int .i64 (q * ((ms.getD i M3.z).w))))]) ⟨look_row rfl 10 rfl s10, look_row rfl 13 rfl s13, trivial⟩ ?_
         refine tp rfl (lv_quo (c := ((((cs).getD i 0) - ((ms.getD i M3.z).c)) - 1) / (q * ((ms.getD i M3.z).w))) rfl rfl (by omega) (wr_quo (by omega) (by omega) (by omega))) ?_
         exact d_closes ⟨look_row rfl 10 rfl s10, look_row rfl 13 rfl s13, trivial⟩ 14 rfl rfl rfl hS (AgreeR.refl _) (t_sat (fun _ h => h) (hK () trivial))
        · -- 15
         rintro _ S hF hS D hp K hK
         try dsimp only at hF ⊢
         have s0 := hp 0 rfl
         have s14 := hp 14 rfl
         refine d_need (small := [(24, (.int .i64 ((r : Nat) : Int))), (38, (.int .i64 (((((cs).getD i 0) - ((ms.getD i M3.z).c)) - 1) / (q * ((ms.getD i M3.z).w)))))]) ⟨look_row rfl 0 rfl s0, look_row rfl 14 rfl s14, trivial⟩ ?_
         refine tp rfl (lv_min (c := ((min r ((cs.getD i 0 - (ms.getD i M3.z).c - 1) / (q * (ms.getD i M3.z).w)).toNat : Nat) : Int)) rfl rfl (by omega)) ?_
         exact d_closes ⟨look_row rfl 0 rfl s0, look_row rfl 14 rfl s14, trivial⟩ 15 rfl rfl rfl hS (AgreeR.refl _) (t_sat (fun _ h => h) (hK () trivial))
        · -- 16
         rintro _ S hF hS D hp K hK
         try dsimp only at hF ⊢
         have s15 := hp 15 rfl
         refine d_need (small := [(39, (.int .i64 ((min r ((cs.getD i 0 - (ms.getD i M3.z).c - 1) / (q * (ms.getD i M3.z).w)).toNat : Nat) : Int)))]) ⟨look_row rfl 15 rfl s15, trivial⟩ ?_
         refine tp rfl (lv_assign rfl) ?_
         exact d_closes ⟨look_row rfl 15 rfl s15, trivial⟩ 16 rfl rfl rfl hS (AgreeR.refl _) (t_sat (fun _ h => h) (hK () trivial))
      · -- behind
        rintro _ hF
        try dsimp only at hF ⊢
        refine t_weak (E' := [(0, (.pointer (some ⟨p, 0, none⟩))), (1, (.slice bs n cp)), (4, (.int .i64 ((min r ((cs.getD i 0 - (ms.getD i M3.z).c - 1) / (q * (ms.getD i M3.z).w)).toNat : Nat) : Int))), (5, (.int .i64 ((i : Nat) : Int))), (6, (.pointer (some ⟨(ps.getD i 0), 0, none⟩))), (12, (.slice ba n ca)), (13, (.int .i64 ((n : Nat) : Int))), (14, (.int .i64 ((i : Nat) : Int))), (15, (.bool true)), (23, (.bool true))]) ⟨rfl, rfl, rfl, rfl, rfl, rfl, rfl, rfl, rfl, rfl, trivial⟩ ?_
        refine q_in_n ?_
        refine q_then_n (hK7 _ _ ?_)
        refine c_region ?_
        refine t_f1 ?_
        refine t_f1 ?_
        refine t_putM0 (hlp.trans hn.symm) (by omega) ?_
        refine tp rfl (lv_add (c := ((i + 1 : Nat) : Int)) rfl rfl (wr_i64_succ (by omega))) ?_
        refine tp rfl (lv_move rfl) ?_
        refine t_done ?_
        refine q_then_n ?_
        refine t_f3 ?_
        refine t_f3 ?_
        refine t_f3 ?_
        exact t_weak (by exact ⟨rfl, rfl, rfl, rfl, rfl, rfl, trivial⟩) ((hK4 (i + 1, min r ((cs.getD i 0 - (ms.getD i M3.z).c - 1) / (q * (ms.getD i M3.z).w)).toNat) ⟨by omega, hs.yes (by omega) (hlow i (by omega) (by omega)) hzi.2.2.1 (hcb i).2 (fun j hj => (hz j (by omega)).1)⟩ (by dsimp only; omega)))
    · -- no
      refine tp rfl (lv_gtr rfl rfl (decide_eq_false h2)) ?_
      refine t_done ?_
      refine q_then_n (hK9 _ _ ?_)
      refine c_false rfl ?_
      refine c_skip ?_
      refine q_in_n ?_
      refine q_then_n (hK7 _ _ ?_)
      refine c_region ?_
      refine tp rfl (lv_add (c := ((i + 1 : Nat) : Int)) rfl rfl (wr_i64_succ (by omega))) ?_
      refine tp rfl (lv_move rfl) ?_
      refine t_done ?_
      refine q_then_n ?_
      exact t_weak (by exact ⟨rfl, rfl, rfl, rfl, rfl, rfl, trivial⟩) ((hK4 (i + 1, r) ⟨by omega, hs.no (by omega)⟩ (by dsimp only; omega)))
  · -- no
    refine tp rfl (lv_lss rfl rfl (decide_eq_false h1)) ?_
    refine t_done ?_
    refine q_then_n (hK5 _ _ ?_)
    refine c_seq (fun K6 hK6 => ?_)
    refine c_false rfl ?_
    refine c_exit ?_
    refine q_then_x ?_
    refine q_then_x ?_
    refine q_in_x ?_
    refine q_then_n (hK2 _ _ ?_)
    refine c_seq (fun K7 hK7 => ?_)
    refine c_region ?_
    refine tp rfl (lv_move rfl) ?_
    refine tp rfl (lv_nilCheck rfl) ?_
    refine tp rfl (lv_fieldAddr (o' := 1) Try.underlying62 rfl Try.sizeOf60 rfl rfl) ?_
    refine tp rfl (lv_load Try.isAgg60 rfl (gives_blk (.tail _ (.head _)) rfl)) ?_
    refine tp rfl (lv_len Try.underlying60 rfl rfl) ?_
    refine tp rfl (lv_move rfl) ?_
    refine t_done ?_
    refine q_then_n (hK7 _ _ ?_)
    refine c_block ?_
    have hub := hs.ub
    have hr2 := hs.r2
    have hex := hs.done (n := n) (by omega) hany hi
    refine c_loop (γ := (Nat)) (fun (k : Nat) => k ≤ n) (fun (k : Nat) => [(0, (.pointer (some ⟨p, 0, none⟩))), (1, (.slice bs n cp)), (4, (.int .i64 ((r : Nat) : Int))), (12, (.slice ba n ca)), (13, (.int .i64 ((n : Nat) : Int))), (14, (.int .i64 ((i : Nat) : Int))), (15, (.bool false)), (44, (.slice ba n ca)), (45, (.int .i64 ((n : Nat) : Int))), (46, (.int .i64 ((k : Nat) : Int)))]) (fun (k : Nat) => (SlV 3 1 (.slice bs n cp) n (ints .i64 cs)) :: (Blk p [(.int .i64 q), (.slice ba n ca), va] 62) :: (SlV 63 1 (.slice ba n ca) n (recs ptrF ps)) :: (Join (mems ps (bumpI q cs r k ms))) :: R) (fun (k : Nat) => n - k) (0) (by omega) ⟨rfl, rfl, rfl, rfl, rfl, rfl, rfl, rfl, rfl, rfl, trivial⟩ (fun _ h => by rw [bumpI_zero]; exact h) ?_
    rintro k K8 hF hK8
    try dsimp only at hF hK8 ⊢
    have hbl := bumpI_len q cs r k ms
    refine c_seq (fun K9 hK9 => ?_)
    refine c_region ?_
    by_cases h3 : ((k : Nat) : Int) < ((n : Nat) : Int)
    · -- yes
      refine tp rfl (lv_lss rfl rfl (decide_eq_true h3)) ?_
      refine t_done ?_
      refine q_then_n (hK9 _ _ ?_)
      refine c_seq (fun K10 hK10 => ?_)
      refine c_true rfl ?_
      refine c_skip ?_
      refine q_then_n (hK10 _ _ ?_)
      refine c_seq (fun K11 hK11 => ?_)
      refine c_block ?_
      refine c_seq (fun K12 hK12 => ?_)
      refine c_region ?_
      refine tp rfl (lv_move rfl) ?_
      refine tp rfl (lv_indexAddr (k' := k) Try.underlying60 Try.sizeOf63 rfl rfl hok (by omega) (by omega) (by omega)) ?_
      refine tp rfl (lv_load Try.isAgg63 rfl (gives_sl (.tail _ (.tail _ (.head _))) (ptrs_get (by first | omega | (simp; omega))))) ?_
      refine tp rfl (lv_assign rfl) ?_
      refine tp rfl (lv_assign rfl) ?_
      refine t_done ?_
      refine q_then_n (hK12 _ _ ?_)
      refine c_seq (fun K13 hK13 => ?_)
      refine c_region ?_
      refine tp rfl (lv_move rfl) ?_
      refine tp rfl (lv_move rfl) ?_
      refine tp rfl (lv_indexAddr (k' := k) Try.underlying22 Try.sizeOf3 rfl rfl hbs (by omega) (by omega) (by omega)) ?_
      refine tp rfl (lv_load Try.isAgg3 rfl (gives_sl (.head _) (ints_get (by first | omega | (simp; omega))))) ?_
      by_cases h4 : ((cs).getD k 0) > 0
      · -- yes
        refine tp rfl (lv_gtr rfl rfl (decide_eq_true h4)) ?_
        refine t_done ?_
        refine q_then_n (hK13 _ _ ?_)
        refine c_true rfl ?_
        have hzi := hz k (by omega)
        have hui := hub k (by omega) (by omega)
        have hcbi := hcb k
        have hrg : 0 ≤ ((r : Nat) : Int) * (q * (ms.getD k M3.z).w) := Int.mul_nonneg (by omega) (by omega)
        refine t_f3 ?_
        refine t_takeM (i := k) (by rw [hbl]; omega) (by omega) ?_
        rw [show (bumpI q cs r k ms).getD k M3.z = ms.getD k M3.z from bumpI_at (by omega)]
        refine c_draw (γ := Unit) (n := 14) Try.mixed rfl rfl (fun _ S => True) (fun _ => [(0, 56, (.pointer (some ⟨(ps.getD k 0), 0, none⟩))), (1, 57, (.pointer (some ⟨(ps.getD k 0), 0, none⟩))), (2, 58, (.pointer (some ⟨(ps.getD k 0), 2, none⟩))), (3, 59, (.int .i64 ((ms.getD k M3.z).c))), (4, 60, (.int .i64 ((r : Nat) : Int))), (5, 61, (.int .i64 ((r : Nat) : Int))), (6, 62, (.pointer (some ⟨p, 0, none⟩))), (7, 63, (.pointer (some ⟨(ps.getD k 0), 0, none⟩))), (8, 64, (.int .i64 (q * ((ms.getD k M3.z).w)))), (9, 65, (.int .i64 (((r : Nat) : Int) * (q * ((ms.getD k M3.z).w))))), (10, 66, (.int .i64 (((ms.getD k M3.z).c) + (((r : Nat) : Int) * (q * ((ms.getD k M3.z).w)))))), (11, 67, (.pointer (some ⟨(ps.getD k 0), 0, none⟩))), (12, 68, (.pointer (some ⟨(ps.getD k 0), 2, none⟩)))]) (fun _ S => (bif S 13 then (Blk (ps.getD k 0) [(.int .i64 ((ms.getD k M3.z).id)), (.int .i64 ((ms.getD k M3.z).w)), (.int .i64 (((ms.getD k M3.z).c) + (((r : Nat) : Int) * (q * ((ms.getD k M3.z).w)))))] 65) else (Blk (ps.getD k 0) [(.int .i64 ((ms.getD k M3.z).id)), (.int .i64 ((ms.getD k M3.z).w)), (.int .i64 ((ms.getD k M3.z).c))] 65)) :: (Join (mems (ps.eraseIdx k) ((bumpI q cs r k ms).eraseIdx k))) :: (SlV 3 1 (.slice bs n cp) n (ints .i64 cs)) :: (Blk p [(.int .i64 q), (.slice ba n ca), va] 62) :: (SlV 63 1 (.slice ba n ca) n (recs ptrF ps)) :: R) (()) trivial (fun _ h => h) (fun _ _ h => h) ?_ ?_
        · -- steps
         refine ⟨?_, ?_, ?_, ?_, ?_, ?_, ?_, ?_, ?_, ?_, ?_, ?_, ?_, ?_, trivial⟩
         · -- 0
          rintro _ S hF hS D hp K hK
          try dsimp only at hF ⊢
          refine d_need (small := [(8, (.pointer (some ⟨(ps.getD k 0), 0, none⟩)))]) ⟨look_b rfl rfl, trivial⟩ ?_
          refine tp rfl (lv_move rfl) ?_
          exact d_closes ⟨look_b rfl rfl, trivial⟩ 0 rfl rfl rfl hS (AgreeR.refl _) (t_sat (fun _ h => h) (hK () trivial))
         · -- 1
          rintro _ S hF hS D hp K hK
          try dsimp only at hF ⊢
          have s0 := hp 0 rfl
          refine d_need (small := [(56, (.pointer (some ⟨(ps.getD k 0), 0, none⟩)))]) ⟨look_row rfl 0 rfl s0, trivial⟩ ?_
          refine tp rfl (lv_nilCheck rfl) ?_
          exact d_closes ⟨look_row rfl 0 rfl s0, trivial⟩ 1 rfl rfl rfl hS (AgreeR.refl _) (t_sat (fun _ h => h) (hK () trivial))
         · -- 2
          rintro _ S hF hS D hp K hK
          try dsimp only at hF ⊢
          have s1 := hp 1 rfl
          refine d_need (small := [(57, (.pointer (some ⟨(ps.getD k 0), 0, none⟩)))]) ⟨look_row rfl 1 rfl s1, trivial⟩ ?_
          refine tp rfl (lv_fieldAddr (o' := 2) Try.underlying65 rfl Try.sizeOf3 rfl rfl) ?_
          exact d_closes ⟨look_row rfl 1 rfl s1, trivial⟩ 2 rfl rfl rfl hS (AgreeR.refl _) (t_sat (fun _ h => h) (hK () trivial))
         · -- 3
          rintro _ S hF hS D hp K hK
          try dsimp only at hF ⊢
          have s2 := hp 2 rfl
          refine d_need (small := [(58, (.pointer (some ⟨(ps.getD k 0), 2, none⟩)))]) ⟨look_row rfl 2 rfl s2, trivial⟩ ?_
          refine tp rfl (lv_load Try.isAgg3 rfl (gives_blk (mem_cF (nf hS D (k := 13) (i := 3) rfl) (.head _)) rfl)) ?_
          exact d_closes ⟨look_row rfl 2 rfl s2, trivial⟩ 3 rfl rfl rfl hS (AgreeR.refl _) (t_sat (fun _ h => h) (hK () trivial))
         · -- 4
          rintro _ S hF hS D hp K hK
          try dsimp only at hF ⊢
          refine d_need (small := [(4, (.int .i64 ((r : Nat) : Int)))]) ⟨look_b rfl rfl, trivial⟩ ?_
          refine tp rfl (lv_move rfl) ?_
          exact d_closes ⟨look_b rfl rfl, trivial⟩ 4 rfl rfl rfl hS (AgreeR.refl _) (t_sat (fun _ h => h) (hK () trivial))
         · -- 5
          rintro _ S hF hS D hp K hK
          try dsimp only at hF ⊢
          have s4 := hp 4 rfl
          refine d_need (small := [(60, (.int .i64 ((r : Nat) : Int)))]) ⟨look_row rfl 4 rfl s4, trivial⟩ ?_
          refine tp rfl (lv_max (c := ((r : Nat) : Int)) rfl rfl (by omega)) ?_
          exact d_closes ⟨look_row rfl 4 rfl s4, trivial⟩ 5 rfl rfl rfl hS (AgreeR.refl _) (t_sat (fun _ h => h) (hK () trivial))
         · -- 6
          rintro _ S hF hS D hp K hK
          try dsimp only at hF ⊢
          refine d_need (small := [(0, (.pointer (some ⟨p, 0, none⟩)))]) ⟨look_b rfl rfl, trivial⟩ ?_
          refine tp rfl (lv_move rfl) ?_
          exact d_closes ⟨look_b rfl rfl, trivial⟩ 6 rfl rfl rfl hS (AgreeR.refl _) (t_sat (fun _ h => h) (hK () trivial))
         · -- 7
          rintro _ S hF hS D hp K hK
          try dsimp only at hF ⊢
          refine d_need (small := [(8, (.pointer (some ⟨(ps.getD k 0), 0, none⟩)))]) ⟨look_b rfl rfl, trivial⟩ ?_
          refine tp rfl (lv_move rfl) ?_
          exact d_closes ⟨look_b rfl rfl, trivial⟩ 7 rfl rfl rfl hS (AgreeR.refl _) (t_sat (fun _ h => h) (hK () trivial))
         · -- 8
          rintro _ S hF hS D hp K hK
          try dsimp only at hF ⊢
          have s6 := hp 6 rfl
          have s7 := hp 7 rfl
          refine d_need (small := [(62, (.pointer (some ⟨p, 0, none⟩))), (63, (.pointer (some ⟨(ps.getD k 0), 0, none⟩)))]) ⟨look_row rfl 6 rfl s6, look_row rfl 7 rfl s7, trivial⟩ ?_
          refine t_cF (nf hS D (k := 13) (i := 8) rfl) ?_
          refine t_f3 ?_
          refine tc rfl (en_fn Try.call27 rfl) (gain_ok (by omega)) ?_
          rintro _ _ ⟨rfl, rfl⟩
          refine t_f1 ?_
          refine t_wF (A := (Blk (ps.getD k 0) [(.int .i64 ((ms.getD k M3.z).id)), (.int .i64 ((ms.getD k M3.z).w)), (.int .i64 (((ms.getD k M3.z).c) + (((r : Nat) : Int) * (q * ((ms.getD k M3.z).w)))))] 65)) (nf hS D (k := 13) (i := 8) rfl) ?_
          refine t_f1 ?_
          refine t_f3 ?_
          refine t_f3 ?_
          refine t_f3 ?_
          exact d_closes ⟨look_row rfl 6 rfl s6, look_row rfl 7 rfl s7, trivial⟩ 8 rfl rfl rfl hS (AgreeR.refl _) (t_sat (fun _ h => h) (hK () trivial))
         · -- 9
          rintro _ S hF hS D hp K hK
          try dsimp only at hF ⊢
          have s5 := hp 5 rfl
          have s8 := hp 8 rfl
          refine d_need (small := [(61, (.int .i64 ((r : Nat) : Int))), (64, (.int .i64 (q * ((ms.getD k M3.z).w))))]) ⟨look_row rfl 5 rfl s5, look_row rfl 8 rfl s8, trivial⟩ ?_
          refine tp rfl (lv_mul (c := ((r : Nat) : Int) * (q * ((ms.getD k M3.z).w))) rfl rfl (wr_i64 (by omega) (by omega))) ?_
          exact d_closes ⟨look_row rfl 5 rfl s5, look_row rfl 8 rfl s8, trivial⟩ 9 rfl rfl rfl hS (AgreeR.refl _) (t_sat (fun _ h => h) (hK () trivial))
         · -- 10
          rintro _ S hF hS D hp K hK
          try dsimp only at hF ⊢
          have s3 := hp 3 rfl
          have s9 := hp 9 rfl
          refine d_need (small := [(59, (.int .i64 ((ms.getD k M3.z).c))), (65, (.int .i64 (((r : Nat) : Int) * (q * ((ms.getD k M3.z).w)))))]) ⟨look_row rfl 3 rfl s3, look_row rfl 9 rfl s9, trivial⟩ ?_
          refine tp rfl (lv_add (c := ((ms.getD k M3.z).c) + (((r : Nat) : Int) * (q * ((ms.getD k M3.z).w)))) rfl rfl (wr_i64 (by omega) (by omega))) ?_
          exact d_closes ⟨look_row rfl 3 rfl s3, look_row rfl 9 rfl s9, trivial⟩ 10 rfl rfl rfl hS (AgreeR.refl _) (t_sat (fun _ h => h) (hK () trivial))
         · -- 11
          rintro _ S hF hS D hp K hK
          try dsimp only at hF ⊢
          have s0 := hp 0 rfl
          refine d_need (small := [(56, (.pointer (some ⟨(ps.getD k 0), 0, none⟩)))]) ⟨look_row rfl 0 rfl s0, trivial⟩ ?_
          refine tp rfl (lv_nilCheck rfl) ?_
          exact d_closes ⟨look_row rfl 0 rfl s0, trivial⟩ 11 rfl rfl rfl hS (AgreeR.refl _) (t_sat (fun _ h => h) (hK () trivial))
         · -- 12
          rintro _ S hF hS D hp K hK
          try dsimp only at hF ⊢
          have s11 := hp 11 rfl
          refine d_need (small := [(67, (.pointer (some ⟨(ps.getD k 0), 0, none⟩)))]) ⟨look_row rfl 11 rfl s11, trivial⟩ ?_
          refine tp rfl (lv_fieldAddr (o' := 2) Try.underlying65 rfl Try.sizeOf3 rfl rfl) ?_
          exact d_closes ⟨look_row rfl 11 rfl s11, trivial⟩ 12 rfl rfl rfl hS (AgreeR.refl _) (t_sat (fun _ h => h) (hK () trivial))
         · -- 13
          rintro _ S hF hS D hp K hK
          try dsimp only at hF ⊢
          have s10 := hp 10 rfl
          have s12 := hp 12 rfl
          refine d_need (small := [(66, (.int .i64 (((ms.getD k M3.z).c) + (((r : Nat) : Int) * (q * ((ms.getD k M3.z).w)))))), (68, (.pointer (some ⟨(ps.getD k 0), 2, none⟩)))]) ⟨look_row rfl 10 rfl s10, look_row rfl 12 rfl s12, trivial⟩ ?_
          refine t_cF hS ?_
          refine ts (sv_blk Try.sizeOf3 rfl rfl rfl (Nat.le_of_ble_eq_true rfl) rfl) ?_
          exact d_closes0 ⟨look_row rfl 10 rfl s10, look_row rfl 12 rfl s12, trivial⟩ rfl (t_sat (fun _ h => h) (hK () trivial))
        · -- behind
         rintro _ hF
         try dsimp only at hF ⊢
         refine t_weak (E' := [(0, (.pointer (some ⟨p, 0, none⟩))), (1, (.slice bs n cp)), (4, (.int .i64 ((r : Nat) : Int))), (7, (.int .i64 ((k : Nat) : Int))), (8, (.pointer (some ⟨(ps.getD k 0), 0, none⟩))), (12, (.slice ba n ca)), (13, (.int .i64 ((n : Nat) : Int))), (14, (.int .i64 ((i : Nat) : Int))), (15, (.bool false)), (44, (.slice ba n ca)), (45, (.int .i64 ((n : Nat) : Int))), (46, (.int .i64 ((k : Nat) : Int))), (47, (.bool true)), (55, (.bool true))]) ⟨rfl, rfl, rfl, rfl, rfl, rfl, rfl, rfl, rfl, rfl, rfl, rfl, rfl, rfl, trivial⟩ ?_
         refine q_in_n ?_
         refine q_then_n (hK11 _ _ ?_)
         refine c_region ?_
         refine t_f1 ?_
         refine t_f1 ?_
         refine t_putMx (c := ((ms.getD k M3.z).c) + (((r : Nat) : Int) * (q * ((ms.getD k M3.z).w)))) (bumpI_at (by omega)) (by rw [hbl]; omega) (by omega) ?_
         rw [show setC (bumpI q cs r k ms) k (((ms.getD k M3.z).c) + (((r : Nat) : Int) * (q * ((ms.getD k M3.z).w)))) = bumpI q cs r (k + 1) ms from bumpI_yes (by omega) (by omega)]
         refine tp rfl (lv_add (c := ((k + 1 : Nat) : Int)) rfl rfl (wr_i64_succ (by omega))) ?_
         refine tp rfl (lv_move rfl) ?_
         refine t_done ?_
         refine q_then_n ?_
         refine t_f3 ?_
         refine t_f3 ?_
         refine t_f3 ?_
         exact t_weak (by exact ⟨rfl, rfl, rfl, rfl, rfl, rfl, rfl, rfl, rfl, rfl, trivial⟩) ((hK8 (k + 1) (by omega) (by omega)))
      · -- no
        refine tp rfl (lv_gtr rfl rfl (decide_eq_false h4)) ?_
        refine t_done ?_
        refine q_then_n (hK13 _ _ ?_)
        refine c_false rfl ?_
        refine c_skip ?_
        refine q_in_n ?_
        refine q_then_n (hK11 _ _ ?_)
        refine c_region ?_
        rw [show bumpI q cs r k ms = bumpI q cs r (k + 1) ms from bumpI_no (by omega)]
        refine tp rfl (lv_add (c := ((k + 1 : Nat) : Int)) rfl rfl (wr_i64_succ (by omega))) ?_
        refine tp rfl (lv_move rfl) ?_
        refine t_done ?_
        refine q_then_n ?_
        exact t_weak (by exact ⟨rfl, rfl, rfl, rfl, rfl, rfl, rfl, rfl, rfl, rfl, trivial⟩) ((hK8 (k + 1) (by omega) (by omega)))
    · -- no
      refine tp rfl (lv_lss rfl rfl (decide_eq_false h3)) ?_
      refine t_done ?_
      refine q_then_n (hK9 _ _ ?_)
      refine c_seq (fun K10 hK10 => ?_)
      refine c_false rfl ?_
      refine c_exit ?_
      refine q_then_x ?_
      refine q_then_x ?_
      refine q_in_x ?_
      rw [show bumpI q cs r k ms = bumpF q cs (fun _ => ((r : Nat) : Int)) ms from bumpI_all (by omega)]
      refine q_ret0 rfl ?_
      exact ⟨r, fun i h1 h2 => hub i (by omega) h2, hex, rfl, rfl⟩
end Go.Proofs.Ytkhceihokoheaaa
