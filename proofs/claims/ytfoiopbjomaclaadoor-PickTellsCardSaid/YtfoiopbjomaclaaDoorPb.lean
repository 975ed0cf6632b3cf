/- Contracts of pick: what fits. -/
import Derived.Test.YtfoiopbjomaclaaDoorPa
set_option maxRecDepth 100000
set_option linter.unusedVariables false
set_option linter.unusedSimpArgs false
namespace Go.Proofs.YtfoiopbjomaclaaDoor
open Go Go.Proofs Sp
theorem deleteFunc_ok {R : List HP} {p : Int → Bool} {f : Nat} {caps : List Value} {bx : Option Addr} {cx : Nat} (xs : List Int) (hf : (∀ args w, (callFunc f args).run Tryd.prog w = .ok (.enter f args) w) ∧ ∀ x ∈ xs, ∀ ys : List Int, ys.length = xs.length → Ok Tryd.prog f ([.int .i64 x] ++ caps) (SlV 3 1 (.slice bx xs.length cx) xs.length (ints .i64 ys) :: R) (fun v M => v = .bool (p x) ∧ M = SlV 3 1 (.slice bx xs.length cx) xs.length (ints .i64 ys) :: R)) (lx : xs.length ≤ 1000000) :
    Ok Tryd.prog 28 [(.slice bx xs.length cx), (.func (.func f) #[] caps.toArray)] ((SlV 3 1 (.slice bx xs.length cx) xs.length (ints .i64 xs)) :: R)
      (fun v M => v = .slice bx (xs.filter (fun x => !p x)).length cx ∧ M = SlV 3 1 (.slice bx (xs.filter (fun x => !p x)).length cx) (xs.filter (fun x => !p x)).length (ints .i64 (xs.filter (fun x => !p x))) :: R) := by
  refine ok_of (N := 42) Tryd.func28 rfl rfl rfl (fun W => ?_)
  refine t_learn (fun _ h => slv_facts h) (fun hbx => ?_)
  obtain ⟨okx, hcx, hmx⟩ := hbx
  unfold maxLen at hmx
  obtain ⟨hcall, hf⟩ := hf
  refine c_seq (fun K1 hK1 => ?_)
  refine c_region ?_
  refine tp rfl (lv_assign rfl) ?_
  refine t_done ?_
  refine q_then_n (hK1 _ _ ?_)
  refine c_seq (fun K2 hK2 => ?_)
  refine c_region ?_
  refine tp rfl (lv_move rfl) ?_
  refine tp rfl (lv_move rfl) ?_
  refine tc rfl (en_fn Tryd.call30 rfl) (indexFunc_ok (p := p) xs ⟨hcall, fun x hx => hf x hx xs rfl⟩ (rd_sl (.head _)) okx (by first | omega | (simp; omega) | (simp; done))) ?_
  rintro _ _ ⟨rfl, rfl⟩
  refine tp rfl (lv_assign rfl) ?_
  refine t_done ?_
  refine q_then_n (hK2 _ _ ?_)
  refine c_seq (fun K3 hK3 => ?_)
  refine c_seq (fun K4 hK4 => ?_)
  refine c_region ?_
  refine tp rfl (lv_move rfl) ?_
  by_cases hnone : (idxF p xs) = (-1)
  · -- yes
    refine tp rfl (lv_eql rfl rfl (beq_iff_eq.2 hnone)) ?_
    refine t_done ?_
    refine q_then_n (hK4 _ _ ?_)
    refine c_true rfl ?_
    refine c_seq (fun K5 hK5 => ?_)
    refine c_region ?_
    refine tp rfl (lv_move rfl) ?_
    refine tp rfl (lv_assign rfl) ?_
    refine t_done ?_
    refine q_then_n (hK5 _ _ ?_)
    refine c_ret ?_
    refine q_then_r ?_
    rw [show ints .i64 xs = ints .i64 (xs.filter (fun x => !p x)) from by rw [filter_none hnone]]
    refine q_ret rfl rfl ?_
    have e : xs.length = (xs.filter (fun x => !p x)).length := by rw [filter_none hnone]
    rw [← e]
    exact ⟨rfl, rfl⟩
  · -- no
    refine tp rfl (lv_eql rfl rfl (beq_eq_false_iff_ne.2 hnone)) ?_
    refine t_done ?_
    refine q_then_n (hK4 _ _ ?_)
    refine c_false rfl ?_
    refine c_skip ?_
    refine q_then_n (hK3 _ _ ?_)
    refine c_seq (fun K5 hK5 => ?_)
    refine c_seq (fun K6 hK6 => ?_)
    refine c_region ?_
    obtain ⟨k0, hk0, hk1, hk2, hk3⟩ := idxF_some hnone
    rw [hk0]
    refine tp rfl (lv_move rfl) ?_
    refine tp rfl (lv_add (c := ((k0 + 1 : Nat) : Int)) rfl rfl (wr_i64_succ (by omega))) ?_
    refine tp rfl (lv_assign rfl) ?_
    refine t_done ?_
    refine q_then_n (hK6 _ _ ?_)
    refine c_block ?_
    refine c_loop (γ := (Nat) × (Nat) × (List Int)) (fun (i, j, ys) => DelI p xs i j ys) (fun (i, j, ys) => [(0, (.slice bx xs.length cx)), (1, (.func (.func f) #[] caps.toArray)), (4, (.slice none 0 0)), (5, (.int .i64 ((i : Nat) : Int))), (6, (.int .i64 ((j : Nat) : Int))), (12, (.bool false))]) (fun (i, j, ys) => (SlV 3 1 (.slice bx xs.length cx) xs.length (ints .i64 ys)) :: R) (fun (i, j, ys) => xs.length - j) (k0, k0 + 1, xs) (DelI.start hk1 hk2 hk3) ⟨rfl, rfl, rfl, rfl, rfl, rfl, trivial⟩ (fun _ h => h) ?_
    rintro ⟨i, j, ys⟩ K7 hF hK7
    try dsimp only at hF hK7 ⊢
    have hyl := hF.len
    have hij := hF.lt
    have hjl := hF.le
    refine c_seq (fun K8 hK8 => ?_)
    refine c_seq (fun K9 hK9 => ?_)
    refine c_region ?_
    refine tp rfl (lv_move rfl) ?_
    refine tp rfl (lv_move rfl) ?_
    refine tp rfl (lv_len Tryd.underlying22 rfl rfl) ?_
    by_cases h1 : ((j : Nat) : Int) < ((xs.length : Nat) : Int)
    · -- yes
      refine tp rfl (lv_lss rfl rfl (decide_eq_true h1)) ?_
      refine t_done ?_
      refine q_then_n (hK9 _ _ ?_)
      refine c_true rfl ?_
      refine c_skip ?_
      refine q_then_n (hK8 _ _ ?_)
      refine c_seq (fun K10 hK10 => ?_)
      refine c_block ?_
      refine c_seq (fun K11 hK11 => ?_)
      refine c_region ?_
      refine tp rfl (lv_move rfl) ?_
      refine tp rfl (lv_move rfl) ?_
      refine tp rfl (lv_indexAddr (k' := j) Tryd.underlying22 Tryd.sizeOf3 rfl rfl okx (by omega) (by omega) (by omega)) ?_
      refine tp rfl (lv_load Tryd.isAgg3 rfl (gives_sl (.head _) (ints_get (by first | omega | (simp; omega))))) ?_
      refine tp rfl (lv_assign rfl) ?_
      refine t_done ?_
      refine q_then_n (hK11 _ _ ?_)
      refine c_seq (fun K12 hK12 => ?_)
      refine c_region ?_
      refine tp rfl (lv_move rfl) ?_
      refine tp rfl (lv_move rfl) ?_
      refine tc rfl (en_clo hcall rfl rfl) (hf (ys.getD j 0) (by rw [hF.get (by omega)]; exact mem_getD (by omega)) ys hF.len) ?_
      rintro _ _ ⟨rfl, rfl⟩
      refine tp rfl (lv_not (c := !(p (ys.getD j 0))) rfl rfl) ?_
      refine t_done ?_
      refine q_then_n (hK12 _ _ ?_)
      refine c_split rfl (fun c2 => ?_) (fun c2 => ?_)
      · -- true
        have hpj := c2
        refine c_seq (fun K13 hK13 => ?_)
        refine c_region ?_
        refine tp rfl (lv_move rfl) ?_
        refine tp rfl (lv_move rfl) ?_
        refine tp rfl (lv_move rfl) ?_
        refine tp rfl (lv_indexAddr (k' := i) Tryd.underlying22 Tryd.sizeOf3 rfl rfl okx (by omega) (by omega) (by omega)) ?_
        refine ts (sv_sl Tryd.sizeOf3 rfl rfl rfl (by first | (rw [ints_length]; omega) | (simp; omega) | omega) ints_set) ?_
        refine t_done ?_
        refine q_then_n (hK13 _ _ ?_)
        refine c_region ?_
        refine tp rfl (lv_move rfl) ?_
        refine tp rfl (lv_add (c := ((i + 1 : Nat) : Int)) rfl rfl (wr_i64_succ (by omega))) ?_
        refine tp rfl (lv_assign rfl) ?_
        refine t_done ?_
        refine q_in_n ?_
        refine q_then_n (hK10 _ _ ?_)
        refine c_region ?_
        refine tp rfl (lv_move rfl) ?_
        refine tp rfl (lv_add (c := ((j + 1 : Nat) : Int)) rfl rfl (wr_i64_succ (by omega))) ?_
        refine tp rfl (lv_assign rfl) ?_
        refine t_done ?_
        refine q_then_n ?_
        exact t_weak (by exact ⟨rfl, rfl, rfl, rfl, rfl, rfl, trivial⟩) ((hK7 (i + 1, j + 1, (ys).set i ((ys).getD j 0)) (hF.keep (by omega) (by simpa using hpj)) (by dsimp only; omega)))
      · -- false
        have hpj := c2
        refine c_skip ?_
        refine q_in_n ?_
        refine q_then_n (hK10 _ _ ?_)
        refine c_region ?_
        refine tp rfl (lv_move rfl) ?_
        refine tp rfl (lv_add (c := ((j + 1 : Nat) : Int)) rfl rfl (wr_i64_succ (by omega))) ?_
        refine tp rfl (lv_assign rfl) ?_
        refine t_done ?_
        refine q_then_n ?_
        exact t_weak (by exact ⟨rfl, rfl, rfl, rfl, rfl, rfl, trivial⟩) ((hK7 (i, j + 1, ys) (hF.skip (by omega) (by simpa using hpj)) (by dsimp only; omega)))
    · -- no
      refine tp rfl (lv_lss rfl rfl (decide_eq_false h1)) ?_
      refine t_done ?_
      refine q_then_n (hK9 _ _ ?_)
      refine c_false rfl ?_
      refine c_exit ?_
      refine q_then_x ?_
      refine q_then_x ?_
      refine q_in_x ?_
      refine q_then_n (hK5 _ _ ?_)
      refine c_seq (fun K10 hK10 => ?_)
      refine c_region ?_
      refine tp rfl (lv_move rfl) ?_
      refine tp rfl (lv_move rfl) ?_
      refine tp rfl (lv_slice (l := i) (h := xs.length) (m := cx) (v := (.slice (sbase bx i cx 1) (xs.length - i) (cx - i))) Tryd.underlying22 Tryd.sizeOf3 rfl rfl rfl rfl (.inr ⟨rfl, rfl⟩) (.inr ⟨rfl, rfl⟩) (.inl ⟨_, _, rfl, (by omega), (by omega), (by omega)⟩) (by simp) rfl) ?_
      refine tm0 (mv_clear (l := i) (c := cx) Tryd.underlying22 Tryd.zeroValue3 rfl rfl (by decide) rfl okx (by omega) (by omega) (by omega)) ?_
      rintro _ _ ⟨zs3, rfl⟩
      refine t_done ?_
      refine q_then_n (hK10 _ _ ?_)
      refine c_seq (fun K11 hK11 => ?_)
      refine c_region ?_
      refine tp rfl (lv_move rfl) ?_
      refine tp rfl (lv_move rfl) ?_
      refine tp rfl (lv_slice (l := 0) (h := i) (m := cx) (v := (.slice bx i cx)) Tryd.underlying22 Tryd.sizeOf3 rfl rfl rfl rfl (.inr ⟨rfl, rfl⟩) (.inl ⟨_, _, rfl, (by omega), (by omega), (by omega)⟩) (.inr ⟨rfl, rfl⟩) (by simp) (by rw [sbase_zero]; rfl)) ?_
      refine tp rfl (lv_assign rfl) ?_
      refine t_done ?_
      refine q_then_n (hK11 _ _ ?_)
      refine c_ret ?_
      refine t_sat (fun _ h => sat_cut_ints (by omega) (by omega) hyl h) ?_
      have hdn := hF.done (by omega)
      rw [hdn]
      have hi : i = (xs.filter (fun x => !p x)).length := by rw [← hdn]; simp; omega
      subst hi
      refine q_ret rfl rfl ?_
      exact ⟨rfl, rfl⟩

theorem deleteFunc_n {R : List HP} {p : Int → Bool} {f n : Nat} {caps : List Value} {bx : Option Addr} {cx : Nat} (xs : List Int) (hn : xs.length = n) (hf : (∀ args w, (callFunc f args).run Tryd.prog w = .ok (.enter f args) w) ∧ ∀ x ∈ xs, ∀ ys : List Int, ys.length = xs.length → Ok Tryd.prog f ([.int .i64 x] ++ caps) (SlV 3 1 (.slice bx n cx) n (ints .i64 ys) :: R) (fun v M => v = .bool (p x) ∧ M = SlV 3 1 (.slice bx n cx) n (ints .i64 ys) :: R)) (lx : n ≤ 1000000) : Ok Tryd.prog 28 [.slice bx n cx, .func (.func f) #[] caps.toArray] (SlV 3 1 (.slice bx n cx) n (ints .i64 xs) :: R) (fun v M => v = .slice bx (xs.filter (fun x => !p x)).length cx ∧ M = SlV 3 1 (.slice bx (xs.filter (fun x => !p x)).length cx) (xs.filter (fun x => !p x)).length (ints .i64 (xs.filter (fun x => !p x))) :: R) := by subst hn; exact deleteFunc_ok xs hf lx

theorem tthere_ok {R : List HP} (x : Int) {n cl : Nat} {bl : Option Addr} :
    Ok Tryd.prog 27 [(.int .i64 x), (.slice bl n cl)] R
      (fun v M => v = .bool (thB x n) ∧ M = R) := by
  refine ok_of (N := 13) Tryd.func27 rfl rfl rfl (fun W => ?_)
  refine c_seq (fun K1 hK1 => ?_)
  refine c_region ?_
  refine tp rfl (lv_assign rfl) ?_
  refine t_done ?_
  refine q_then_n (hK1 _ _ ?_)
  refine c_seq (fun K2 hK2 => ?_)
  refine c_region ?_
  refine tp rfl (lv_move rfl) ?_
  by_cases hge : x ≥ 0
  · -- yes
    refine tp rfl (lv_geq rfl rfl (decide_eq_true hge)) ?_
    refine tp rfl (lv_move rfl) ?_
    refine t_guard rfl rfl ?_
    refine tp rfl (lv_move rfl) ?_
    refine t_guard rfl rfl ?_
    refine tp rfl (lv_move rfl) ?_
    refine t_guard rfl rfl ?_
    refine tp rfl (lv_len Tryd.underlying24 rfl rfl) ?_
    refine t_guard rfl rfl ?_
    refine tp rfl (lv_lss rfl rfl rfl) ?_
    refine tp rfl (lv_pick_t rfl rfl) ?_
    refine tp rfl (lv_assign rfl) ?_
    refine t_done ?_
    refine q_then_n (hK2 _ _ ?_)
    refine c_ret ?_
    refine q_ret rfl rfl ?_
    exact ⟨by simp [thB, hge], rfl⟩
  · -- no
    refine tp rfl (lv_geq rfl rfl (decide_eq_false hge)) ?_
    refine tp rfl (lv_move rfl) ?_
    refine t_skip rfl rfl rfl ?_
    refine t_skip rfl rfl rfl ?_
    refine t_skip rfl rfl rfl ?_
    refine t_skip rfl rfl rfl ?_
    refine tp rfl (lv_pick_f rfl rfl) ?_
    refine tp rfl (lv_assign rfl) ?_
    refine t_done ?_
    refine q_then_n (hK2 _ _ ?_)
    refine c_ret ?_
    refine q_ret rfl rfl ?_
    exact ⟨by simp [thB, hge], rfl⟩

theorem fits1_ok {R : List HP} (x room : Int) {c1 c2 n cl : Nat} {bl : Option Addr} (es : List (Int × Int)) (hn : n ≤ es.length) (hl : Rd R bl (pairs es)) (okl : SlOk bl n) (h1 : Gives R ⟨c1, 0, none⟩ (.slice bl n cl)) (h2 : Gives R ⟨c2, 0, none⟩ (.int .i64 room)) :
    Ok Tryd.prog 26 [(.int .i64 x), (.pointer (some ⟨c1, 0, none⟩)), (.pointer (some ⟨c2, 0, none⟩))] R
      (fun v M => v = .bool (!fitB n es room x) ∧ M = R) := by
  refine ok_of (N := 18) Tryd.func26 rfl rfl rfl (fun W => ?_)
  refine c_seq (fun K1 hK1 => ?_)
  refine c_region ?_
  refine tp rfl (lv_assign rfl) ?_
  refine t_done ?_
  refine q_then_n (hK1 _ _ ?_)
  refine c_seq (fun K2 hK2 => ?_)
  rcases hh1 : thB x n with _ | _
  · -- false
    refine c_draw (γ := Unit) (n := 14) Tryd.mixed rfl rfl (fun _ S => True) (fun _ => [(0, 5, (.int .i64 x)), (1, 6, (.slice bl n cl)), (2, 7, (.bool false)), (3, 8, (.bool true)), (4, 9, (.bool true)), (5, 10, undef), (6, 11, undef), (7, 12, undef), (8, 13, undef), (9, 14, undef), (10, 15, undef), (11, 16, undef), (12, 17, (.bool true)), (13, 4, (.bool true))]) (fun _ S => R) (()) trivial (fun _ h => h) (fun _ _ h => h) ?_ ?_
    · -- steps
      refine ⟨?_, ?_, ?_, ?_, ?_, ?_, ?_, ?_, ?_, ?_, ?_, ?_, ?_, ?_, trivial⟩
      · -- 0
        rintro _ S hF hS D hp K hK
        try dsimp only at hF ⊢
        refine d_need (small := [(0, (.int .i64 x))]) ⟨look_b rfl rfl, trivial⟩ ?_
        refine tp rfl (lv_move rfl) ?_
        exact d_closes ⟨look_b rfl rfl, trivial⟩ 0 rfl rfl rfl hS (AgreeR.refl _) (t_sat (fun _ h => h) (hK () trivial))
      · -- 1
        rintro _ S hF hS D hp K hK
        try dsimp only at hF ⊢
        refine d_need (small := [(1, (.pointer (some ⟨c1, 0, none⟩)))]) ⟨look_b rfl rfl, trivial⟩ ?_
        refine tp rfl (lv_load Tryd.isAgg24 rfl h1) ?_
        exact d_closes ⟨look_b rfl rfl, trivial⟩ 1 rfl rfl rfl hS (AgreeR.refl _) (t_sat (fun _ h => h) (hK () trivial))
      · -- 2
        rintro _ S hF hS D hp K hK
        try dsimp only at hF ⊢
        have s0 := hp 0 rfl
        have s1 := hp 1 rfl
        refine d_need (small := [(5, (.int .i64 x)), (6, (.slice bl n cl))]) ⟨look_row rfl 0 rfl s0, look_row rfl 1 rfl s1, trivial⟩ ?_
        refine tc rfl (en_fn Tryd.call27 rfl) (tthere_ok x) ?_
        rintro _ _ ⟨rfl, hMR⟩
        rw [hMR]; clear hMR
        rw [show thB x n = false from hh1]
        exact d_closes ⟨look_row rfl 0 rfl s0, look_row rfl 1 rfl s1, trivial⟩ 2 rfl rfl rfl hS (AgreeR.refl _) (t_sat (fun _ h => h) (hK () trivial))
      · -- 3
        rintro _ S hF hS D hp K hK
        try dsimp only at hF ⊢
        have s2 := hp 2 rfl
        refine d_need (small := [(7, (.bool false))]) ⟨look_row rfl 2 rfl s2, trivial⟩ ?_
        refine tp rfl (lv_not (c := true) rfl rfl) ?_
        exact d_closes ⟨look_row rfl 2 rfl s2, trivial⟩ 3 rfl rfl rfl hS (AgreeR.refl _) (t_sat (fun _ h => h) (hK () trivial))
      · -- 4
        rintro _ S hF hS D hp K hK
        try dsimp only at hF ⊢
        have s3 := hp 3 rfl
        refine d_need (small := [(8, (.bool true))]) ⟨look_row rfl 3 rfl s3, trivial⟩ ?_
        refine tp rfl (lv_move rfl) ?_
        exact d_closes ⟨look_row rfl 3 rfl s3, trivial⟩ 4 rfl rfl rfl hS (AgreeR.refl _) (t_sat (fun _ h => h) (hK () trivial))
      · -- 5
        rintro _ S hF hS D hp K hK
        try dsimp only at hF ⊢
        have s4 := hp 4 rfl
        refine d_need (small := [(1, (.pointer (some ⟨c1, 0, none⟩))), (9, (.bool true))]) ⟨look_b rfl rfl, look_row rfl 4 rfl s4, trivial⟩ ?_
        refine t_skip rfl rfl rfl ?_
        exact d_closes ⟨look_b rfl rfl, look_row rfl 4 rfl s4, trivial⟩ 5 rfl rfl rfl hS (AgreeR.refl _) (t_sat (fun _ h => h) (hK () trivial))
      · -- 6
        rintro _ S hF hS D hp K hK
        try dsimp only at hF ⊢
        have s4 := hp 4 rfl
        refine d_need (small := [(0, (.int .i64 x)), (9, (.bool true))]) ⟨look_b rfl rfl, look_row rfl 4 rfl s4, trivial⟩ ?_
        refine t_skip rfl rfl rfl ?_
        exact d_closes ⟨look_b rfl rfl, look_row rfl 4 rfl s4, trivial⟩ 6 rfl rfl rfl hS (AgreeR.refl _) (t_sat (fun _ h => h) (hK () trivial))
      · -- 7
        rintro _ S hF hS D hp K hK
        try dsimp only at hF ⊢
        have s4 := hp 4 rfl
        have s5 := hp 5 rfl
        have s6 := hp 6 rfl
        refine d_need (small := [(9, (.bool true)), (10, undef), (11, undef)]) ⟨look_row rfl 4 rfl s4, look_row rfl 5 rfl s5, look_row rfl 6 rfl s6, trivial⟩ ?_
        refine t_skip rfl rfl rfl ?_
        exact d_closes ⟨look_row rfl 4 rfl s4, look_row rfl 5 rfl s5, look_row rfl 6 rfl s6, trivial⟩ 7 rfl rfl rfl hS (AgreeR.refl _) (t_sat (fun _ h => h) (hK () trivial))
      · -- 8
        rintro _ S hF hS D hp K hK
        try dsimp only at hF ⊢
        have s4 := hp 4 rfl
        have s7 := hp 7 rfl
        refine d_need (small := [(9, (.bool true)), (12, undef)]) ⟨look_row rfl 4 rfl s4, look_row rfl 7 rfl s7, trivial⟩ ?_
        refine t_skip rfl rfl rfl ?_
        exact d_closes ⟨look_row rfl 4 rfl s4, look_row rfl 7 rfl s7, trivial⟩ 8 rfl rfl rfl hS (AgreeR.refl _) (t_sat (fun _ h => h) (hK () trivial))
      · -- 9
        rintro _ S hF hS D hp K hK
        try dsimp only at hF ⊢
        have s4 := hp 4 rfl
        have s8 := hp 8 rfl
        refine d_need (small := [(9, (.bool true)), (13, undef)]) ⟨look_row rfl 4 rfl s4, look_row rfl 8 rfl s8, trivial⟩ ?_
        refine t_skip rfl rfl rfl ?_
        exact d_closes ⟨look_row rfl 4 rfl s4, look_row rfl 8 rfl s8, trivial⟩ 9 rfl rfl rfl hS (AgreeR.refl _) (t_sat (fun _ h => h) (hK () trivial))
      · -- 10
        rintro _ S hF hS D hp K hK
        try dsimp only at hF ⊢
        have s4 := hp 4 rfl
        refine d_need (small := [(2, (.pointer (some ⟨c2, 0, none⟩))), (9, (.bool true))]) ⟨look_b rfl rfl, look_row rfl 4 rfl s4, trivial⟩ ?_
        refine t_skip rfl rfl rfl ?_
        exact d_closes ⟨look_b rfl rfl, look_row rfl 4 rfl s4, trivial⟩ 10 rfl rfl rfl hS (AgreeR.refl _) (t_sat (fun _ h => h) (hK () trivial))
      · -- 11
        rintro _ S hF hS D hp K hK
        try dsimp only at hF ⊢
        have s4 := hp 4 rfl
        have s9 := hp 9 rfl
        have s10 := hp 10 rfl
        refine d_need (small := [(9, (.bool true)), (14, undef), (15, undef)]) ⟨look_row rfl 4 rfl s4, look_row rfl 9 rfl s9, look_row rfl 10 rfl s10, trivial⟩ ?_
        refine t_skip rfl rfl rfl ?_
        exact d_closes ⟨look_row rfl 4 rfl s4, look_row rfl 9 rfl s9, look_row rfl 10 rfl s10, trivial⟩ 11 rfl rfl rfl hS (AgreeR.refl _) (t_sat (fun _ h => h) (hK () trivial))
      · -- 12
        rintro _ S hF hS D hp K hK
        try dsimp only at hF ⊢
        have s4 := hp 4 rfl
        have s11 := hp 11 rfl
        refine d_need (small := [(9, (.bool true)), (16, undef)]) ⟨look_row rfl 4 rfl s4, look_row rfl 11 rfl s11, trivial⟩ ?_
        refine tp rfl (lv_pick_t rfl rfl) ?_
        exact d_closes ⟨look_row rfl 4 rfl s4, look_row rfl 11 rfl s11, trivial⟩ 12 rfl rfl rfl hS (AgreeR.refl _) (t_sat (fun _ h => h) (hK () trivial))
      · -- 13
        rintro _ S hF hS D hp K hK
        try dsimp only at hF ⊢
        have s12 := hp 12 rfl
        refine d_need (small := [(17, (.bool true))]) ⟨look_row rfl 12 rfl s12, trivial⟩ ?_
        refine tp rfl (lv_assign rfl) ?_
        exact d_closes ⟨look_row rfl 12 rfl s12, trivial⟩ 13 rfl rfl rfl hS (AgreeR.refl _) (t_sat (fun _ h => h) (hK () trivial))
    · -- behind
      rintro _ hF
      try dsimp only at hF ⊢
      refine t_weak (E' := [(0, (.int .i64 x)), (1, (.pointer (some ⟨c1, 0, none⟩))), (2, (.pointer (some ⟨c2, 0, none⟩))), (4, (.bool true))]) ⟨rfl, rfl, rfl, rfl, trivial⟩ ?_
      refine q_then_n (hK2 _ _ ?_)
      refine c_ret ?_
      refine q_ret rfl rfl ?_
      refine ⟨?_, rfl⟩
      congr 1
      unfold fitB
      rw [Bool.eq_iff_iff]
      simp [*]
  · -- true
    refine c_draw (γ := Unit) (n := 14) Tryd.mixed rfl rfl (fun _ S => True) (fun _ => [(0, 5, (.int .i64 x)), (1, 6, (.slice bl n cl)), (2, 7, (.bool true)), (3, 8, (.bool false)), (4, 9, (.bool false)), (5, 10, (.slice bl n cl)), (6, 11, (.int .i64 x)), (7, 12, (.pointer (some (ad bl (x.toNat * 2))))), (8, 13, (.pointer (some (ad bl (x.toNat * 2))))), (9, 14, (.int .i64 (((es).getD x.toNat (0, 0)).1))), (10, 15, (.int .i64 room)), (11, 16, (.bool (decide ((((es).getD x.toNat (0, 0)).1) > room)))), (12, 17, (.bool (decide ((((es).getD x.toNat (0, 0)).1) > room)))), (13, 4, (.bool (decide ((((es).getD x.toNat (0, 0)).1) > room))))]) (fun _ S => R) (()) trivial (fun _ h => h) (fun _ _ h => h) ?_ ?_
    · -- steps
      refine ⟨?_, ?_, ?_, ?_, ?_, ?_, ?_, ?_, ?_, ?_, ?_, ?_, ?_, ?_, trivial⟩
      · -- 0
        rintro _ S hF hS D hp K hK
        try dsimp only at hF ⊢
        refine d_need (small := [(0, (.int .i64 x))]) ⟨look_b rfl rfl, trivial⟩ ?_
        refine tp rfl (lv_move rfl) ?_
        exact d_closes ⟨look_b rfl rfl, trivial⟩ 0 rfl rfl rfl hS (AgreeR.refl _) (t_sat (fun _ h => h) (hK () trivial))
      · -- 1
        rintro _ S hF hS D hp K hK
        try dsimp only at hF ⊢
        refine d_need (small := [(1, (.pointer (some ⟨c1, 0, none⟩)))]) ⟨look_b rfl rfl, trivial⟩ ?_
        refine tp rfl (lv_load Tryd.isAgg24 rfl h1) ?_
        exact d_closes ⟨look_b rfl rfl, trivial⟩ 1 rfl rfl rfl hS (AgreeR.refl _) (t_sat (fun _ h => h) (hK () trivial))
      · -- 2
        rintro _ S hF hS D hp K hK
        try dsimp only at hF ⊢
        have s0 := hp 0 rfl
        have s1 := hp 1 rfl
        refine d_need (small := [(5, (.int .i64 x)), (6, (.slice bl n cl))]) ⟨look_row rfl 0 rfl s0, look_row rfl 1 rfl s1, trivial⟩ ?_
        refine tc rfl (en_fn Tryd.call27 rfl) (tthere_ok x) ?_
        rintro _ _ ⟨rfl, hMR⟩
        rw [hMR]; clear hMR
        rw [show thB x n = true from hh1]
        exact d_closes ⟨look_row rfl 0 rfl s0, look_row rfl 1 rfl s1, trivial⟩ 2 rfl rfl rfl hS (AgreeR.refl _) (t_sat (fun _ h => h) (hK () trivial))
      · -- 3
        rintro _ S hF hS D hp K hK
        try dsimp only at hF ⊢
        have s2 := hp 2 rfl
        refine d_need (small := [(7, (.bool true))]) ⟨look_row rfl 2 rfl s2, trivial⟩ ?_
        refine tp rfl (lv_not (c := false) rfl rfl) ?_
        exact d_closes ⟨look_row rfl 2 rfl s2, trivial⟩ 3 rfl rfl rfl hS (AgreeR.refl _) (t_sat (fun _ h => h) (hK () trivial))
      · -- 4
        rintro _ S hF hS D hp K hK
        try dsimp only at hF ⊢
        have s3 := hp 3 rfl
        refine d_need (small := [(8, (.bool false))]) ⟨look_row rfl 3 rfl s3, trivial⟩ ?_
        refine tp rfl (lv_move rfl) ?_
        exact d_closes ⟨look_row rfl 3 rfl s3, trivial⟩ 4 rfl rfl rfl hS (AgreeR.refl _) (t_sat (fun _ h => h) (hK () trivial))
      · -- 5
        rintro _ S hF hS D hp K hK
        try dsimp only at hF ⊢
        have s4 := hp 4 rfl
        refine d_need (small := [(1, (.pointer (some ⟨c1, 0, none⟩))), (9, (.bool false))]) ⟨look_b rfl rfl, look_row rfl 4 rfl s4, trivial⟩ ?_
        refine t_guard rfl rfl ?_
        refine tp rfl (lv_load Tryd.isAgg24 rfl h1) ?_
        exact d_closes ⟨look_b rfl rfl, look_row rfl 4 rfl s4, trivial⟩ 5 rfl rfl rfl hS (AgreeR.refl _) (t_sat (fun _ h => h) (hK () trivial))
      · -- 6
        rintro _ S hF hS D hp K hK
        try dsimp only at hF ⊢
        have s4 := hp 4 rfl
        refine d_need (small := [(0, (.int .i64 x)), (9, (.bool false))]) ⟨look_b rfl rfl, look_row rfl 4 rfl s4, trivial⟩ ?_
        refine t_guard rfl rfl ?_
        refine tp rfl (lv_move rfl) ?_
        exact d_closes ⟨look_b rfl rfl, look_row rfl 4 rfl s4, trivial⟩ 6 rfl rfl rfl hS (AgreeR.refl _) (t_sat (fun _ h => h) (hK () trivial))
      · -- 7
        rintro _ S hF hS D hp K hK
        try dsimp only at hF ⊢
        have s4 := hp 4 rfl
        have s5 := hp 5 rfl
        have s6 := hp 6 rfl
        refine d_need (small := [(9, (.bool false)), (10, (.slice bl n cl)), (11, (.int .i64 x))]) ⟨look_row rfl 4 rfl s4, look_row rfl 5 rfl s5, look_row rfl 6 rfl s6, trivial⟩ ?_
        refine t_guard rfl rfl ?_
        refine tp rfl (lv_indexAddr (k' := x.toNat * 2) Tryd.underlying24 Tryd.sizeOf51 rfl rfl okl (by have := thB_t ‹_›; omega) (by have := thB_t ‹_›; omega) (by have := thB_t ‹_›; omega)) ?_
        exact d_closes ⟨look_row rfl 4 rfl s4, look_row rfl 5 rfl s5, look_row rfl 6 rfl s6, trivial⟩ 7 rfl rfl rfl hS (AgreeR.refl _) (t_sat (fun _ h => h) (hK () trivial))
      · -- 8
        rintro _ S hF hS D hp K hK
        try dsimp only at hF ⊢
        have s4 := hp 4 rfl
        have s7 := hp 7 rfl
        refine d_need (small := [(9, (.bool false)), (12, (.pointer (some (ad bl (x.toNat * 2)))))]) ⟨look_row rfl 4 rfl s4, look_row rfl 7 rfl s7, trivial⟩ ?_
        refine t_guard rfl rfl ?_
        refine tp rfl (lv_fieldAddr_ad (o' := x.toNat * 2) Tryd.underlying51 rfl Tryd.sizeOf3 rfl rfl) ?_
        exact d_closes ⟨look_row rfl 4 rfl s4, look_row rfl 7 rfl s7, trivial⟩ 8 rfl rfl rfl hS (AgreeR.refl _) (t_sat (fun _ h => h) (hK () trivial))
      · -- 9
        rintro _ S hF hS D hp K hK
        try dsimp only at hF ⊢
        have s4 := hp 4 rfl
        have s8 := hp 8 rfl
        refine d_need (small := [(9, (.bool false)), (13, (.pointer (some (ad bl (x.toNat * 2)))))]) ⟨look_row rfl 4 rfl s4, look_row rfl 8 rfl s8, trivial⟩ ?_
        refine t_guard rfl rfl ?_
        refine tp rfl (lv_load Tryd.isAgg3 rfl (Rd.gives hl (pairs_get0 (by have := thB_t ‹_›; omega)))) ?_
        exact d_closes ⟨look_row rfl 4 rfl s4, look_row rfl 8 rfl s8, trivial⟩ 9 rfl rfl rfl hS (AgreeR.refl _) (t_sat (fun _ h => h) (hK () trivial))
      · -- 10
        rintro _ S hF hS D hp K hK
        try dsimp only at hF ⊢
        have s4 := hp 4 rfl
        refine d_need (small := [(2, (.pointer (some ⟨c2, 0, none⟩))), (9, (.bool false))]) ⟨look_b rfl rfl, look_row rfl 4 rfl s4, trivial⟩ ?_
        refine t_guard rfl rfl ?_
        refine tp rfl (lv_load Tryd.isAgg3 rfl h2) ?_
        exact d_closes ⟨look_b rfl rfl, look_row rfl 4 rfl s4, trivial⟩ 10 rfl rfl rfl hS (AgreeR.refl _) (t_sat (fun _ h => h) (hK () trivial))
      · -- 11
        rintro _ S hF hS D hp K hK
        try dsimp only at hF ⊢
        have s4 := hp 4 rfl
        have s9 := hp 9 rfl
        have s10 := hp 10 rfl
        refine d_need (small := [(9, (.bool false)), (14, (.int .i64 (((es).getD x.toNat (0, 0)).1))), (15, (.int .i64 room))]) ⟨look_row rfl 4 rfl s4, look_row rfl 9 rfl s9, look_row rfl 10 rfl s10, trivial⟩ ?_
        refine t_guard rfl rfl ?_
        refine tp rfl (lv_gtr rfl rfl rfl) ?_
        exact d_closes ⟨look_row rfl 4 rfl s4, look_row rfl 9 rfl s9, look_row rfl 10 rfl s10, trivial⟩ 11 rfl rfl rfl hS (AgreeR.refl _) (t_sat (fun _ h => h) (hK () trivial))
      · -- 12
        rintro _ S hF hS D hp K hK
        try dsimp only at hF ⊢
        have s4 := hp 4 rfl
        have s11 := hp 11 rfl
        refine d_need (small := [(9, (.bool false)), (16, (.bool (decide ((((es).getD x.toNat (0, 0)).1) > room))))]) ⟨look_row rfl 4 rfl s4, look_row rfl 11 rfl s11, trivial⟩ ?_
        refine tp rfl (lv_pick_f rfl rfl) ?_
        exact d_closes ⟨look_row rfl 4 rfl s4, look_row rfl 11 rfl s11, trivial⟩ 12 rfl rfl rfl hS (AgreeR.refl _) (t_sat (fun _ h => h) (hK () trivial))
      · -- 13
        rintro _ S hF hS D hp K hK
        try dsimp only at hF ⊢
        have s12 := hp 12 rfl
        refine d_need (small := [(17, (.bool (decide ((((es).getD x.toNat (0, 0)).1) > room))))]) ⟨look_row rfl 12 rfl s12, trivial⟩ ?_
        refine tp rfl (lv_assign rfl) ?_
        exact d_closes ⟨look_row rfl 12 rfl s12, trivial⟩ 13 rfl rfl rfl hS (AgreeR.refl _) (t_sat (fun _ h => h) (hK () trivial))
    · -- behind
      rintro _ hF
      try dsimp only at hF ⊢
      refine t_weak (E' := [(0, (.int .i64 x)), (1, (.pointer (some ⟨c1, 0, none⟩))), (2, (.pointer (some ⟨c2, 0, none⟩))), (4, (.bool (decide ((((es).getD x.toNat (0, 0)).1) > room))))]) ⟨rfl, rfl, rfl, rfl, trivial⟩ ?_
      refine q_then_n (hK2 _ _ ?_)
      refine c_ret ?_
      refine q_ret rfl rfl ?_
      refine ⟨?_, rfl⟩
      congr 1
      unfold fitB
      rw [Bool.eq_iff_iff]
      simp [*]
end Go.Proofs.YtfoiopbjomaclaaDoor
