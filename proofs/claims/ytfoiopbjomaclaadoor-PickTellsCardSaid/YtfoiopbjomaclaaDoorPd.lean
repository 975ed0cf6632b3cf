/- Contracts of pick: Wants. -/
import Derived.Test.YtfoiopbjomaclaaDoorPc
set_option maxRecDepth 100000
set_option linter.unusedVariables false
set_option linter.unusedSimpArgs false
namespace Go.Proofs.YtfoiopbjomaclaaDoor
open Go Go.Proofs Sp
theorem wants1_ok {R : List HP} {g N : Nat} {E : Es} (x : Int) {c1 c2 c3 c4 n m cl cr k : Nat} {bl bq : Option Addr} (rs : List Int) (hk : k < m) (hm : m ≤ rs.length) (hr : Rd R bq (ints .i64 rs)) (okr : SlOk bq m) (h1 : Gives R ⟨c1, 0, none⟩ (.slice bl n cl)) (h2 : Gives R ⟨c2, 0, none⟩ (.pointer (some ⟨g, 0, none⟩))) (h3 : Gives R ⟨c3, 0, none⟩ (.slice bq m cr)) (h4 : Gives R ⟨c4, 0, none⟩ (.int .i64 ((k : Nat) : Int))) (hT : Tab R) :
    Ok Tryd.prog 31 [(.int .i64 x), (.pointer (some ⟨c1, 0, none⟩)), (.pointer (some ⟨c2, 0, none⟩)), (.pointer (some ⟨c3, 0, none⟩)), (.pointer (some ⟨c4, 0, none⟩))] ((GraphO g N E) :: R)
      (fun v M => v = .bool (thB x n && reachB N E (rs.getD k 0) x) ∧ M = GraphO g N E :: R) := by
  refine ok_of (N := 19) Tryd.func31 rfl rfl rfl (fun W => ?_)
  refine c_seq (fun K1 hK1 => ?_)
  refine c_region ?_
  refine tp rfl (lv_assign rfl) ?_
  refine t_done ?_
  refine q_then_n (hK1 _ _ ?_)
  refine c_seq (fun K2 hK2 => ?_)
  rcases hh1 : thB x n with _ | _
  · -- false
    refine c_draw (γ := Unit) (n := 13) Tryd.mixed rfl rfl (fun _ S => True) (fun _ => [(0, 7, (.int .i64 x)), (1, 8, (.slice bl n cl)), (2, 9, (.bool false)), (3, 10, (.bool false)), (4, 11, undef), (5, 12, undef), (6, 13, undef), (7, 14, undef), (8, 15, undef), (9, 16, undef), (10, 17, undef), (11, 18, (.bool false)), (12, 6, (.bool false))]) (fun _ S => (GraphO g N E) :: R) (()) trivial (fun _ h => h) (fun _ _ h => h) ?_ ?_
    · -- steps
      refine ⟨?_, ?_, ?_, ?_, ?_, ?_, ?_, ?_, ?_, ?_, ?_, ?_, ?_, trivial⟩
      · -- 0
        rintro _ S hF hS D hp K hK
        try dsimp only at hF ⊢
        refine d_need (small := [(0, (.int .i64 x))]) ⟨look_b rfl rfl, trivial⟩ ?_
        refine tp rfl (lv_move rfl) ?_
        exact d_closes ⟨look_b rfl rfl, trivial⟩ 0 rfl rfl rfl hS (AgreeR.refl _) (t_sat (fun _ h => h) (hK () trivial))
      · -- 1
        rintro _ S hF hS D hp K hK
        try dsimp only at hF ⊢
        refine d_need (small := [(1, (.pointer (some ⟨c1, 0, none⟩)))]) ⟨look_b rfl rfl, trivial⟩ ?_
        refine tp rfl (lv_load Tryd.isAgg24 rfl (Gives.cons h1)) ?_
        exact d_closes ⟨look_b rfl rfl, trivial⟩ 1 rfl rfl rfl hS (AgreeR.refl _) (t_sat (fun _ h => h) (hK () trivial))
      · -- 2
        rintro _ S hF hS D hp K hK
        try dsimp only at hF ⊢
        have s0 := hp 0 rfl
        have s1 := hp 1 rfl
        refine d_need (small := [(7, (.int .i64 x)), (8, (.slice bl n cl))]) ⟨look_row rfl 0 rfl s0, look_row rfl 1 rfl s1, trivial⟩ ?_
        refine tc rfl (en_fn Tryd.call27 rfl) (tthere_ok x) ?_
        rintro _ _ ⟨rfl, rfl⟩
        rw [show thB x n = false from hh1]
        exact d_closes ⟨look_row rfl 0 rfl s0, look_row rfl 1 rfl s1, trivial⟩ 2 rfl rfl rfl hS (AgreeR.refl _) (t_sat (fun _ h => h) (hK () trivial))
      · -- 3
        rintro _ S hF hS D hp K hK
        try dsimp only at hF ⊢
        have s2 := hp 2 rfl
        refine d_need (small := [(9, (.bool false))]) ⟨look_row rfl 2 rfl s2, trivial⟩ ?_
        refine tp rfl (lv_move rfl) ?_
        exact d_closes ⟨look_row rfl 2 rfl s2, trivial⟩ 3 rfl rfl rfl hS (AgreeR.refl _) (t_sat (fun _ h => h) (hK () trivial))
      · -- 4
        rintro _ S hF hS D hp K hK
        try dsimp only at hF ⊢
        have s3 := hp 3 rfl
        refine d_need (small := [(2, (.pointer (some ⟨c2, 0, none⟩))), (10, (.bool false))]) ⟨look_b rfl rfl, look_row rfl 3 rfl s3, trivial⟩ ?_
        refine t_skip rfl rfl rfl ?_
        exact d_closes ⟨look_b rfl rfl, look_row rfl 3 rfl s3, trivial⟩ 4 rfl rfl rfl hS (AgreeR.refl _) (t_sat (fun _ h => h) (hK () trivial))
      · -- 5
        rintro _ S hF hS D hp K hK
        try dsimp only at hF ⊢
        have s3 := hp 3 rfl
        refine d_need (small := [(3, (.pointer (some ⟨c3, 0, none⟩))), (10, (.bool false))]) ⟨look_b rfl rfl, look_row rfl 3 rfl s3, trivial⟩ ?_
        refine t_skip rfl rfl rfl ?_
        exact d_closes ⟨look_b rfl rfl, look_row rfl 3 rfl s3, trivial⟩ 5 rfl rfl rfl hS (AgreeR.refl _) (t_sat (fun _ h => h) (hK () trivial))
      · -- 6
        rintro _ S hF hS D hp K hK
        try dsimp only at hF ⊢
        have s3 := hp 3 rfl
        refine d_need (small := [(4, (.pointer (some ⟨c4, 0, none⟩))), (10, (.bool false))]) ⟨look_b rfl rfl, look_row rfl 3 rfl s3, trivial⟩ ?_
        refine t_skip rfl rfl rfl ?_
        exact d_closes ⟨look_b rfl rfl, look_row rfl 3 rfl s3, trivial⟩ 6 rfl rfl rfl hS (AgreeR.refl _) (t_sat (fun _ h => h) (hK () trivial))
      · -- 7
        rintro _ S hF hS D hp K hK
        try dsimp only at hF ⊢
        have s3 := hp 3 rfl
        have s5 := hp 5 rfl
        have s6 := hp 6 rfl
        refine d_need (small := [(10, (.bool false)), (12, undef), (13, undef)]) ⟨look_row rfl 3 rfl s3, look_row rfl 5 rfl s5, look_row rfl 6 rfl s6, trivial⟩ ?_
        refine t_skip rfl rfl rfl ?_
        exact d_closes ⟨look_row rfl 3 rfl s3, look_row rfl 5 rfl s5, look_row rfl 6 rfl s6, trivial⟩ 7 rfl rfl rfl hS (AgreeR.refl _) (t_sat (fun _ h => h) (hK () trivial))
      · -- 8
        rintro _ S hF hS D hp K hK
        try dsimp only at hF ⊢
        have s3 := hp 3 rfl
        have s7 := hp 7 rfl
        refine d_need (small := [(10, (.bool false)), (14, undef)]) ⟨look_row rfl 3 rfl s3, look_row rfl 7 rfl s7, trivial⟩ ?_
        refine t_skip rfl rfl rfl ?_
        exact d_closes ⟨look_row rfl 3 rfl s3, look_row rfl 7 rfl s7, trivial⟩ 8 rfl rfl rfl hS (AgreeR.refl _) (t_sat (fun _ h => h) (hK () trivial))
      · -- 9
        rintro _ S hF hS D hp K hK
        try dsimp only at hF ⊢
        have s3 := hp 3 rfl
        refine d_need (small := [(0, (.int .i64 x)), (10, (.bool false))]) ⟨look_b rfl rfl, look_row rfl 3 rfl s3, trivial⟩ ?_
        refine t_skip rfl rfl rfl ?_
        exact d_closes ⟨look_b rfl rfl, look_row rfl 3 rfl s3, trivial⟩ 9 rfl rfl rfl hS (AgreeR.refl _) (t_sat (fun _ h => h) (hK () trivial))
      · -- 10
        rintro _ S hF hS D hp K hK
        try dsimp only at hF ⊢
        have s3 := hp 3 rfl
        have s4 := hp 4 rfl
        have s8 := hp 8 rfl
        have s9 := hp 9 rfl
        refine d_need (small := [(10, (.bool false)), (11, undef), (15, undef), (16, undef)]) ⟨look_row rfl 3 rfl s3, look_row rfl 4 rfl s4, look_row rfl 8 rfl s8, look_row rfl 9 rfl s9, trivial⟩ ?_
        refine t_skip rfl rfl rfl ?_
        exact d_closes ⟨look_row rfl 3 rfl s3, look_row rfl 4 rfl s4, look_row rfl 8 rfl s8, look_row rfl 9 rfl s9, trivial⟩ 10 rfl rfl rfl hS (AgreeR.refl _) (t_sat (fun _ h => h) (hK () trivial))
      · -- 11
        rintro _ S hF hS D hp K hK
        try dsimp only at hF ⊢
        have s3 := hp 3 rfl
        have s10 := hp 10 rfl
        refine d_need (small := [(10, (.bool false)), (17, undef)]) ⟨look_row rfl 3 rfl s3, look_row rfl 10 rfl s10, trivial⟩ ?_
        refine tp rfl (lv_pick_f rfl rfl) ?_
        exact d_closes ⟨look_row rfl 3 rfl s3, look_row rfl 10 rfl s10, trivial⟩ 11 rfl rfl rfl hS (AgreeR.refl _) (t_sat (fun _ h => h) (hK () trivial))
      · -- 12
        rintro _ S hF hS D hp K hK
        try dsimp only at hF ⊢
        have s11 := hp 11 rfl
        refine d_need (small := [(18, (.bool false))]) ⟨look_row rfl 11 rfl s11, trivial⟩ ?_
        refine tp rfl (lv_assign rfl) ?_
        exact d_closes ⟨look_row rfl 11 rfl s11, trivial⟩ 12 rfl rfl rfl hS (AgreeR.refl _) (t_sat (fun _ h => h) (hK () trivial))
    · -- behind
      rintro _ hF
      try dsimp only at hF ⊢
      refine t_weak (E' := [(0, (.int .i64 x)), (1, (.pointer (some ⟨c1, 0, none⟩))), (2, (.pointer (some ⟨c2, 0, none⟩))), (3, (.pointer (some ⟨c3, 0, none⟩))), (4, (.pointer (some ⟨c4, 0, none⟩))), (6, (.bool false))]) ⟨rfl, rfl, rfl, rfl, rfl, rfl, trivial⟩ ?_
      refine q_then_n (hK2 _ _ ?_)
      refine c_ret ?_
      refine q_ret rfl rfl ?_
      exact ⟨by simp [*], rfl⟩
  · -- true
    refine c_draw (γ := Unit) (n := 13) Tryd.mixed rfl rfl (fun _ S => True) (fun _ => [(0, 7, (.int .i64 x)), (1, 8, (.slice bl n cl)), (2, 9, (.bool true)), (3, 10, (.bool true)), (4, 11, (.pointer (some ⟨g, 0, none⟩))), (5, 12, (.slice bq m cr)), (6, 13, (.int .i64 ((k : Nat) : Int))), (7, 14, (.pointer (some (ad bq k)))), (8, 15, (.int .i64 ((rs).getD k 0))), (9, 16, (.int .i64 x)), (10, 17, (.bool (reachB N E ((rs).getD k 0) x))), (11, 18, (.bool (reachB N E ((rs).getD k 0) x))), (12, 6, (.bool (reachB N E ((rs).getD k 0) x)))]) (fun _ S => (GraphO g N E) :: R) (()) trivial (fun _ h => h) (fun _ _ h => h) ?_ ?_
    · -- steps
      refine ⟨?_, ?_, ?_, ?_, ?_, ?_, ?_, ?_, ?_, ?_, ?_, ?_, ?_, trivial⟩
      · -- 0
        rintro _ S hF hS D hp K hK
        try dsimp only at hF ⊢
        refine d_need (small := [(0, (.int .i64 x))]) ⟨look_b rfl rfl, trivial⟩ ?_
        refine tp rfl (lv_move rfl) ?_
        exact d_closes ⟨look_b rfl rfl, trivial⟩ 0 rfl rfl rfl hS (AgreeR.refl _) (t_sat (fun _ h => h) (hK () trivial))
      · -- 1
        rintro _ S hF hS D hp K hK
        try dsimp only at hF ⊢
        refine d_need (small := [(1, (.pointer (some ⟨c1, 0, none⟩)))]) ⟨look_b rfl rfl, trivial⟩ ?_
        refine tp rfl (lv_load Tryd.isAgg24 rfl (Gives.cons h1)) ?_
        exact d_closes ⟨look_b rfl rfl, trivial⟩ 1 rfl rfl rfl hS (AgreeR.refl _) (t_sat (fun _ h => h) (hK () trivial))
      · -- 2
        rintro _ S hF hS D hp K hK
        try dsimp only at hF ⊢
        have s0 := hp 0 rfl
        have s1 := hp 1 rfl
        refine d_need (small := [(7, (.int .i64 x)), (8, (.slice bl n cl))]) ⟨look_row rfl 0 rfl s0, look_row rfl 1 rfl s1, trivial⟩ ?_
        refine tc rfl (en_fn Tryd.call27 rfl) (tthere_ok x) ?_
        rintro _ _ ⟨rfl, rfl⟩
        rw [show thB x n = true from hh1]
        exact d_closes ⟨look_row rfl 0 rfl s0, look_row rfl 1 rfl s1, trivial⟩ 2 rfl rfl rfl hS (AgreeR.refl _) (t_sat (fun _ h => h) (hK () trivial))
      · -- 3
        rintro _ S hF hS D hp K hK
        try dsimp only at hF ⊢
        have s2 := hp 2 rfl
        refine d_need (small := [(9, (.bool true))]) ⟨look_row rfl 2 rfl s2, trivial⟩ ?_
        refine tp rfl (lv_move rfl) ?_
        exact d_closes ⟨look_row rfl 2 rfl s2, trivial⟩ 3 rfl rfl rfl hS (AgreeR.refl _) (t_sat (fun _ h => h) (hK () trivial))
      · -- 4
        rintro _ S hF hS D hp K hK
        try dsimp only at hF ⊢
        have s3 := hp 3 rfl
        refine d_need (small := [(2, (.pointer (some ⟨c2, 0, none⟩))), (10, (.bool true))]) ⟨look_b rfl rfl, look_row rfl 3 rfl s3, trivial⟩ ?_
        refine t_guard rfl rfl ?_
        refine tp rfl (lv_load Tryd.isAgg26 rfl (Gives.cons h2)) ?_
        exact d_closes ⟨look_b rfl rfl, look_row rfl 3 rfl s3, trivial⟩ 4 rfl rfl rfl hS (AgreeR.refl _) (t_sat (fun _ h => h) (hK () trivial))
      · -- 5
        rintro _ S hF hS D hp K hK
        try dsimp only at hF ⊢
        have s3 := hp 3 rfl
        refine d_need (small := [(3, (.pointer (some ⟨c3, 0, none⟩))), (10, (.bool true))]) ⟨look_b rfl rfl, look_row rfl 3 rfl s3, trivial⟩ ?_
        refine t_guard rfl rfl ?_
        refine tp rfl (lv_load Tryd.isAgg22 rfl (Gives.cons h3)) ?_
        exact d_closes ⟨look_b rfl rfl, look_row rfl 3 rfl s3, trivial⟩ 5 rfl rfl rfl hS (AgreeR.refl _) (t_sat (fun _ h => h) (hK () trivial))
      · -- 6
        rintro _ S hF hS D hp K hK
        try dsimp only at hF ⊢
        have s3 := hp 3 rfl
        refine d_need (small := [(4, (.pointer (some ⟨c4, 0, none⟩))), (10, (.bool true))]) ⟨look_b rfl rfl, look_row rfl 3 rfl s3, trivial⟩ ?_
        refine t_guard rfl rfl ?_
        refine tp rfl (lv_load Tryd.isAgg3 rfl (Gives.cons h4)) ?_
        exact d_closes ⟨look_b rfl rfl, look_row rfl 3 rfl s3, trivial⟩ 6 rfl rfl rfl hS (AgreeR.refl _) (t_sat (fun _ h => h) (hK () trivial))
      · -- 7
        rintro _ S hF hS D hp K hK
        try dsimp only at hF ⊢
        have s3 := hp 3 rfl
        have s5 := hp 5 rfl
        have s6 := hp 6 rfl
        refine d_need (small := [(10, (.bool true)), (12, (.slice bq m cr)), (13, (.int .i64 ((k : Nat) : Int)))]) ⟨look_row rfl 3 rfl s3, look_row rfl 5 rfl s5, look_row rfl 6 rfl s6, trivial⟩ ?_
        refine t_guard rfl rfl ?_
        refine tp rfl (lv_indexAddr (k' := k) Tryd.underlying22 Tryd.sizeOf3 rfl rfl okr (by omega) (by omega) (by omega)) ?_
        exact d_closes ⟨look_row rfl 3 rfl s3, look_row rfl 5 rfl s5, look_row rfl 6 rfl s6, trivial⟩ 7 rfl rfl rfl hS (AgreeR.refl _) (t_sat (fun _ h => h) (hK () trivial))
      · -- 8
        rintro _ S hF hS D hp K hK
        try dsimp only at hF ⊢
        have s3 := hp 3 rfl
        have s7 := hp 7 rfl
        refine d_need (small := [(10, (.bool true)), (14, (.pointer (some (ad bq k))))]) ⟨look_row rfl 3 rfl s3, look_row rfl 7 rfl s7, trivial⟩ ?_
        refine t_guard rfl rfl ?_
        refine tp rfl (lv_load Tryd.isAgg3 rfl (Rd.gives (Rd.cons hr) (ints_get (by first | omega | (simp; omega))))) ?_
        exact d_closes ⟨look_row rfl 3 rfl s3, look_row rfl 7 rfl s7, trivial⟩ 8 rfl rfl rfl hS (AgreeR.refl _) (t_sat (fun _ h => h) (hK () trivial))
      · -- 9
        rintro _ S hF hS D hp K hK
        try dsimp only at hF ⊢
        have s3 := hp 3 rfl
        refine d_need (small := [(0, (.int .i64 x)), (10, (.bool true))]) ⟨look_b rfl rfl, look_row rfl 3 rfl s3, trivial⟩ ?_
        refine t_guard rfl rfl ?_
        refine tp rfl (lv_move rfl) ?_
        exact d_closes ⟨look_b rfl rfl, look_row rfl 3 rfl s3, trivial⟩ 9 rfl rfl rfl hS (AgreeR.refl _) (t_sat (fun _ h => h) (hK () trivial))
      · -- 10
        rintro _ S hF hS D hp K hK
        try dsimp only at hF ⊢
        have s3 := hp 3 rfl
        have s4 := hp 4 rfl
        have s8 := hp 8 rfl
        have s9 := hp 9 rfl
        refine d_need (small := [(10, (.bool true)), (11, (.pointer (some ⟨g, 0, none⟩))), (15, (.int .i64 ((rs).getD k 0))), (16, (.int .i64 x))]) ⟨look_row rfl 3 rfl s3, look_row rfl 4 rfl s4, look_row rfl 8 rfl s8, look_row rfl 9 rfl s9, trivial⟩ ?_
        refine t_guard rfl rfl ?_
        refine tc rfl (en_fn Tryd.call20 rfl) (reaches_ok (N := N) (es := E) ((rs).getD k 0) x hT) ?_
        rintro _ _ ⟨rfl, rfl⟩
        exact d_closes ⟨look_row rfl 3 rfl s3, look_row rfl 4 rfl s4, look_row rfl 8 rfl s8, look_row rfl 9 rfl s9, trivial⟩ 10 rfl rfl rfl hS (AgreeR.refl _) (t_sat (fun _ h => h) (hK () trivial))
      · -- 11
        rintro _ S hF hS D hp K hK
        try dsimp only at hF ⊢
        have s3 := hp 3 rfl
        have s10 := hp 10 rfl
        refine d_need (small := [(10, (.bool true)), (17, (.bool (reachB N E ((rs).getD k 0) x)))]) ⟨look_row rfl 3 rfl s3, look_row rfl 10 rfl s10, trivial⟩ ?_
        refine tp rfl (lv_pick_t rfl rfl) ?_
        exact d_closes ⟨look_row rfl 3 rfl s3, look_row rfl 10 rfl s10, trivial⟩ 11 rfl rfl rfl hS (AgreeR.refl _) (t_sat (fun _ h => h) (hK () trivial))
      · -- 12
        rintro _ S hF hS D hp K hK
        try dsimp only at hF ⊢
        have s11 := hp 11 rfl
        refine d_need (small := [(18, (.bool (reachB N E ((rs).getD k 0) x)))]) ⟨look_row rfl 11 rfl s11, trivial⟩ ?_
        refine tp rfl (lv_assign rfl) ?_
        exact d_closes ⟨look_row rfl 11 rfl s11, trivial⟩ 12 rfl rfl rfl hS (AgreeR.refl _) (t_sat (fun _ h => h) (hK () trivial))
    · -- behind
      rintro _ hF
      try dsimp only at hF ⊢
      refine t_weak (E' := [(0, (.int .i64 x)), (1, (.pointer (some ⟨c1, 0, none⟩))), (2, (.pointer (some ⟨c2, 0, none⟩))), (3, (.pointer (some ⟨c3, 0, none⟩))), (4, (.pointer (some ⟨c4, 0, none⟩))), (6, (.bool (reachB N E ((rs).getD k 0) x)))]) ⟨rfl, rfl, rfl, rfl, rfl, rfl, trivial⟩ ?_
      refine q_then_n (hK2 _ _ ?_)
      refine c_ret ?_
      refine q_ret rfl rfl ?_
      exact ⟨by simp [*], rfl⟩

theorem indexFunc_n {R : List HP} {p : Int → Bool} {f n : Nat} {caps : List Value} {bx : Option Addr} {cx : Nat} (xs : List Int) (hn : xs.length = n) (hf : (∀ args w, (callFunc f args).run Tryd.prog w = .ok (.enter f args) w) ∧ ∀ x ∈ xs, Ok Tryd.prog f ([.int .i64 x] ++ caps) R (fun v M => v = .bool (p x) ∧ M = R)) (hx : Rd R bx (ints .i64 xs)) (okx : SlOk bx n) (lx : n ≤ 4611686018427387904) :
    Ok Tryd.prog 30 [.slice bx n cx, .func (.func f) #[] caps.toArray] R (fun v M => v = .int .i64 (idxF p xs) ∧ M = R) := by subst hn; exact indexFunc_ok xs hf hx okx lx

theorem wants_ok {R : List HP} {g N : Nat} {E : Es} {bx bl bi bq : Option Addr} {cx cl ci cr nt n ni m m1 : Nat} (tl : List Int) (es : List (Int × Int)) (is rs : List Int) (htn : tl.length = nt) (hn : n ≤ es.length) (hi : ni ≤ is.length) (hm : m ≤ rs.length) (hm1 : m1 = min ni m) (hx : Rd R bx (ints .i64 tl)) (hl : Rd R bl (pairs es)) (hs : Rd R bi (ints .i64 is)) (hr : Rd R bq (ints .i64 rs)) (okt : SlOk bx nt) (okl : SlOk bl n) (oki : SlOk bi ni) (okr : SlOk bq m) (lt : nt ≤ 1000000) (li : ni ≤ 1000000) (hci : ni ≤ ci) (hT : Tab R) :
    Ok Tryd.prog 17 [(.pointer (some ⟨g, 0, none⟩)), (.slice bx nt cx), (.slice bl n cl), (.slice bi ni ci), (.slice bq m cr)] ((GraphO g N E) :: R)
      (fun v M => ∃ b1 d1 b2 d2, SlOk b1 (wantN n N E es tl is rs m1).1.length ∧ (wantN n N E es tl is rs m1).1.length ≤ d1 ∧ SlOk b2 (wantN n N E es tl is rs m1).2.length ∧ (wantN n N E es tl is rs m1).2.length ≤ d2 ∧ v = .tuple #[.slice b1 (wantN n N E es tl is rs m1).1.length d1, .slice b2 (wantN n N E es tl is rs m1).2.length d2] ∧ M = SlV 46 2 (.slice b1 (wantN n N E es tl is rs m1).1.length d1) (wantN n N E es tl is rs m1).1.length (pairs (wantN n N E es tl is rs m1).1) :: SlV 3 1 (.slice b2 (wantN n N E es tl is rs m1).2.length d2) (wantN n N E es tl is rs m1).2.length (ints .i64 (wantN n N E es tl is rs m1).2) :: GraphO g N E :: R) := by
  refine ok_of (N := 55) Tryd.func17 rfl rfl rfl (fun W => ?_)
  refine c_seq (fun K1 hK1 => ?_)
  refine c_region ?_
  refine tm rfl (mv_box rfl rfl) ?_
  rintro _ _ ⟨b1, rfl, rfl⟩
  refine tm rfl (mv_box rfl rfl) ?_
  rintro _ _ ⟨b2, rfl, rfl⟩
  refine tm rfl (mv_box rfl rfl) ?_
  rintro _ _ ⟨b3, rfl, rfl⟩
  refine tp rfl (lv_assign rfl) ?_
  refine tp rfl (lv_assign rfl) ?_
  refine t_done ?_
  refine q_then_n (hK1 _ _ ?_)
  refine c_seq (fun K2 hK2 => ?_)
  refine c_seq (fun K3 hK3 => ?_)
  refine c_region ?_
  refine tp rfl (lv_move rfl) ?_
  refine tp rfl (lv_move rfl) ?_
  refine tp rfl (lv_len Tryd.underlying22 rfl rfl) ?_
  refine tp rfl (lv_load Tryd.isAgg22 rfl (gives_blk (.head _) rfl)) ?_
  refine tp rfl (lv_len Tryd.underlying22 rfl rfl) ?_
  refine tp rfl (lv_min (c := ((m1 : Nat) : Int)) rfl rfl (by omega)) ?_
  refine tp rfl (lv_slice (l := 0) (h := m1) (m := ci) (v := (.slice bi m1 ci)) Tryd.underlying22 Tryd.sizeOf3 rfl rfl rfl rfl (.inr ⟨rfl, rfl⟩) (.inl ⟨_, _, rfl, (by omega), (by omega), (by omega)⟩) (.inr ⟨rfl, rfl⟩) (by simp) (by rw [sbase_zero]; rfl)) ?_
  refine tp rfl (lv_len Tryd.underlying22 rfl rfl) ?_
  refine tp rfl (lv_move rfl) ?_
  refine t_done ?_
  refine q_then_n (hK3 _ _ ?_)
  refine c_block ?_
  refine t_sat (fun _ h => sat_nilsl 3 1 h) ?_
  refine t_sat (fun _ h => sat_nilsl 46 2 h) ?_
  refine c_loop (γ := (Nat) × (List (Int × Int)) × (List Int) × (Option Addr) × (Nat) × (Option Addr) × (Nat)) (fun (k, ps, qs, bv, d1, bw, d2) => k ≤ m1 ∧ wantN n N E es tl is rs k = (ps, qs) ∧ SlOk bv ps.length ∧ ps.length ≤ d1 ∧ SlOk bw qs.length ∧ qs.length ≤ d2) (fun (k, ps, qs, bv, d1, bw, d2) => [(0, (.pointer (some ⟨g, 0, none⟩))), (1, (.slice bx nt cx)), (2, (.slice bl n cl)), (3, (.slice bi ni ci)), (4, (.slice bq m cr)), (5, (.pointer (some ⟨b1, 0, none⟩))), (7, (.pointer (some ⟨b2, 0, none⟩))), (9, (.pointer (some ⟨b3, 0, none⟩))), (10, (.slice bv ps.length d1)), (11, (.slice bw qs.length d2)), (22, (.slice bi m1 ci)), (23, (.int .i64 ((m1 : Nat) : Int))), (24, (.int .i64 ((k : Nat) : Int)))]) (fun (k, ps, qs, bv, d1, bw, d2) => (SlV 46 2 (.slice bv ps.length d1) ps.length (pairs ps)) :: (SlV 3 1 (.slice bw qs.length d2) qs.length (ints .i64 qs)) :: (Blk b3 [(.slice bq m cr)] 22) :: (Blk b2 [(.slice bl n cl)] 24) :: (Blk b1 [(.pointer (some ⟨g, 0, none⟩))] 26) :: (GraphO g N E) :: R) (fun (k, ps, qs, bv, d1, bw, d2) => m1 - k) (0, [], [], none, 0, none, 0) ⟨by omega, rfl, slok_none, Nat.le_refl _, slok_none, Nat.le_refl _⟩ ⟨rfl, rfl, rfl, rfl, rfl, rfl, rfl, rfl, rfl, rfl, rfl, rfl, rfl, trivial⟩ (fun _ h => h) ?_
  rintro ⟨k, ps, qs, bv, d1, bw, d2⟩ K4 hF hK4
  try dsimp only at hF hK4 ⊢
  obtain ⟨hk, hb, hok1, hle1, hok2, hle2⟩ := hF
  have hwl := wantN_len n N E es tl is rs k
  rw [hb] at hwl
  dsimp only at hwl
  have hjb := wantJ_lt n N E tl (rs.getD k 0)
  refine c_seq (fun K5 hK5 => ?_)
  refine c_region ?_
  by_cases h4 : ((k : Nat) : Int) < ((m1 : Nat) : Int)
  · -- yes
    refine tp rfl (lv_lss rfl rfl (decide_eq_true h4)) ?_
    refine t_done ?_
    refine q_then_n (hK5 _ _ ?_)
    refine c_seq (fun K6 hK6 => ?_)
    refine c_true rfl ?_
    refine c_skip ?_
    refine q_then_n (hK6 _ _ ?_)
    refine c_seq (fun K7 hK7 => ?_)
    refine c_block ?_
    refine c_seq (fun K8 hK8 => ?_)
    refine c_region ?_
    refine tp rfl (lv_move rfl) ?_
    refine tp rfl (lv_indexAddr (k' := k) Tryd.underlying22 Tryd.sizeOf3 rfl rfl (fun hz => oki (by omega)) (by omega) (by omega) (by omega)) ?_
    refine tp rfl (lv_load Tryd.isAgg3 rfl (Rd.gives (Rd.cons (Rd.cons (Rd.cons (Rd.cons (Rd.cons (Rd.cons hs)))))) (ints_get (by first | omega | (simp; omega))))) ?_
    refine tm rfl (mv_alloc Tryd.zeroValue3 rfl) ?_
    rintro _ _ ⟨b5, rfl, rfl⟩
    refine ts (sv_blk Tryd.sizeOf3 rfl rfl rfl (Nat.le_of_ble_eq_true rfl) rfl) ?_
    refine tp rfl (lv_assign rfl) ?_
    refine t_done ?_
    refine q_then_n (hK8 _ _ ?_)
    refine c_seq (fun K9 hK9 => ?_)
    refine c_region ?_
    have hkm : k < m := by omega
    refine tp rfl (lv_move rfl) ?_
    refine tp rfl (lv_makeFunc rfl) ?_
    refine t_f6 ?_
    refine tc rfl (en_fn Tryd.call30 rfl) (indexFunc_n (p := fun x => thB x n && reachB N E (rs.getD k 0) x) tl htn ⟨Tryd.call31, fun x _ => wants1_ok x rs hkm hm (Rd.cons (Rd.cons (Rd.cons (Rd.cons (Rd.cons (Rd.cons hr)))))) okr (gives_blk (.tail _ (.tail _ (.tail _ (.tail _ (.head _))))) rfl) (gives_blk (.tail _ (.tail _ (.tail _ (.tail _ (.tail _ (.head _)))))) rfl) (gives_blk (.tail _ (.tail _ (.tail _ (.head _)))) rfl) (gives_blk (.head _) rfl) (Tab.cons (Tab.cons (Tab.cons (Tab.cons (Tab.cons (Tab.cons hT))))))⟩ (Rd.cons (Rd.cons (Rd.cons (Rd.cons (Rd.cons (Rd.cons (Rd.cons hx))))))) okt (by omega)) ?_
    rintro _ _ ⟨rfl, rfl⟩
    rw [show idxF (fun x => thB x n && reachB N E (rs.getD k 0) x) tl = wantJ n N E tl (rs.getD k 0) from rfl]
    refine tp rfl (lv_assign rfl) ?_
    refine t_done ?_
    refine q_then_n (hK9 _ _ ?_)
    refine c_seq (fun K10 hK10 => ?_)
    refine c_region ?_
    refine tp rfl (lv_move rfl) ?_
    by_cases hj : (wantJ n N E tl (rs.getD k 0)) ≥ 0
    · -- yes
      refine tp rfl (lv_geq rfl rfl (decide_eq_true hj)) ?_
      refine t_done ?_
      refine q_then_n (hK10 _ _ ?_)
      refine c_true rfl ?_
      refine c_seq (fun K11 hK11 => ?_)
      refine c_region ?_
      refine tp rfl (lv_move rfl) ?_
      refine tp rfl (lv_move rfl) ?_
      refine tp rfl (lv_indexAddr (k' := (wantJ n N E tl (rs.getD k 0)).toNat) Tryd.underlying22 Tryd.sizeOf3 rfl rfl okt (by omega) (by omega) (by omega)) ?_
      refine tp rfl (lv_load Tryd.isAgg3 rfl (Rd.gives (Rd.cons (Rd.cons (Rd.cons (Rd.cons (Rd.cons (Rd.cons (Rd.cons hx))))))) (ints_get (by first | omega | (simp; omega))))) ?_
      refine tp rfl (lv_assign rfl) ?_
      refine t_done ?_
      refine q_then_n (hK11 _ _ ?_)
      refine c_region ?_
      have hth := thB_t (wantJ_th hj)
      refine tp rfl (lv_move rfl) ?_
      refine tp rfl (lv_move rfl) ?_
      refine tp rfl (lv_load Tryd.isAgg24 rfl (gives_blk (.tail _ (.tail _ (.tail _ (.tail _ (.tail _ (.head _)))))) rfl)) ?_
      refine tp rfl (lv_move rfl) ?_
      refine tp rfl (lv_indexAddr (k' := (((tl).getD ((wantJ n N E tl (rs.getD k 0)).toNat) 0).toNat) * 2) Tryd.underlying24 Tryd.sizeOf51 rfl rfl okl (by omega) (by omega) (by omega)) ?_
      refine tp rfl (lv_fieldAddr_ad (o' := (((tl).getD ((wantJ n N E tl (rs.getD k 0)).toNat) 0).toNat) * 2 + 1) Tryd.underlying51 rfl Tryd.sizeOf3 rfl rfl) ?_
      refine tp rfl (lv_load Tryd.isAgg3 rfl (Rd.gives (Rd.cons (Rd.cons (Rd.cons (Rd.cons (Rd.cons (Rd.cons (Rd.cons hl))))))) (pairs_get1 (by first | omega | (simp; omega))))) ?_
      refine tp rfl (lv_build (cs := [(.int .i64 ((is).getD k 0)), (.int .i64 (((es).getD (((tl).getD ((wantJ n N E tl (rs.getD k 0)).toNat) 0).toNat) (0, 0)).2))]) (pl := [(0, 1), (1, 1)]) Tryd.underlying46 Tryd.zeroValue46 (fun _ => by simp) rfl rfl) ?_
      refine tm rfl (mv_buildSlice (cs := [(.int .i64 ((is).getD k 0)), (.int .i64 (((es).getD (((tl).getD ((wantJ n N E tl (rs.getD k 0)).toNat) 0).toNat) (0, 0)).2))]) Tryd.underlying38 Tryd.sizeOf46 Tryd.zeroValue46 (by decide) rfl rfl rfl rfl) ?_
      rintro _ _ ⟨bs6, cp7, hok8, hle9, rfl, rfl⟩
      refine t_f3 ?_
      refine tm rfl (mv_append (i := Tryd.t46) Tryd.underlying38 Tryd.type46 rfl rfl rfl (by decide) rfl rfl hok8 (by first | (simp; done) | (simp; omega)) (rd_sl (.tail _ (.head _))) (by simp [Value.oneCell']) (by rw [show Tryd.t46.bytes = 16 from rfl]; omega)) ?_
      rintro _ _ ⟨bs10, cp11, hok12, hle13, rfl, rfl⟩
      rw [show pairs ps ++ [(.int .i64 ((is).getD k 0)), (.int .i64 (((es).getD (((tl).getD ((wantJ n N E tl (rs.getD k 0)).toNat) 0).toNat) (0, 0)).2))] = pairs (ps ++ [((is).getD k 0, ((es).getD (((tl).getD ((wantJ n N E tl (rs.getD k 0)).toNat) 0).toNat) (0, 0)).2)]) from pairs_snoc _ _ _]
      rw [show ps.length + 1 = (ps ++ [(is.getD k 0, (es.getD (tl.getD (wantJ n N E tl (rs.getD k 0)).toNat 0).toNat (0, 0)).2)]).length from by simp] at hok12 hle13 ⊢
      refine tp rfl (lv_move rfl) ?_
      refine tp rfl (lv_move rfl) ?_
      refine tm rfl (mv_buildSlice (cs := [(.int .i64 ((tl).getD ((wantJ n N E tl (rs.getD k 0)).toNat) 0))]) Tryd.underlying22 Tryd.sizeOf3 Tryd.zeroValue3 (by decide) rfl rfl rfl rfl) ?_
      rintro _ _ ⟨bs14, cp15, hok16, hle17, rfl, rfl⟩
      refine t_f5 ?_
      refine tm rfl (mv_append (i := Tryd.t3) Tryd.underlying22 Tryd.type3 rfl rfl rfl (by decide) rfl rfl hok16 (by first | (simp; done) | (simp; omega)) (rd_sl (.tail _ (.head _))) (by simp [Value.oneCell']) (by rw [show Tryd.t3.bytes = 8 from rfl]; omega)) ?_
      rintro _ _ ⟨bs18, cp19, hok20, hle21, rfl, rfl⟩
      rw [show ints .i64 qs ++ [(.int .i64 ((tl).getD ((wantJ n N E tl (rs.getD k 0)).toNat) 0))] = ints .i64 (qs ++ [(tl).getD ((wantJ n N E tl (rs.getD k 0)).toNat) 0]) from ints_snoc _ _ _]
      rw [show qs.length + 1 = (qs ++ [tl.getD (wantJ n N E tl (rs.getD k 0)).toNat 0]).length from by simp] at hok20 hle21 ⊢
      refine tp rfl (lv_assign rfl) ?_
      refine tp rfl (lv_assign rfl) ?_
      refine t_done ?_
      refine q_in_n ?_
      refine q_then_n (hK7 _ _ ?_)
      refine c_region ?_
      refine tp rfl (lv_add (c := ((k + 1 : Nat) : Int)) rfl rfl (wr_i64_succ (by omega))) ?_
      refine tp rfl (lv_move rfl) ?_
      refine t_done ?_
      refine q_then_n ?_
      refine t_f1 ?_
      refine t_drop ?_
      refine t_f2 ?_
      refine t_drop ?_
      refine t_f3 ?_
      refine t_drop ?_
      refine t_f2 ?_
      refine t_f5 ?_
      refine t_f5 ?_
      refine t_f5 ?_
      refine t_f4 ?_
      refine t_f5 ?_
      exact t_weak (by exact ⟨rfl, rfl, rfl, rfl, rfl, rfl, rfl, rfl, rfl, rfl, rfl, rfl, rfl, trivial⟩) ((hK4 (k + 1, ps ++ [((is).getD k 0, ((es).getD (((tl).getD ((wantJ n N E tl (rs.getD k 0)).toNat) 0).toNat) (0, 0)).2)], qs ++ [(tl).getD ((wantJ n N E tl (rs.getD k 0)).toNat) 0], bs10, cp11, bs18, cp19) ⟨by omega, want_add hb hj, hok12, hle13, hok20, hle21⟩ (by omega)))
    · -- no
      refine tp rfl (lv_geq rfl rfl (decide_eq_false hj)) ?_
      refine t_done ?_
      refine q_then_n (hK10 _ _ ?_)
      refine c_false rfl ?_
      refine c_skip ?_
      refine q_in_n ?_
      refine q_then_n (hK7 _ _ ?_)
      refine c_region ?_
      refine tp rfl (lv_add (c := ((k + 1 : Nat) : Int)) rfl rfl (wr_i64_succ (by omega))) ?_
      refine tp rfl (lv_move rfl) ?_
      refine t_done ?_
      refine q_then_n ?_
      refine t_f1 ?_
      refine t_drop ?_
      refine t_f5 ?_
      refine t_f5 ?_
      refine t_f5 ?_
      refine t_f5 ?_
      refine t_f5 ?_
      exact t_weak (by exact ⟨rfl, rfl, rfl, rfl, rfl, rfl, rfl, rfl, rfl, rfl, rfl, rfl, rfl, trivial⟩) ((hK4 (k + 1, ps, qs, bv, d1, bw, d2) ⟨by omega, want_no hb hj, hok1, hle1, hok2, hle2⟩ (by omega)))
  · -- no
    refine tp rfl (lv_lss rfl rfl (decide_eq_false h4)) ?_
    refine t_done ?_
    refine q_then_n (hK5 _ _ ?_)
    refine c_seq (fun K6 hK6 => ?_)
    refine c_false rfl ?_
    refine c_exit ?_
    refine q_then_x ?_
    refine q_then_x ?_
    refine q_in_x ?_
    refine q_then_n (hK2 _ _ ?_)
    refine c_seq (fun K7 hK7 => ?_)
    refine c_region ?_
    refine tp rfl (lv_move rfl) ?_
    refine tp rfl (lv_move rfl) ?_
    refine tp rfl (lv_assign rfl) ?_
    refine tp rfl (lv_assign rfl) ?_
    refine t_done ?_
    refine q_then_n (hK7 _ _ ?_)
    refine c_ret ?_
    refine t_f2 ?_
    refine t_drop ?_
    refine t_f2 ?_
    refine t_drop ?_
    refine t_f2 ?_
    refine t_drop ?_
    refine q_ret2 rfl rfl rfl ?_
    have e : k = m1 := by omega
    subst e
    rw [hb]
    exact ⟨bv, d1, bw, d2, hok1, hle1, hok2, hle2, rfl, rfl⟩
end Go.Proofs.YtfoiopbjomaclaaDoor
