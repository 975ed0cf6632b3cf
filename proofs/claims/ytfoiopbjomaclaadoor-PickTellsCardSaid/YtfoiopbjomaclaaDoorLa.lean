/- The laws' own helpers: ints, shown. -/
import Derived.Test.YtfoiopbjomaclaaDoorPd
set_option maxRecDepth 100000
set_option linter.unusedVariables false
set_option linter.unusedSimpArgs false
namespace Go.Proofs.YtfoiopbjomaclaaDoor
open Go Go.Proofs Sp
theorem ints_ok {R : List HP} {bx bb : Option Addr} {cx cy : Nat} (xs ys : List Int) (hx : Rd R bx (ints .i64 xs)) (hy : Rd R bb (ints .i64 ys)) (okx : SlOk bx xs.length) (oky : SlOk bb ys.length) (lx : xs.length ≤ 4611686018427387904) (ly : ys.length ≤ 4611686018427387904) :
    Ok Tryd.prog 19 [(.slice bx xs.length cx), (.slice bb ys.length cy)] R
      (fun v M => v = .bool (eqI xs ys) ∧ M = R) := by
  refine ok_of (N := 26) Tryd.func19 rfl rfl rfl (fun W => ?_)
  refine c_seq (fun K1 hK1 => ?_)
  refine c_region ?_
  refine tp rfl (lv_assign rfl) ?_
  refine t_done ?_
  refine q_then_n (hK1 _ _ ?_)
  refine c_seq (fun K2 hK2 => ?_)
  refine c_seq (fun K3 hK3 => ?_)
  refine c_region ?_
  refine tp rfl (lv_move rfl) ?_
  refine tp rfl (lv_len Tryd.underlying22 rfl rfl) ?_
  refine tp rfl (lv_move rfl) ?_
  refine tp rfl (lv_len Tryd.underlying22 rfl rfl) ?_
  by_cases hlen : ((xs.length : Nat) : Int) = ((ys.length : Nat) : Int)
  · -- yes
    refine tp rfl (lv_neq rfl rfl (bne_eq_false_iff_eq.2 hlen)) ?_
    refine t_done ?_
    refine q_then_n (hK3 _ _ ?_)
    refine c_false rfl ?_
    refine c_skip ?_
    refine q_then_n (hK2 _ _ ?_)
    refine c_seq (fun K4 hK4 => ?_)
    refine c_seq (fun K5 hK5 => ?_)
    refine c_region ?_
    refine tp rfl (lv_assign rfl) ?_
    refine t_done ?_
    refine q_then_n (hK5 _ _ ?_)
    refine c_block ?_
    refine c_loop (γ := (Nat)) (fun (k : Nat) => k ≤ xs.length ∧ (∀ j, j < k → xs.getD j 0 = ys.getD j 0)) (fun (k : Nat) => [(0, (.slice bx xs.length cx)), (1, (.slice bb ys.length cy)), (5, (.int .i64 ((k : Nat) : Int))), (10, (.bool false))]) (fun (k : Nat) => R) (fun (k : Nat) => xs.length - k) (0) ⟨by omega, fun j hj => by omega⟩ ⟨rfl, rfl, rfl, rfl, trivial⟩ (fun _ h => h) ?_
    rintro k K6 hF hK6
    try dsimp only at hF hK6 ⊢
    obtain ⟨hk, hall⟩ := hF
    refine c_seq (fun K7 hK7 => ?_)
    refine c_seq (fun K8 hK8 => ?_)
    refine c_region ?_
    refine tp rfl (lv_move rfl) ?_
    refine tp rfl (lv_move rfl) ?_
    refine tp rfl (lv_len Tryd.underlying22 rfl rfl) ?_
    by_cases h1 : ((k : Nat) : Int) < ((xs.length : Nat) : Int)
    · -- yes
      refine tp rfl (lv_lss rfl rfl (decide_eq_true h1)) ?_
      refine t_done ?_
      refine q_then_n (hK8 _ _ ?_)
      refine c_true rfl ?_
      refine c_skip ?_
      refine q_then_n (hK7 _ _ ?_)
      refine c_seq (fun K9 hK9 => ?_)
      refine c_block ?_
      refine c_seq (fun K10 hK10 => ?_)
      by_cases h2 : ((xs).getD k 0) = ((ys).getD k 0)
      · -- yes
        refine c_draw (γ := Unit) (n := 9) Tryd.mixed rfl rfl (fun _ S => True) (fun _ => [(0, 17, (.slice bx xs.length cx)), (1, 18, (.int .i64 ((k : Nat) : Int))), (2, 19, (.pointer (some (ad bx k)))), (3, 20, (.int .i64 ((xs).getD k 0))), (4, 21, (.slice bb ys.length cy)), (5, 22, (.int .i64 ((k : Nat) : Int))), (6, 23, (.pointer (some (ad bb k)))), (7, 24, (.int .i64 ((ys).getD k 0))), (8, 25, (.bool false))]) (fun _ S => R) (()) trivial (fun _ h => h) (fun _ _ h => h) ?_ ?_
        · -- steps
         refine ⟨?_, ?_, ?_, ?_, ?_, ?_, ?_, ?_, ?_, trivial⟩
         · -- 0
          rintro _ S hF hS D hp K hK
          try dsimp only at hF ⊢
          refine d_need (small := [(0, (.slice bx xs.length cx))]) ⟨look_b rfl rfl, trivial⟩ ?_
          refine tp rfl (lv_move rfl) ?_
          exact d_closes ⟨look_b rfl rfl, trivial⟩ 0 rfl rfl rfl hS (AgreeR.refl _) (t_sat (fun _ h => h) (hK () trivial))
         · -- 1
          rintro _ S hF hS D hp K hK
          try dsimp only at hF ⊢
          refine d_need (small := [(5, (.int .i64 ((k : Nat) : Int)))]) ⟨look_b rfl rfl, trivial⟩ ?_
          refine tp rfl (lv_move rfl) ?_
          exact d_closes ⟨look_b rfl rfl, trivial⟩ 1 rfl rfl rfl hS (AgreeR.refl _) (t_sat (fun _ h => h) (hK () trivial))
         · -- 2
          rintro _ S hF hS D hp K hK
          try dsimp only at hF ⊢
          have s0 := hp 0 rfl
          have s1 := hp 1 rfl
          refine d_need (small := [(17, (.slice bx xs.length cx)), (18, (.int .i64 ((k : Nat) : Int)))]) ⟨look_row rfl 0 rfl s0, look_row rfl 1 rfl s1, trivial⟩ ?_
          refine tp rfl (lv_indexAddr (k' := k) Tryd.underlying22 Tryd.sizeOf3 rfl rfl okx (by omega) (by omega) (by omega)) ?_
          exact d_closes ⟨look_row rfl 0 rfl s0, look_row rfl 1 rfl s1, trivial⟩ 2 rfl rfl rfl hS (AgreeR.refl _) (t_sat (fun _ h => h) (hK () trivial))
         · -- 3
          rintro _ S hF hS D hp K hK
          try dsimp only at hF ⊢
          have s2 := hp 2 rfl
          refine d_need (small := [(19, (.pointer (some (ad bx k))))]) ⟨look_row rfl 2 rfl s2, trivial⟩ ?_
          refine tp rfl (lv_load Tryd.isAgg3 rfl (Rd.gives hx (ints_get (by first | omega | (simp; omega))))) ?_
          exact d_closes ⟨look_row rfl 2 rfl s2, trivial⟩ 3 rfl rfl rfl hS (AgreeR.refl _) (t_sat (fun _ h => h) (hK () trivial))
         · -- 4
          rintro _ S hF hS D hp K hK
          try dsimp only at hF ⊢
          refine d_need (small := [(1, (.slice bb ys.length cy))]) ⟨look_b rfl rfl, trivial⟩ ?_
          refine tp rfl (lv_move rfl) ?_
          exact d_closes ⟨look_b rfl rfl, trivial⟩ 4 rfl rfl rfl hS (AgreeR.refl _) (t_sat (fun _ h => h) (hK () trivial))
         · -- 5
          rintro _ S hF hS D hp K hK
          try dsimp only at hF ⊢
          refine d_need (small := [(5, (.int .i64 ((k : Nat) : Int)))]) ⟨look_b rfl rfl, trivial⟩ ?_
          refine tp rfl (lv_move rfl) ?_
          exact d_closes ⟨look_b rfl rfl, trivial⟩ 5 rfl rfl rfl hS (AgreeR.refl _) (t_sat (fun _ h => h) (hK () trivial))
         · -- 6
          rintro _ S hF hS D hp K hK
          try dsimp only at hF ⊢
          have s4 := hp 4 rfl
          have s5 := hp 5 rfl
          refine d_need (small := [(21, (.slice bb ys.length cy)), (22, (.int .i64 ((k : Nat) : Int)))]) ⟨look_row rfl 4 rfl s4, look_row rfl 5 rfl s5, trivial⟩ ?_
          refine tp rfl (lv_indexAddr (k' := k) Tryd.underlying22 Tryd.sizeOf3 rfl rfl oky (by omega) (by omega) (by omega)) ?_
          exact d_closes ⟨look_row rfl 4 rfl s4, look_row rfl 5 rfl s5, trivial⟩ 6 rfl rfl rfl hS (AgreeR.refl _) (t_sat (fun _ h => h) (hK () trivial))
         · -- 7
          rintro _ S hF hS D hp K hK
          try dsimp only at hF ⊢
          have s6 := hp 6 rfl
          refine d_need (small := [(23, (.pointer (some (ad bb k))))]) ⟨look_row rfl 6 rfl s6, trivial⟩ ?_
          refine tp rfl (lv_load Tryd.isAgg3 rfl (Rd.gives hy (ints_get (by first | omega | (simp; omega))))) ?_
          exact d_closes ⟨look_row rfl 6 rfl s6, trivial⟩ 7 rfl rfl rfl hS (AgreeR.refl _) (t_sat (fun _ h => h) (hK () trivial))
         · -- 8
          rintro _ S hF hS D hp K hK
          try dsimp only at hF ⊢
          have s3 := hp 3 rfl
          have s7 := hp 7 rfl
          refine d_need (small := [(20, (.int .i64 ((xs).getD k 0))), (24, (.int .i64 ((ys).getD k 0)))]) ⟨look_row rfl 3 rfl s3, look_row rfl 7 rfl s7, trivial⟩ ?_
          refine tp rfl (lv_neq rfl rfl (bne_eq_false_iff_eq.2 h2)) ?_
          exact d_closes ⟨look_row rfl 3 rfl s3, look_row rfl 7 rfl s7, trivial⟩ 8 rfl rfl rfl hS (AgreeR.refl _) (t_sat (fun _ h => h) (hK () trivial))
        · -- behind
         rintro _ hF
         try dsimp only at hF ⊢
         refine t_weak (E' := [(0, (.slice bx xs.length cx)), (1, (.slice bb ys.length cy)), (5, (.int .i64 ((k : Nat) : Int))), (10, (.bool false)), (14, (.bool true)), (25, (.bool false))]) ⟨rfl, rfl, rfl, rfl, rfl, rfl, trivial⟩ ?_
         refine q_then_n (hK10 _ _ ?_)
         refine c_false rfl ?_
         refine c_skip ?_
         refine q_in_n ?_
         refine q_then_n (hK9 _ _ ?_)
         refine c_region ?_
         refine tp rfl (lv_move rfl) ?_
         refine tp rfl (lv_add (c := ((k + 1 : Nat) : Int)) rfl rfl (wr_i64_succ (by omega))) ?_
         refine tp rfl (lv_assign rfl) ?_
         refine t_done ?_
         refine q_then_n ?_
         exact t_weak (by exact ⟨rfl, rfl, rfl, rfl, trivial⟩) ((hK6 (k + 1) ⟨by omega, all_succ hall ‹_›⟩ (by omega)))
      · -- no
        refine c_draw (γ := Unit) (n := 9) Tryd.mixed rfl rfl (fun _ S => True) (fun _ => [(0, 17, (.slice bx xs.length cx)), (1, 18, (.int .i64 ((k : Nat) : Int))), (2, 19, (.pointer (some (ad bx k)))), (3, 20, (.int .i64 ((xs).getD k 0))), (4, 21, (.slice bb ys.length cy)), (5, 22, (.int .i64 ((k : Nat) : Int))), (6, 23, (.pointer (some (ad bb k)))), (7, 24, (.int .i64 ((ys).getD k 0))), (8, 25, (.bool true))]) (fun _ S => R) (()) trivial (fun _ h => h) (fun _ _ h => h) ?_ ?_
        · -- steps
         refine ⟨?_, ?_, ?_, ?_, ?_, ?_, ?_, ?_, ?_, trivial⟩
         · -- 0
          rintro _ S hF hS D hp K hK
          try dsimp only at hF ⊢
          refine d_need (small := [(0, (.slice bx xs.length cx))]) ⟨look_b rfl rfl, trivial⟩ ?_
          refine tp rfl (lv_move rfl) ?_
          exact d_closes ⟨look_b rfl rfl, trivial⟩ 0 rfl rfl rfl hS (AgreeR.refl _) (t_sat (fun _ h => h) (hK () trivial))
         · -- 1
          rintro _ S hF hS D hp K hK
          try dsimp only at hF ⊢
          refine d_need (small := [(5, (.int .i64 ((k : Nat) : Int)))]) ⟨look_b rfl rfl, trivial⟩ ?_
          refine tp rfl (lv_move rfl) ?_
          exact d_closes ⟨look_b rfl rfl, trivial⟩ 1 rfl rfl rfl hS (AgreeR.refl _) (t_sat (fun _ h => h) (hK () trivial))
         · -- 2
          rintro _ S hF hS D hp K hK
          try dsimp only at hF ⊢
          have s0 := hp 0 rfl
          have s1 := hp 1 rfl
          refine d_need (small := [(17, (.slice bx xs.length cx)), (18, (.int .i64 ((k : Nat) : Int)))]) ⟨look_row rfl 0 rfl s0, look_row rfl 1 rfl s1, trivial⟩ ?_
          refine tp rfl (lv_indexAddr (k' := k) Tryd.underlying22 Tryd.sizeOf3 rfl rfl okx (by omega) (by omega) (by omega)) ?_
          exact d_closes ⟨look_row rfl 0 rfl s0, look_row rfl 1 rfl s1, trivial⟩ 2 rfl rfl rfl hS (AgreeR.refl _) (t_sat (fun _ h => h) (hK () trivial))
         · -- 3
          rintro _ S hF hS D hp K hK
          try dsimp only at hF ⊢
          have s2 := hp 2 rfl
          refine d_need (small := [(19, (.pointer (some (ad bx k))))]) ⟨look_row rfl 2 rfl s2, trivial⟩ ?_
          refine tp rfl (lv_load Tryd.isAgg3 rfl (Rd.gives hx (ints_get (by first | omega | (simp; omega))))) ?_
          exact d_closes ⟨look_row rfl 2 rfl s2, trivial⟩ 3 rfl rfl rfl hS (AgreeR.refl _) (t_sat (fun _ h => h) (hK () trivial))
         · -- 4
          rintro _ S hF hS D hp K hK
          try dsimp only at hF ⊢
          refine d_need (small := [(1, (.slice bb ys.length cy))]) ⟨look_b rfl rfl, trivial⟩ ?_
          refine tp rfl (lv_move rfl) ?_
          exact d_closes ⟨look_b rfl rfl, trivial⟩ 4 rfl rfl rfl hS (AgreeR.refl _) (t_sat (fun _ h => h) (hK () trivial))
         · -- 5
          rintro _ S hF hS D hp K hK
          try dsimp only at hF ⊢
          refine d_need (small := [(5, (.int .i64 ((k : Nat) : Int)))]) ⟨look_b rfl rfl, trivial⟩ ?_
          refine tp rfl (lv_move rfl) ?_
          exact d_closes ⟨look_b rfl rfl, trivial⟩ 5 rfl rfl rfl hS (AgreeR.refl _) (t_sat (fun _ h => h) (hK () trivial))
         · -- 6
          rintro _ S hF hS D hp K hK
          try dsimp only at hF ⊢
          have s4 := hp 4 rfl
          have s5 := hp 5 rfl
          refine d_need (small := [(21, (.slice bb ys.length cy)), (22, (.int .i64 ((k : Nat) : Int)))]) ⟨look_row rfl 4 rfl s4, look_row rfl 5 rfl s5, trivial⟩ ?_
          refine tp rfl (lv_indexAddr (k' := k) Tryd.underlying22 Tryd.sizeOf3 rfl rfl oky (by omega) (by omega) (by omega)) ?_
          exact d_closes ⟨look_row rfl 4 rfl s4, look_row rfl 5 rfl s5, trivial⟩ 6 rfl rfl rfl hS (AgreeR.refl _) (t_sat (fun _ h => h) (hK () trivial))
         · -- 7
          rintro _ S hF hS D hp K hK
          try dsimp only at hF ⊢
          have s6 := hp 6 rfl
          refine d_need (small := [(23, (.pointer (some (ad bb k))))]) ⟨look_row rfl 6 rfl s6, trivial⟩ ?_
          refine tp rfl (lv_load Tryd.isAgg3 rfl (Rd.gives hy (ints_get (by first | omega | (simp; omega))))) ?_
          exact d_closes ⟨look_row rfl 6 rfl s6, trivial⟩ 7 rfl rfl rfl hS (AgreeR.refl _) (t_sat (fun _ h => h) (hK () trivial))
         · -- 8
          rintro _ S hF hS D hp K hK
          try dsimp only at hF ⊢
          have s3 := hp 3 rfl
          have s7 := hp 7 rfl
          refine d_need (small := [(20, (.int .i64 ((xs).getD k 0))), (24, (.int .i64 ((ys).getD k 0)))]) ⟨look_row rfl 3 rfl s3, look_row rfl 7 rfl s7, trivial⟩ ?_
          refine tp rfl (lv_neq rfl rfl (bne_iff_ne.2 h2)) ?_
          exact d_closes ⟨look_row rfl 3 rfl s3, look_row rfl 7 rfl s7, trivial⟩ 8 rfl rfl rfl hS (AgreeR.refl _) (t_sat (fun _ h => h) (hK () trivial))
        · -- behind
         rintro _ hF
         try dsimp only at hF ⊢
         refine t_weak (E' := [(0, (.slice bx xs.length cx)), (1, (.slice bb ys.length cy)), (5, (.int .i64 ((k : Nat) : Int))), (10, (.bool false)), (14, (.bool true)), (25, (.bool true))]) ⟨rfl, rfl, rfl, rfl, rfl, rfl, trivial⟩ ?_
         refine q_then_n (hK10 _ _ ?_)
         refine c_true rfl ?_
         refine c_seq (fun K11 hK11 => ?_)
         refine c_region ?_
         refine tp rfl (lv_assign rfl) ?_
         refine t_done ?_
         refine q_then_n (hK11 _ _ ?_)
         refine c_ret ?_
         refine q_in_r ?_
         refine q_then_r ?_
         refine q_then_r ?_
         refine q_in_r ?_
         refine q_then_r ?_
         refine q_ret rfl rfl ?_
         exact ⟨by first | rw [eqI_len (by omega)] | rw [eqI_at (j := k) (by omega) (by omega) ‹_›], rfl⟩
    · -- no
      refine tp rfl (lv_lss rfl rfl (decide_eq_false h1)) ?_
      refine t_done ?_
      refine q_then_n (hK8 _ _ ?_)
      refine c_false rfl ?_
      refine c_exit ?_
      refine q_then_x ?_
      refine q_then_x ?_
      refine q_in_x ?_
      refine q_then_n (hK4 _ _ ?_)
      refine c_seq (fun K9 hK9 => ?_)
      refine c_region ?_
      refine tp rfl (lv_assign rfl) ?_
      refine t_done ?_
      refine q_then_n (hK9 _ _ ?_)
      refine c_ret ?_
      refine q_ret rfl rfl ?_
      exact ⟨by rw [eqI_true (by omega) (fun j hj => hall j (by omega))], rfl⟩
  · -- no
    refine tp rfl (lv_neq rfl rfl (bne_iff_ne.2 hlen)) ?_
    refine t_done ?_
    refine q_then_n (hK3 _ _ ?_)
    refine c_true rfl ?_
    refine c_seq (fun K4 hK4 => ?_)
    refine c_region ?_
    refine tp rfl (lv_assign rfl) ?_
    refine t_done ?_
    refine q_then_n (hK4 _ _ ?_)
    refine c_ret ?_
    refine q_then_r ?_
    refine q_ret rfl rfl ?_
    exact ⟨by first | rw [eqI_len (by omega)] | rw [eqI_at (j := k) (by omega) (by omega) ‹_›], rfl⟩

theorem ints_n {R : List HP} {bx bb : Option Addr} {cx cy : Nat} (xs ys : List Int) {n m : Nat} (hn : xs.length = n) (hm : ys.length = m) (hx : Rd R bx (ints .i64 xs)) (hy : Rd R bb (ints .i64 ys)) (okx : SlOk bx n) (oky : SlOk bb m) (lx : n ≤ 4611686018427387904) (ly : m ≤ 4611686018427387904) :
    Ok Tryd.prog 19 [.slice bx n cx, .slice bb m cy] R (fun v M => v = .bool (eqI xs ys) ∧ M = R) := by subst hn; subst hm; exact ints_ok xs ys hx hy okx oky lx ly

theorem shown_ok {R : List HP} (hT : Tab R) :
    Ok Tryd.prog 8 [] R
      (fun v M => v = .bool true ∧ M = R) := by
  refine ok_of (N := 85) Tryd.func8 rfl rfl rfl (fun W => ?_)
  refine c_seq (fun K1 hK1 => ?_)
  refine c_region ?_
  refine tp rfl (lv_assign rfl) ?_
  refine t_done ?_
  refine q_then_n (hK1 _ _ ?_)
  refine c_seq (fun K2 hK2 => ?_)
  refine c_region ?_
  refine tc rfl (en_fn Tryd.call9 rfl) (new_ok 3) ?_
  rintro _ _ ⟨p1, rfl, rfl⟩
  rw [show clampN 3 = 3 from rfl]
  refine tp rfl (lv_assign rfl) ?_
  refine t_done ?_
  refine q_then_n (hK2 _ _ ?_)
  refine c_seq (fun K3 hK3 => ?_)
  refine c_seq (fun K4 hK4 => ?_)
  refine c_region ?_
  refine tp rfl (lv_move rfl) ?_
  refine tp rfl (lv_eqnil Tryd.underlying26 rfl rfl) ?_
  refine t_done ?_
  refine q_then_n (hK4 _ _ ?_)
  refine c_false rfl ?_
  refine c_skip ?_
  refine q_then_n (hK3 _ _ ?_)
  refine c_seq (fun K5 hK5 => ?_)
  refine c_region ?_
  refine tp rfl (lv_move rfl) ?_
  refine tc rfl (en_fn Tryd.call11 rfl) (add_ok (N := 3) (es := ([] : Es)) 0 1) ?_
  rintro _ _ ⟨rfl, rfl⟩
  rw [show isNew 3 ([] : Es) 0 1 = true from rfl]
  rw [show addErr 3 0 1 = 0 from rfl]
  rw [show addE 3 ([] : Es) 0 1 = ([(0, 1)] : Es) from rfl]
  refine t_done ?_
  refine q_then_n (hK5 _ _ ?_)
  refine c_seq (fun K6 hK6 => ?_)
  refine c_region ?_
  refine tm rfl (mv_buildSlice (cs := [(.int .i64 1), (.int .i64 1), (.int .i64 2), (.int .i64 1)]) Tryd.underlying22 Tryd.sizeOf3 Tryd.zeroValue3 (by decide) rfl rfl rfl rfl) ?_
  rintro _ _ ⟨bs2, cp3, hok4, hle5, rfl, rfl⟩
  refine tm rfl (mv_buildSlice (cs := [(.int .i64 3), (.int .i64 5), (.int .i64 7), (.int .i64 5)]) Tryd.underlying22 Tryd.sizeOf3 Tryd.zeroValue3 (by decide) rfl rfl rfl rfl) ?_
  rintro _ _ ⟨bs6, cp7, hok8, hle9, rfl, rfl⟩
  refine tc rfl (en_fn Tryd.call13 rfl) (best_ok (m := 4) [1, 1, 2, 1] [3, 5, 7, 5] (by first | rfl | omega | (simp; done) | (simp; omega)) (by first | rfl | omega | (simp; done) | (simp; omega)) (by first | rfl | omega | (simp; done) | (simp; omega)) (rd_sl (.tail _ (.head _))) (rd_sl (.head _)) hok4 hok8 (by first | omega | (simp; omega) | (simp; done)) (by first | omega | (simp; omega) | (simp; done)) (by first | omega | (simp; omega))) ?_
  rintro _ _ ⟨bs10, cp11, hok12, hle13, rfl, rfl⟩
  try rw [show (bestN [1, 1, 2, 1] [3, 5, 7, 5] 4).1 = 5 from (by decide)] at hok12
  try rw [show (bestN [1, 1, 2, 1] [3, 5, 7, 5] 4).1 = 5 from (by decide)] at hle13
  rw [show (bestN [1, 1, 2, 1] [3, 5, 7, 5] 4).1 = 5 from (by decide)]
  try rw [show (bestN [1, 1, 2, 1] [3, 5, 7, 5] 4).2 = [1, 3] from (by decide)] at hok12
  try rw [show (bestN [1, 1, 2, 1] [3, 5, 7, 5] 4).2 = [1, 3] from (by decide)] at hle13
  rw [show (bestN [1, 1, 2, 1] [3, 5, 7, 5] 4).2 = [1, 3] from (by decide)]
  refine tp rfl (lv_move rfl) ?_
  refine tp rfl (lv_extract rfl rfl) ?_
  refine tp rfl (lv_extract rfl rfl) ?_
  refine tp rfl (lv_assign rfl) ?_
  refine tp rfl (lv_assign rfl) ?_
  refine t_done ?_
  refine q_then_n (hK6 _ _ ?_)
  refine c_seq (fun K7 hK7 => ?_)
  refine c_region ?_
  refine tm rfl (mv_buildSlice (cs := [(.int .i64 1)]) Tryd.underlying22 Tryd.sizeOf3 Tryd.zeroValue3 (by decide) rfl rfl rfl rfl) ?_
  rintro _ _ ⟨bs14, cp15, hok16, hle17, rfl, rfl⟩
  refine tm rfl (mv_buildSlice (cs := [(.int .i64 (-1))]) Tryd.underlying22 Tryd.sizeOf3 Tryd.zeroValue3 (by decide) rfl rfl rfl rfl) ?_
  rintro _ _ ⟨bs18, cp19, hok20, hle21, rfl, rfl⟩
  refine tc rfl (en_fn Tryd.call13 rfl) (best_ok (m := 1) [1] [(-1)] (by first | rfl | omega | (simp; done) | (simp; omega)) (by first | rfl | omega | (simp; done) | (simp; omega)) (by first | rfl | omega | (simp; done) | (simp; omega)) (rd_sl (.tail _ (.head _))) (rd_sl (.head _)) hok16 hok20 (by first | omega | (simp; omega) | (simp; done)) (by first | omega | (simp; omega) | (simp; done)) (by first | omega | (simp; omega))) ?_
  rintro _ _ ⟨bs22, cp23, hok24, hle25, rfl, rfl⟩
  try rw [show (bestN [1] [(-1)] 1).1 = (-1) from (by decide)] at hok24
  try rw [show (bestN [1] [(-1)] 1).1 = (-1) from (by decide)] at hle25
  rw [show (bestN [1] [(-1)] 1).1 = (-1) from (by decide)]
  try rw [show (bestN [1] [(-1)] 1).2 = [] from (by decide)] at hok24
  try rw [show (bestN [1] [(-1)] 1).2 = [] from (by decide)] at hle25
  rw [show (bestN [1] [(-1)] 1).2 = [] from (by decide)]
  refine tp rfl (lv_move rfl) ?_
  refine tp rfl (lv_extract rfl rfl) ?_
  refine tp rfl (lv_extract rfl rfl) ?_
  refine tp rfl (lv_assign rfl) ?_
  refine tp rfl (lv_assign rfl) ?_
  refine t_done ?_
  refine q_then_n (hK7 _ _ ?_)
  refine c_seq (fun K8 hK8 => ?_)
  refine c_region ?_
  refine tp rfl (lv_build (cs := [(.int .i64 4), (.int .i64 9)]) (pl := [(0, 1), (1, 1)]) Tryd.underlying51 Tryd.zeroValue51 (fun _ => by simp) rfl rfl) ?_
  refine tp rfl (lv_build (cs := [(.int .i64 2), (.int .i64 8)]) (pl := [(0, 1), (1, 1)]) Tryd.underlying51 Tryd.zeroValue51 (fun _ => by simp) rfl rfl) ?_
  refine tm rfl (mv_buildSlice (cs := [(.int .i64 4), (.int .i64 9), (.int .i64 2), (.int .i64 8)]) Tryd.underlying24 Tryd.sizeOf51 Tryd.zeroValue51 (by decide) rfl rfl rfl rfl) ?_
  rintro _ _ ⟨bs26, cp27, hok28, hle29, rfl, rfl⟩
  refine tp rfl (lv_assign rfl) ?_
  refine t_done ?_
  refine q_then_n (hK8 _ _ ?_)
  refine c_seq (fun K9 hK9 => ?_)
  refine c_region ?_
  refine tp rfl (lv_move rfl) ?_
  refine tm rfl (mv_buildSlice (cs := [(.int .i64 1), (.int .i64 0)]) Tryd.underlying22 Tryd.sizeOf3 Tryd.zeroValue3 (by decide) rfl rfl rfl rfl) ?_
  rintro _ _ ⟨bs30, cp31, hok32, hle33, rfl, rfl⟩
  refine tp rfl (lv_move rfl) ?_
  refine tm rfl (mv_buildSlice (cs := [(.int .i64 6), (.int .i64 7)]) Tryd.underlying22 Tryd.sizeOf3 Tryd.zeroValue3 (by decide) rfl rfl rfl rfl) ?_
  rintro _ _ ⟨bs34, cp35, hok36, hle37, rfl, rfl⟩
  refine tm rfl (mv_buildSlice (cs := [(.int .i64 0), (.int .i64 2)]) Tryd.underlying22 Tryd.sizeOf3 Tryd.zeroValue3 (by decide) rfl rfl rfl rfl) ?_
  rintro _ _ ⟨bs38, cp39, hok40, hle41, rfl, rfl⟩
  refine t_perm (perm_front [_, _, _, _, _, _, _, _, _, _] _) ?_
  refine tc rfl (en_fn Tryd.call17 rfl) (wants_ok (n := 2) (m1 := 2) [1, 0] [(4, 9), (2, 8)] [6, 7] [0, 2] (by first | rfl | omega | (simp; done) | (simp; omega)) (by first | rfl | omega | (simp; done) | (simp; omega)) (by first | rfl | omega | (simp; done) | (simp; omega)) (by first | rfl | omega | (simp; done) | (simp; omega)) (by first | rfl | omega | (simp; done) | (simp; omega)) (rd_sl (.tail _ (.tail _ (.head _)))) (rd_sl (.tail _ (.tail _ (.tail _ (.head _))))) (rd_sl (.tail _ (.head _))) (rd_sl (.head _)) hok32 hok28 hok36 hok40 (by first | omega | (simp; omega) | (simp; done)) (by first | omega | (simp; omega) | (simp; done)) (by first | omega | (simp; omega)) (Tab.cons (Tab.cons (Tab.cons (Tab.cons (Tab.cons (Tab.cons (Tab.cons (Tab.cons (Tab.cons (Tab.cons hT))))))))))) ?_
  rintro _ _ ⟨bs42, cp43, bs44, cp45, hok46, hle47, hok48, hle49, rfl, rfl⟩
  try rw [show (wantN 2 3 ([(0, 1)] : Es) [(4, 9), (2, 8)] [1, 0] [6, 7] [0, 2] 2).1 = [(6, 8)] from shown_w1] at hok46
  try rw [show (wantN 2 3 ([(0, 1)] : Es) [(4, 9), (2, 8)] [1, 0] [6, 7] [0, 2] 2).1 = [(6, 8)] from shown_w1] at hle47
  try rw [show (wantN 2 3 ([(0, 1)] : Es) [(4, 9), (2, 8)] [1, 0] [6, 7] [0, 2] 2).1 = [(6, 8)] from shown_w1] at hok48
  try rw [show (wantN 2 3 ([(0, 1)] : Es) [(4, 9), (2, 8)] [1, 0] [6, 7] [0, 2] 2).1 = [(6, 8)] from shown_w1] at hle49
  rw [show (wantN 2 3 ([(0, 1)] : Es) [(4, 9), (2, 8)] [1, 0] [6, 7] [0, 2] 2).1 = [(6, 8)] from shown_w1]
  try rw [show (wantN 2 3 ([(0, 1)] : Es) [(4, 9), (2, 8)] [1, 0] [6, 7] [0, 2] 2).2 = [1] from shown_w2] at hok46
  try rw [show (wantN 2 3 ([(0, 1)] : Es) [(4, 9), (2, 8)] [1, 0] [6, 7] [0, 2] 2).2 = [1] from shown_w2] at hle47
  try rw [show (wantN 2 3 ([(0, 1)] : Es) [(4, 9), (2, 8)] [1, 0] [6, 7] [0, 2] 2).2 = [1] from shown_w2] at hok48
  try rw [show (wantN 2 3 ([(0, 1)] : Es) [(4, 9), (2, 8)] [1, 0] [6, 7] [0, 2] 2).2 = [1] from shown_w2] at hle49
  rw [show (wantN 2 3 ([(0, 1)] : Es) [(4, 9), (2, 8)] [1, 0] [6, 7] [0, 2] 2).2 = [1] from shown_w2]
  refine tp rfl (lv_move rfl) ?_
  refine tp rfl (lv_extract rfl rfl) ?_
  refine tp rfl (lv_extract rfl rfl) ?_
  refine tp rfl (lv_assign rfl) ?_
  refine tp rfl (lv_assign rfl) ?_
  refine t_done ?_
  refine q_then_n (hK9 _ _ ?_)
  refine c_seq (fun K10 hK10 => ?_)
  refine c_region ?_
  refine tp rfl (lv_move rfl) ?_
  refine tp rfl (lv_eql (r := true) rfl rfl (by decide)) ?_
  refine tp rfl (lv_move rfl) ?_
  refine t_guard rfl rfl ?_
  refine tp rfl (lv_move rfl) ?_
  refine t_guard rfl rfl ?_
  refine tm rfl (mv_buildSlice (cs := [(.int .i64 1), (.int .i64 3)]) Tryd.underlying22 Tryd.sizeOf3 Tryd.zeroValue3 (by decide) rfl rfl rfl rfl) ?_
  rintro _ _ ⟨bs50, cp51, hok52, hle53, rfl, rfl⟩
  refine t_guard rfl rfl ?_
  refine tc rfl (en_fn Tryd.call19 rfl) (ints_ok [1, 3] [1, 3] (rd_sl (.tail _ (.tail _ (.tail _ (.tail _ (.tail _ (.tail _ (.tail _ (.tail _ (.tail _ (.tail _ (.tail _ (.head _))))))))))))) (rd_sl (.head _)) hok12 hok52 (by first | omega | (simp; omega) | (simp; done)) (by first | omega | (simp; omega) | (simp; done))) ?_
  rintro _ _ ⟨rfl, rfl⟩
  rw [eqI_refl]
  refine tp rfl (lv_pick_t rfl rfl) ?_
  refine tp rfl (lv_move rfl) ?_
  refine t_guard rfl rfl ?_
  refine tp rfl (lv_move rfl) ?_
  refine t_guard rfl rfl ?_
  refine tp rfl (lv_eql (r := true) rfl rfl (by decide)) ?_
  refine tp rfl (lv_pick_t rfl rfl) ?_
  refine tp rfl (lv_move rfl) ?_
  refine t_guard rfl rfl ?_
  refine tp rfl (lv_move rfl) ?_
  refine t_guard rfl rfl ?_
  refine tp rfl (lv_len Tryd.underlying22 rfl rfl) ?_
  refine t_guard rfl rfl ?_
  refine tp rfl (lv_eql rfl rfl (beq_iff_eq.2 rfl)) ?_
  refine tp rfl (lv_pick_t rfl rfl) ?_
  refine tp rfl (lv_move rfl) ?_
  refine t_guard rfl rfl ?_
  refine tm rfl (mv_buildSlice (cs := [(.int .i64 0), (.int .i64 1), (.int .i64 5)]) Tryd.underlying22 Tryd.sizeOf3 Tryd.zeroValue3 (by decide) rfl rfl rfl rfl) ?_
  rintro _ _ ⟨bs54, cp55, hok56, hle57, rfl, rfl⟩
  refine t_guard rfl rfl ?_
  refine tp rfl (lv_move rfl) ?_
  refine t_guard rfl rfl ?_
  refine tc rfl (en_fn Tryd.call15 rfl) (fits_n (n := 2) [0, 1, 5] [(4, 9), (2, 8)] 3 (by first | rfl | omega | (simp; done) | (simp; omega)) (by first | rfl | omega | (simp; done) | (simp; omega)) (rd_sl (.head _)) (rd_sl (.tail _ (.tail _ (.tail _ (.tail _ (.tail _ (.tail _ (.tail _ (.tail _ (.head _)))))))))) hok56 hok28 (by first | omega | (simp; omega) | (simp; done))) ?_
  rintro _ _ ⟨bs58, cp59, hok60, hle61, rfl, rfl⟩
  try rw [show [0, 1, 5].filter (fitB 2 [(4, 9), (2, 8)] 3) = [1] from (by decide)] at hok60
  try rw [show [0, 1, 5].filter (fitB 2 [(4, 9), (2, 8)] 3) = [1] from (by decide)] at hle61
  rw [show [0, 1, 5].filter (fitB 2 [(4, 9), (2, 8)] 3) = [1] from (by decide)]
  refine t_guard rfl rfl ?_
  refine tm rfl (mv_buildSlice (cs := [(.int .i64 1)]) Tryd.underlying22 Tryd.sizeOf3 Tryd.zeroValue3 (by decide) rfl rfl rfl rfl) ?_
  rintro _ _ ⟨bs62, cp63, hok64, hle65, rfl, rfl⟩
  refine t_guard rfl rfl ?_
  refine tc rfl (en_fn Tryd.call19 rfl) (ints_ok [1] [1] (rd_sl (.tail _ (.head _))) (rd_sl (.head _)) hok60 hok64 (by first | omega | (simp; omega) | (simp; done)) (by first | omega | (simp; omega) | (simp; done))) ?_
  rintro _ _ ⟨rfl, rfl⟩
  rw [eqI_refl]
  refine tp rfl (lv_pick_t rfl rfl) ?_
  refine tp rfl (lv_move rfl) ?_
  refine t_guard rfl rfl ?_
  refine tp rfl (lv_move rfl) ?_
  refine t_guard rfl rfl ?_
  refine tp rfl (lv_len Tryd.underlying38 rfl rfl) ?_
  refine t_guard rfl rfl ?_
  refine tp rfl (lv_eql rfl rfl (beq_iff_eq.2 rfl)) ?_
  refine tp rfl (lv_pick_t rfl rfl) ?_
  refine tp rfl (lv_move rfl) ?_
  refine t_guard rfl rfl ?_
  refine tp rfl (lv_move rfl) ?_
  refine t_guard rfl rfl ?_
  refine tp rfl (lv_indexAddr (k' := 0) Tryd.underlying38 Tryd.sizeOf46 rfl rfl hok46 (by omega) (by decide) (by omega)) ?_
  refine t_guard rfl rfl ?_
  refine tp rfl (lv_fieldAddr_ad (o' := 0) Tryd.underlying46 rfl Tryd.sizeOf3 rfl rfl) ?_
  refine t_guard rfl rfl ?_
  refine tp rfl (lv_load Tryd.isAgg3 rfl (gives_sl (.tail _ (.tail _ (.tail _ (.tail _ (.head _))))) rfl)) ?_
  refine t_guard rfl rfl ?_
  refine tp rfl (lv_eql rfl rfl (beq_iff_eq.2 rfl)) ?_
  refine tp rfl (lv_pick_t rfl rfl) ?_
  refine tp rfl (lv_move rfl) ?_
  refine t_guard rfl rfl ?_
  refine tp rfl (lv_move rfl) ?_
  refine t_guard rfl rfl ?_
  refine tp rfl (lv_indexAddr (k' := 0) Tryd.underlying38 Tryd.sizeOf46 rfl rfl hok46 (by omega) (by decide) (by omega)) ?_
  refine t_guard rfl rfl ?_
  refine tp rfl (lv_fieldAddr_ad (o' := 0 + 1) Tryd.underlying46 rfl Tryd.sizeOf3 rfl rfl) ?_
  refine t_guard rfl rfl ?_
  refine tp rfl (lv_load Tryd.isAgg3 rfl (gives_sl (.tail _ (.tail _ (.tail _ (.tail _ (.head _))))) rfl)) ?_
  refine t_guard rfl rfl ?_
  refine tp rfl (lv_eql rfl rfl (beq_iff_eq.2 rfl)) ?_
  refine tp rfl (lv_pick_t rfl rfl) ?_
  refine tp rfl (lv_move rfl) ?_
  refine t_guard rfl rfl ?_
  refine tp rfl (lv_move rfl) ?_
  refine t_guard rfl rfl ?_
  refine tm rfl (mv_buildSlice (cs := [(.int .i64 1)]) Tryd.underlying22 Tryd.sizeOf3 Tryd.zeroValue3 (by decide) rfl rfl rfl rfl) ?_
  rintro _ _ ⟨bs66, cp67, hok68, hle69, rfl, rfl⟩
  refine t_guard rfl rfl ?_
  refine tc rfl (en_fn Tryd.call19 rfl) (ints_ok [1] [1] (rd_sl (.tail _ (.tail _ (.tail _ (.tail _ (.tail _ (.tail _ (.head _)))))))) (rd_sl (.head _)) hok48 hok68 (by first | omega | (simp; omega) | (simp; done)) (by first | omega | (simp; omega) | (simp; done))) ?_
  rintro _ _ ⟨rfl, rfl⟩
  rw [eqI_refl]
  refine tp rfl (lv_pick_t rfl rfl) ?_
  refine tp rfl (lv_assign rfl) ?_
  refine t_done ?_
  refine q_then_n (hK10 _ _ ?_)
  refine c_ret ?_
  refine t_drop ?_
  refine t_drop ?_
  refine t_drop ?_
  refine t_drop ?_
  refine t_drop ?_
  refine t_drop ?_
  refine t_drop ?_
  refine t_drop ?_
  refine t_drop ?_
  refine t_drop ?_
  refine t_drop ?_
  refine t_drop ?_
  refine t_drop ?_
  refine t_drop ?_
  refine t_drop ?_
  refine t_drop ?_
  refine t_drop ?_
  refine t_drop ?_
  refine q_ret rfl rfl ?_
  exact ⟨rfl, rfl⟩
end Go.Proofs.YtfoiopbjomaclaaDoor
