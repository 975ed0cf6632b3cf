/- The laws' own helpers: ints, made, shown. -/
import Derived.Test.YtppgccafgfpkdaaDoorPb
import Derived.Test.YtppgccafgfpkdaaDoorPc
import Derived.Test.YtppgccafgfpkdaaDoorPd
set_option maxRecDepth 100000
set_option linter.unusedVariables false
set_option linter.unusedSimpArgs false
namespace Go.Proofs.YtppgccafgfpkdaaDoor
open Go Go.Proofs Sp
set_option maxHeartbeats 4000000 in
theorem ints_ok {R : List HP} {bx bb : Option Addr} {cx cy : Nat} (xs ys : List Int) (hx : Rd R bx (ints .i64 xs)) (hy : Rd R bb (ints .i64 ys)) (okx : SlOk bx xs.length) (oky : SlOk bb ys.length) (lx : xs.length ≤ 4611686018427387904) (ly : ys.length ≤ 4611686018427387904) :
    Ok Tryd.prog 15 [(.slice bx xs.length cx), (.slice bb ys.length cy)] R
      (fun v M => v = .bool (eqI xs ys) ∧ M = R) := by
  refine ok_of (N := 26) Tryd.func15 rfl rfl rfl (fun W => ?_)
  refine c_seq (fun K1 hK1 => ?_)
  refine c_region ?_
  refine tp rfl (lv_assign rfl) ?_
  refine t_done ?_
  refine q_then_n (hK1 _ _ ?_)
  refine c_seq (fun K2 hK2 => ?_)
  refine c_seq (fun K3 hK3 => ?_)
  refine c_region ?_
  refine tp rfl (lv_move rfl) ?_
  refine tp rfl (lv_len Tryd.underlying33 rfl rfl) ?_
  refine tp rfl (lv_move rfl) ?_
  refine tp rfl (lv_len Tryd.underlying33 rfl rfl) ?_
  by_cases hlen : ((xs.length : Nat) : Int) = ((ys.length : Nat) : Int)
  · -- yes
    refine tp rfl (lv_neq rfl rfl (bne_eq_false_iff_eq.2 hlen)) ?_
    refine t_done ?_
    refine q_then_n (hK3 _ _ ?_)
    refine c_false rfl ?_
    refine c_skip ?_
    refine q_then_n (hK2 _ _ ?_)
    refine c_seq (fun K4 hK4 => ?_)
    refine c_seq (fun K5 hK5 => ?_)
    refine c_region ?_
    refine tp rfl (lv_assign rfl) ?_
    refine t_done ?_
    refine q_then_n (hK5 _ _ ?_)
    refine c_block ?_
    refine c_loop (γ := (Nat)) (fun (k : Nat) => k ≤ xs.length ∧ (∀ j, j < k → xs.getD j 0 = ys.getD j 0)) (fun (k : Nat) => [(0, (.slice bx xs.length cx)), (1, (.slice bb ys.length cy)), (5, (.int .i64 ((k : Nat) : Int))), (10, (.bool false))]) (fun (k : Nat) => R) (fun (k : Nat) => xs.length - k) (0) ⟨by omega, fun j hj => by omega⟩ ⟨rfl, rfl, rfl, rfl, trivial⟩ (fun _ h => h) ?_
    rintro k K6 hF hK6
    try dsimp only at hF hK6 ⊢
    obtain ⟨hk, hall⟩ := hF
    refine c_seq (fun K7 hK7 => ?_)
    refine c_seq (fun K8 hK8 => ?_)
    refine c_region ?_
    refine tp rfl (lv_move rfl) ?_
    refine tp rfl (lv_move rfl) ?_
    refine tp rfl (lv_len Tryd.underlying33 rfl rfl) ?_
    by_cases h1 : ((k : Nat) : Int) < ((xs.length : Nat) : Int)
    · -- yes
      refine tp rfl (lv_lss rfl rfl (decide_eq_true h1)) ?_
      refine t_done ?_
      refine q_then_n (hK8 _ _ ?_)
      refine c_true rfl ?_
      refine c_skip ?_
      refine q_then_n (hK7 _ _ ?_)
      refine c_seq (fun K9 hK9 => ?_)
      refine c_block ?_
      refine c_seq (fun K10 hK10 => ?_)
      by_cases h2 : ((xs).getD k 0) = ((ys).getD k 0)
      · -- yes
        refine c_draw (γ := Unit) (n := 9) Tryd.mixed rfl rfl (fun _ S => True) (fun _ => [(0, 17, (.slice bx xs.length cx)), (1, 18, (.int .i64 ((k : Nat) : Int))), (2, 19, (.pointer (some (ad bx k)))), (3, 20, (.int .i64 ((xs).getD k 0))), (4, 21, (.slice bb ys.length cy)), (5, 22, (.int .i64 ((k : Nat) : Int))), (6, 23, (.pointer (some (ad bb k)))), (7, 24, (.int .i64 ((ys).getD k 0))), (8, 25, (.bool false))]) (fun _ S => R) (()) trivial (fun _ h => h) (fun _ _ h => h) ?_ ?_
        · -- steps
         refine ⟨?_, ?_, ?_, ?_, ?_, ?_, ?_, ?_, ?_, trivial⟩
         · -- 0
          rintro _ S hF hS D hp K hK
          try dsimp only at hF ⊢
          refine d_need (small := [(0, (.slice bx xs.length cx))]) ⟨look_b rfl rfl, trivial⟩ ?_
          refine tp rfl (lv_move rfl) ?_
          exact d_closes ⟨look_b rfl rfl, trivial⟩ 0 rfl rfl rfl hS (AgreeR.refl _) (t_sat (fun _ h => h) (hK () trivial))
         · -- 1
          rintro _ S hF hS D hp K hK
          try dsimp only at hF ⊢
          refine d_need (small := [(5, (.int .i64 ((k : Nat) : Int)))]) ⟨look_b rfl rfl, trivial⟩ ?_
          refine tp rfl (lv_move rfl) ?_
          exact d_closes ⟨look_b rfl rfl, trivial⟩ 1 rfl rfl rfl hS (AgreeR.refl _) (t_sat (fun _ h => h) (hK () trivial))
         · -- 2
          rintro _ S hF hS D hp K hK
          try dsimp only at hF ⊢
          have s0 := hp 0 rfl
          have s1 := hp 1 rfl
          refine d_need (small := [(17, (.slice bx xs.length cx)), (18, (.int .i64 ((k : Nat) : Int)))]) ⟨look_row rfl 0 rfl s0, look_row rfl 1 rfl s1, trivial⟩ ?_
          refine tp rfl (lv_indexAddr (k' := k) Tryd.underlying33 Tryd.sizeOf3 rfl rfl okx (by omega) (by omega) (by omega)) ?_
          exact d_closes ⟨look_row rfl 0 rfl s0, look_row rfl 1 rfl s1, trivial⟩ 2 rfl rfl rfl hS (AgreeR.refl _) (t_sat (fun _ h => h) (hK () trivial))
         · -- 3
          rintro _ S hF hS D hp K hK
          try dsimp only at hF ⊢
          have s2 := hp 2 rfl
          refine d_need (small := [(19, (.pointer (some (ad bx k))))]) ⟨look_row rfl 2 rfl s2, trivial⟩ ?_
          refine tp rfl (lv_load Tryd.isAgg3 rfl (Rd.gives hx (ints_get (by first | omega | (simp; omega))))) ?_
          exact d_closes ⟨look_row rfl 2 rfl s2, trivial⟩ 3 rfl rfl rfl hS (AgreeR.refl _) (t_sat (fun _ h => h) (hK () trivial))
         · -- 4
          rintro _ S hF hS D hp K hK
          try dsimp only at hF ⊢
          refine d_need (small := [(1, (.slice bb ys.length cy))]) ⟨look_b rfl rfl, trivial⟩ ?_
          refine tp rfl (lv_move rfl) ?_
          exact d_closes ⟨look_b rfl rfl, trivial⟩ 4 rfl rfl rfl hS (AgreeR.refl _) (t_sat (fun _ h => h) (hK () trivial))
         · -- 5
          rintro _ S hF hS D hp K hK
          try dsimp only at hF ⊢
          refine d_need (small := [(5, (.int .i64 ((k : Nat) : Int)))]) ⟨look_b rfl rfl, trivial⟩ ?_
          refine tp rfl (lv_move rfl) ?_
          exact d_closes ⟨look_b rfl rfl, trivial⟩ 5 rfl rfl rfl hS (AgreeR.refl _) (t_sat (fun _ h => h) (hK () trivial))
         · -- 6
          rintro _ S hF hS D hp K hK
          try dsimp only at hF ⊢
          have s4 := hp 4 rfl
          have s5 := hp 5 rfl
          refine d_need (small := [(21, (.slice bb ys.length cy)), (22, (.int .i64 ((k : Nat) : Int)))]) ⟨look_row rfl 4 rfl s4, look_row rfl 5 rfl s5, trivial⟩ ?_
          refine tp rfl (lv_indexAddr (k' := k) Tryd.underlying33 Tryd.sizeOf3 rfl rfl oky (by omega) (by omega) (by omega)) ?_
          exact d_closes ⟨look_row rfl 4 rfl s4, look_row rfl 5 rfl s5, trivial⟩ 6 rfl rfl rfl hS (AgreeR.refl _) (t_sat (fun _ h => h) (hK () trivial))
         · -- 7
          rintro _ S hF hS D hp K hK
          try dsimp only at hF ⊢
          have s6 := hp 6 rfl
          refine d_need (small := [(23, (.pointer (some (ad bb k))))]) ⟨look_row rfl 6 rfl s6, trivial⟩ ?_
          refine tp rfl (lv_load Tryd.isAgg3 rfl (Rd.gives hy (ints_get (by first | omega | (simp; omega))))) ?_
          exact d_closes ⟨look_row rfl 6 rfl s6, trivial⟩ 7 rfl rfl rfl hS (AgreeR.refl _) (t_sat (fun _ h => h) (hK () trivial))
         · -- 8
          rintro _ S hF hS D hp K hK
          try dsimp only at hF ⊢
          have s3 := hp 3 rfl
          have s7 := hp 7 rfl
          refine d_need (small := [(20, (.int .i64 ((xs).getD k 0))), (24, (.int .i64 ((ys).getD k 0)))]) ⟨look_row rfl 3 rfl s3, look_row rfl 7 rfl s7, trivial⟩ ?_
          refine tp rfl (lv_neq rfl rfl (bne_eq_false_iff_eq.2 h2)) ?_
          exact d_closes ⟨look_row rfl 3 rfl s3, look_row rfl 7 rfl s7, trivial⟩ 8 rfl rfl rfl hS (AgreeR.refl _) (t_sat (fun _ h => h) (hK () trivial))
        · -- behind
         rintro _ hF
         try dsimp only at hF ⊢
         refine t_weak (E' := [(0, (.slice bx xs.length cx)), (1, (.slice bb ys.length cy)), (5, (.int .i64 ((k : Nat) : Int))), (10, (.bool false)), (14, (.bool true)), (25, (.bool false))]) ⟨rfl, rfl, rfl, rfl, rfl, rfl, trivial⟩ ?_
         refine q_then_n (hK10 _ _ ?_)
         refine c_false rfl ?_
         refine c_skip ?_
         refine q_in_n ?_
         refine q_then_n (hK9 _ _ ?_)
         refine c_region ?_
         refine tp rfl (lv_move rfl) ?_
         refine tp rfl (lv_add (c := ((k + 1 : Nat) : Int)) rfl rfl (wr_i64_succ (by omega))) ?_
         refine tp rfl (lv_assign rfl) ?_
         refine t_done ?_
         refine q_then_n ?_
         exact t_weak (by exact ⟨rfl, rfl, rfl, rfl, trivial⟩) ((hK6 (k + 1) ⟨by omega, all_succ hall ‹_›⟩ (by omega)))
      · -- no
        refine c_draw (γ := Unit) (n := 9) Tryd.mixed rfl rfl (fun _ S => True) (fun _ => [(0, 17, (.slice bx xs.length cx)), (1, 18, (.int .i64 ((k : Nat) : Int))), (2, 19, (.pointer (some (ad bx k)))), (3, 20, (.int .i64 ((xs).getD k 0))), (4, 21, (.slice bb ys.length cy)), (5, 22, (.int .i64 ((k : Nat) : Int))), (6, 23, (.pointer (some (ad bb k)))), (7, 24, (.int .i64 ((ys).getD k 0))), (8, 25, (.bool true))]) (fun _ S => R) (()) trivial (fun _ h => h) (fun _ _ h => h) ?_ ?_
        · -- steps
         refine ⟨?_, ?_, ?_, ?_, ?_, ?_, ?_, ?_, ?_, trivial⟩
         · -- 0
          rintro _ S hF hS D hp K hK
          try dsimp only at hF ⊢
          refine d_need (small := [(0, (.slice bx xs.length cx))]) ⟨look_b rfl rfl, trivial⟩ ?_
          refine tp rfl (lv_move rfl) ?_
          exact d_closes ⟨look_b rfl rfl, trivial⟩ 0 rfl rfl rfl hS (AgreeR.refl _) (t_sat (fun _ h => h) (hK () trivial))
         · -- 1
          rintro _ S hF hS D hp K hK
          try dsimp only at hF ⊢
          refine d_need (small := [(5, (.int .i64 ((k : Nat) : Int)))]) ⟨look_b rfl rfl, trivial⟩ ?_
          refine tp rfl (lv_move rfl) ?_
          exact d_closes ⟨look_b rfl rfl, trivial⟩ 1 rfl rfl rfl hS (AgreeR.refl _) (t_sat (fun _ h => h) (hK () trivial))
         · -- 2
          rintro _ S hF hS D hp K hK
          try dsimp only at hF ⊢
          have s0 := hp 0 rfl
          have s1 := hp 1 rfl
          refine d_need (small := [(17, (.slice bx xs.length cx)), (18, (.int .i64 ((k : Nat) : Int)))]) ⟨look_row rfl 0 rfl s0, look_row rfl 1 rfl s1, trivial⟩ ?_
          refine tp rfl (lv_indexAddr (k' := k) Tryd.underlying33 Tryd.sizeOf3 rfl rfl okx (by omega) (by omega) (by omega)) ?_
          exact d_closes ⟨look_row rfl 0 rfl s0, look_row rfl 1 rfl s1, trivial⟩ 2 rfl rfl rfl hS (AgreeR.refl _) (t_sat (fun _ h => h) (hK () trivial))
         · -- 3
          rintro _ S hF hS D hp K hK
          try dsimp only at hF ⊢
          have s2 := hp 2 rfl
          refine d_need (small := [(19, (.pointer (some (ad bx k))))]) ⟨look_row rfl 2 rfl s2, trivial⟩ ?_
          refine tp rfl (lv_load Tryd.isAgg3 rfl (Rd.gives hx (ints_get (by first | omega | (simp; omega))))) ?_
          exact d_closes ⟨look_row rfl 2 rfl s2, trivial⟩ 3 rfl rfl rfl hS (AgreeR.refl _) (t_sat (fun _ h => h) (hK () trivial))
         · -- 4
          rintro _ S hF hS D hp K hK
          try dsimp only at hF ⊢
          refine d_need (small := [(1, (.slice bb ys.length cy))]) ⟨look_b rfl rfl, trivial⟩ ?_
          refine tp rfl (lv_move rfl) ?_
          exact d_closes ⟨look_b rfl rfl, trivial⟩ 4 rfl rfl rfl hS (AgreeR.refl _) (t_sat (fun _ h => h) (hK () trivial))
         · -- 5
          rintro _ S hF hS D hp K hK
          try dsimp only at hF ⊢
          refine d_need (small := [(5, (.int .i64 ((k : Nat) : Int)))]) ⟨look_b rfl rfl, trivial⟩ ?_
          refine tp rfl (lv_move rfl) ?_
          exact d_closes ⟨look_b rfl rfl, trivial⟩ 5 rfl rfl rfl hS (AgreeR.refl _) (t_sat (fun _ h => h) (hK () trivial))
         · -- 6
          rintro _ S hF hS D hp K hK
          try dsimp only at hF ⊢
          have s4 := hp 4 rfl
          have s5 := hp 5 rfl
          refine d_need (small := [(21, (.slice bb ys.length cy)), (22, (.int .i64 ((k : Nat) : Int)))]) ⟨look_row rfl 4 rfl s4, look_row rfl 5 rfl s5, trivial⟩ ?_
          refine tp rfl (lv_indexAddr (k' := k) Tryd.underlying33 Tryd.sizeOf3 rfl rfl oky (by omega) (by omega) (by omega)) ?_
          exact d_closes ⟨look_row rfl 4 rfl s4, look_row rfl 5 rfl s5, trivial⟩ 6 rfl rfl rfl hS (AgreeR.refl _) (t_sat (fun _ h => h) (hK () trivial))
         · -- 7
          rintro _ S hF hS D hp K hK
          try dsimp only at hF ⊢
          have s6 := hp 6 rfl
          refine d_need (small := [(23, (.pointer (some (ad bb k))))]) ⟨look_row rfl 6 rfl s6, trivial⟩ ?_
          refine tp rfl (lv_load Tryd.isAgg3 rfl (Rd.gives hy (ints_get (by first | omega | (simp; omega))))) ?_
          exact d_closes ⟨look_row rfl 6 rfl s6, trivial⟩ 7 rfl rfl rfl hS (AgreeR.refl _) (t_sat (fun _ h => h) (hK () trivial))
         · -- 8
          rintro _ S hF hS D hp K hK
          try dsimp only at hF ⊢
          have s3 := hp 3 rfl
          have s7 := hp 7 rfl
          refine d_need (small := [(20, (.int .i64 ((xs).getD k 0))), (24, (.int .i64 ((ys).getD k 0)))]) ⟨look_row rfl 3 rfl s3, look_row rfl 7 rfl s7, trivial⟩ ?_
          refine tp rfl (lv_neq rfl rfl (bne_iff_ne.2 h2)) ?_
          exact d_closes ⟨look_row rfl 3 rfl s3, look_row rfl 7 rfl s7, trivial⟩ 8 rfl rfl rfl hS (AgreeR.refl _) (t_sat (fun _ h => h) (hK () trivial))
        · -- behind
         rintro _ hF
         try dsimp only at hF ⊢
         refine t_weak (E' := [(0, (.slice bx xs.length cx)), (1, (.slice bb ys.length cy)), (5, (.int .i64 ((k : Nat) : Int))), (10, (.bool false)), (14, (.bool true)), (25, (.bool true))]) ⟨rfl, rfl, rfl, rfl, rfl, rfl, trivial⟩ ?_
         refine q_then_n (hK10 _ _ ?_)
         refine c_true rfl ?_
         refine c_seq (fun K11 hK11 => ?_)
         refine c_region ?_
         refine tp rfl (lv_assign rfl) ?_
         refine t_done ?_
         refine q_then_n (hK11 _ _ ?_)
         refine c_ret ?_
         refine q_in_r ?_
         refine q_then_r ?_
         refine q_then_r ?_
         refine q_in_r ?_
         refine q_then_r ?_
         refine q_ret rfl rfl ?_
         exact ⟨by first | rw [eqI_len (by omega)] | rw [eqI_at (j := k) (by omega) (by omega) ‹_›], rfl⟩
    · -- no
      refine tp rfl (lv_lss rfl rfl (decide_eq_false h1)) ?_
      refine t_done ?_
      refine q_then_n (hK8 _ _ ?_)
      refine c_false rfl ?_
      refine c_exit ?_
      refine q_then_x ?_
      refine q_then_x ?_
      refine q_in_x ?_
      refine q_then_n (hK4 _ _ ?_)
      refine c_seq (fun K9 hK9 => ?_)
      refine c_region ?_
      refine tp rfl (lv_assign rfl) ?_
      refine t_done ?_
      refine q_then_n (hK9 _ _ ?_)
      refine c_ret ?_
      refine q_ret rfl rfl ?_
      exact ⟨by rw [eqI_true (by omega) (fun j hj => hall j (by omega))], rfl⟩
  · -- no
    refine tp rfl (lv_neq rfl rfl (bne_iff_ne.2 hlen)) ?_
    refine t_done ?_
    refine q_then_n (hK3 _ _ ?_)
    refine c_true rfl ?_
    refine c_seq (fun K4 hK4 => ?_)
    refine c_region ?_
    refine tp rfl (lv_assign rfl) ?_
    refine t_done ?_
    refine q_then_n (hK4 _ _ ?_)
    refine c_ret ?_
    refine q_then_r ?_
    refine q_ret rfl rfl ?_
    exact ⟨by first | rw [eqI_len (by omega)] | rw [eqI_at (j := k) (by omega) (by omega) ‹_›], rfl⟩

theorem ints_n {R : List HP} {bx bb : Option Addr} {cx cy : Nat} (xs ys : List Int) {n m : Nat} (hn : xs.length = n) (hm : ys.length = m) (hx : Rd R bx (ints .i64 xs)) (hy : Rd R bb (ints .i64 ys)) (okx : SlOk bx n) (oky : SlOk bb m) (lx : n ≤ 4611686018427387904) (ly : m ≤ 4611686018427387904) :
    Ok Tryd.prog 15 [.slice bx n cx, .slice bb m cy] R (fun v M => v = .bool (eqI xs ys) ∧ M = R) := by subst hn; subst hm; exact ints_ok xs ys hx hy okx oky lx ly

set_option maxHeartbeats 4000000 in
theorem made_ok {R : List HP} {bl : Option Addr} {cl : Nat} (n : Int) (es : List (Int × Int)) (hl : Rd R bl (pairs es)) (okl : SlOk bl es.length) (ll : es.length ≤ 9223372036854775807) :
    Ok Tryd.prog 10 [(.int .i64 n), (.slice bl es.length cl)] R
      (fun v M => ∃ p, v = .pointer (some ⟨p, 0, none⟩) ∧ M = GraphO p (clampN (min n 30)) (madeE (clampN (min n 30)) (es.take 100)) :: R) := by
  refine ok_of (N := 35) Tryd.func10 rfl rfl rfl (fun W => ?_)
  refine c_seq (fun K1 hK1 => ?_)
  refine c_region ?_
  refine tp rfl (lv_assign rfl) ?_
  refine t_done ?_
  refine q_then_n (hK1 _ _ ?_)
  refine c_seq (fun K2 hK2 => ?_)
  refine c_region ?_
  refine tp rfl (lv_move rfl) ?_
  refine tp rfl (lv_min (c := min n 30) rfl rfl rfl) ?_
  refine tc rfl (en_fn Tryd.call26 rfl) (new_ok (min n 30)) ?_
  rintro _ _ ⟨p1, rfl, rfl⟩
  refine tp rfl (lv_assign rfl) ?_
  refine t_done ?_
  refine q_then_n (hK2 _ _ ?_)
  refine c_seq (fun K3 hK3 => ?_)
  refine c_seq (fun K4 hK4 => ?_)
  refine c_region ?_
  refine tp rfl (lv_move rfl) ?_
  refine tp rfl (lv_eqnil Tryd.underlying24 rfl rfl) ?_
  refine t_done ?_
  refine q_then_n (hK4 _ _ ?_)
  refine c_false rfl ?_
  refine c_skip ?_
  refine q_then_n (hK3 _ _ ?_)
  refine c_seq (fun K5 hK5 => ?_)
  refine c_seq (fun K6 hK6 => ?_)
  refine c_region ?_
  refine tp rfl (lv_assign rfl) ?_
  refine t_done ?_
  refine q_then_n (hK6 _ _ ?_)
  refine c_block ?_
  refine c_loop (γ := (Nat)) (fun (k : Nat) => k ≤ es.length ∧ k ≤ 100) (fun (k : Nat) => [(0, (.int .i64 n)), (1, (.slice bl es.length cl)), (4, (.pointer none)), (5, (.pointer (some ⟨p1, 0, none⟩))), (6, (.int .i64 ((k : Nat) : Int))), (11, (.bool false))]) (fun (k : Nat) => (GraphO p1 (clampN (min n 30)) (madeE (clampN (min n 30)) (es.take k))) :: R) (fun (k : Nat) => es.length - k) (0) ⟨by omega, by omega⟩ ⟨rfl, rfl, rfl, rfl, rfl, rfl, trivial⟩ (fun _ h => h) ?_
  rintro k K7 hF hK7
  try dsimp only at hF hK7 ⊢
  obtain ⟨hk, hk2⟩ := hF
  refine c_seq (fun K8 hK8 => ?_)
  refine c_seq (fun K9 hK9 => ?_)
  refine c_region ?_
  by_cases hc2 : ((k : Nat) : Int) < ((es.length : Nat) : Int) ∧ ((k : Nat) : Int) < 100
  · -- both
    have hc2a := hc2.1
    have hc2b := hc2.2
    refine tp rfl (lv_move rfl) ?_
    refine tp rfl (lv_move rfl) ?_
    refine tp rfl (lv_len Tryd.underlying22 rfl rfl) ?_
    refine tp rfl (lv_lss rfl rfl (decide_eq_true hc2.1)) ?_
    refine tp rfl (lv_move rfl) ?_
    refine t_guard rfl rfl ?_
    refine tp rfl (lv_move rfl) ?_
    refine t_guard rfl rfl ?_
    refine tp rfl (lv_lss rfl rfl (decide_eq_true hc2.2)) ?_
    refine tp rfl (lv_pick_t rfl rfl) ?_
    refine t_done ?_
    refine q_then_n (hK9 _ _ ?_)
    refine c_true rfl ?_
    refine c_skip ?_
    refine q_then_n (hK8 _ _ ?_)
    refine c_seq (fun K10 hK10 => ?_)
    refine c_block ?_
    refine c_draw (γ := Unit) (n := 12) Tryd.mixed rfl rfl (fun _ S => True) (fun _ => [(0, 22, (.pointer (some ⟨p1, 0, none⟩))), (1, 23, (.slice bl es.length cl)), (2, 24, (.int .i64 ((k : Nat) : Int))), (3, 25, (.pointer (some (ad bl (k * 2))))), (4, 26, (.pointer (some (ad bl (k * 2))))), (5, 27, (.int .i64 (((es).getD k (0, 0)).1))), (6, 28, (.slice bl es.length cl)), (7, 29, (.int .i64 ((k : Nat) : Int))), (8, 30, (.pointer (some (ad bl (k * 2))))), (9, 31, (.pointer (some (ad bl (k * 2 + 1))))), (10, 32, (.int .i64 (((es).getD k (0, 0)).2))), (11, 33, (.tuple #[(.bool (isNew (clampN (min n 30)) (madeE (clampN (min n 30)) (es.take k)) (((es).getD k (0, 0)).1) (((es).getD k (0, 0)).2))), (.int .i64 (addErr (clampN (min n 30)) (((es).getD k (0, 0)).1) (((es).getD k (0, 0)).2)))]))]) (fun _ S => (bif S 11 then (GraphO p1 (clampN (min n 30)) (addE (clampN (min n 30)) (madeE (clampN (min n 30)) (es.take k)) (((es).getD k (0, 0)).1) (((es).getD k (0, 0)).2))) else (GraphO p1 (clampN (min n 30)) (madeE (clampN (min n 30)) (es.take k)))) :: R) (()) trivial (fun _ h => h) (fun _ _ h => h) ?_ ?_
    · -- steps
      refine ⟨?_, ?_, ?_, ?_, ?_, ?_, ?_, ?_, ?_, ?_, ?_, ?_, trivial⟩
      · -- 0
        rintro _ S hF hS D hp K hK
        try dsimp only at hF ⊢
        refine d_need (small := [(5, (.pointer (some ⟨p1, 0, none⟩)))]) ⟨look_b rfl rfl, trivial⟩ ?_
        refine tp rfl (lv_move rfl) ?_
        exact d_closes ⟨look_b rfl rfl, trivial⟩ 0 rfl rfl rfl hS (AgreeR.refl _) (t_sat (fun _ h => h) (hK () trivial))
      · -- 1
        rintro _ S hF hS D hp K hK
        try dsimp only at hF ⊢
        refine d_need (small := [(1, (.slice bl es.length cl))]) ⟨look_b rfl rfl, trivial⟩ ?_
        refine tp rfl (lv_move rfl) ?_
        exact d_closes ⟨look_b rfl rfl, trivial⟩ 1 rfl rfl rfl hS (AgreeR.refl _) (t_sat (fun _ h => h) (hK () trivial))
      · -- 2
        rintro _ S hF hS D hp K hK
        try dsimp only at hF ⊢
        refine d_need (small := [(6, (.int .i64 ((k : Nat) : Int)))]) ⟨look_b rfl rfl, trivial⟩ ?_
        refine tp rfl (lv_move rfl) ?_
        exact d_closes ⟨look_b rfl rfl, trivial⟩ 2 rfl rfl rfl hS (AgreeR.refl _) (t_sat (fun _ h => h) (hK () trivial))
      · -- 3
        rintro _ S hF hS D hp K hK
        try dsimp only at hF ⊢
        have s1 := hp 1 rfl
        have s2 := hp 2 rfl
        refine d_need (small := [(23, (.slice bl es.length cl)), (24, (.int .i64 ((k : Nat) : Int)))]) ⟨look_row rfl 1 rfl s1, look_row rfl 2 rfl s2, trivial⟩ ?_
        refine tp rfl (lv_indexAddr (k' := k * 2) Tryd.underlying22 Tryd.sizeOf32 rfl rfl okl (by omega) (by omega) (by omega)) ?_
        exact d_closes ⟨look_row rfl 1 rfl s1, look_row rfl 2 rfl s2, trivial⟩ 3 rfl rfl rfl hS (AgreeR.refl _) (t_sat (fun _ h => h) (hK () trivial))
      · -- 4
        rintro _ S hF hS D hp K hK
        try dsimp only at hF ⊢
        have s3 := hp 3 rfl
        refine d_need (small := [(25, (.pointer (some (ad bl (k * 2)))))]) ⟨look_row rfl 3 rfl s3, trivial⟩ ?_
        refine tp rfl (lv_fieldAddr_ad (o' := k * 2) Tryd.underlying32 rfl Tryd.sizeOf3 rfl rfl) ?_
        exact d_closes ⟨look_row rfl 3 rfl s3, trivial⟩ 4 rfl rfl rfl hS (AgreeR.refl _) (t_sat (fun _ h => h) (hK () trivial))
      · -- 5
        rintro _ S hF hS D hp K hK
        try dsimp only at hF ⊢
        have s4 := hp 4 rfl
        refine d_need (small := [(26, (.pointer (some (ad bl (k * 2)))))]) ⟨look_row rfl 4 rfl s4, trivial⟩ ?_
        refine tp rfl (lv_load Tryd.isAgg3 rfl (Rd.gives (Rd.cons hl) (pairs_get0 (by omega)))) ?_
        exact d_closes ⟨look_row rfl 4 rfl s4, trivial⟩ 5 rfl rfl rfl hS (AgreeR.refl _) (t_sat (fun _ h => h) (hK () trivial))
      · -- 6
        rintro _ S hF hS D hp K hK
        try dsimp only at hF ⊢
        refine d_need (small := [(1, (.slice bl es.length cl))]) ⟨look_b rfl rfl, trivial⟩ ?_
        refine tp rfl (lv_move rfl) ?_
        exact d_closes ⟨look_b rfl rfl, trivial⟩ 6 rfl rfl rfl hS (AgreeR.refl _) (t_sat (fun _ h => h) (hK () trivial))
      · -- 7
        rintro _ S hF hS D hp K hK
        try dsimp only at hF ⊢
        refine d_need (small := [(6, (.int .i64 ((k : Nat) : Int)))]) ⟨look_b rfl rfl, trivial⟩ ?_
        refine tp rfl (lv_move rfl) ?_
        exact d_closes ⟨look_b rfl rfl, trivial⟩ 7 rfl rfl rfl hS (AgreeR.refl _) (t_sat (fun _ h => h) (hK () trivial))
      · -- 8
        rintro _ S hF hS D hp K hK
        try dsimp only at hF ⊢
        have s6 := hp 6 rfl
        have s7 := hp 7 rfl
        refine d_need (small := [(28, (.slice bl es.length cl)), (29, (.int .i64 ((k : Nat) : Int)))]) ⟨look_row rfl 6 rfl s6, look_row rfl 7 rfl s7, trivial⟩ ?_
        refine tp rfl (lv_indexAddr (k' := k * 2) Tryd.underlying22 Tryd.sizeOf32 rfl rfl okl (by omega) (by omega) (by omega)) ?_
        exact d_closes ⟨look_row rfl 6 rfl s6, look_row rfl 7 rfl s7, trivial⟩ 8 rfl rfl rfl hS (AgreeR.refl _) (t_sat (fun _ h => h) (hK () trivial))
      · -- 9
        rintro _ S hF hS D hp K hK
        try dsimp only at hF ⊢
        have s8 := hp 8 rfl
        refine d_need (small := [(30, (.pointer (some (ad bl (k * 2)))))]) ⟨look_row rfl 8 rfl s8, trivial⟩ ?_
        refine tp rfl (lv_fieldAddr_ad (o' := k * 2 + 1) Tryd.underlying32 rfl Tryd.sizeOf3 rfl rfl) ?_
        exact d_closes ⟨look_row rfl 8 rfl s8, trivial⟩ 9 rfl rfl rfl hS (AgreeR.refl _) (t_sat (fun _ h => h) (hK () trivial))
      · -- 10
        rintro _ S hF hS D hp K hK
        try dsimp only at hF ⊢
        have s9 := hp 9 rfl
        refine d_need (small := [(31, (.pointer (some (ad bl (k * 2 + 1)))))]) ⟨look_row rfl 9 rfl s9, trivial⟩ ?_
        refine tp rfl (lv_load Tryd.isAgg3 rfl (Rd.gives (Rd.cons hl) (pairs_get1 (by omega)))) ?_
        exact d_closes ⟨look_row rfl 9 rfl s9, trivial⟩ 10 rfl rfl rfl hS (AgreeR.refl _) (t_sat (fun _ h => h) (hK () trivial))
      · -- 11
        rintro _ S hF hS D hp K hK
        try dsimp only at hF ⊢
        have s0 := hp 0 rfl
        have s5 := hp 5 rfl
        have s10 := hp 10 rfl
        refine d_need (small := [(22, (.pointer (some ⟨p1, 0, none⟩))), (27, (.int .i64 (((es).getD k (0, 0)).1))), (32, (.int .i64 (((es).getD k (0, 0)).2)))]) ⟨look_row rfl 0 rfl s0, look_row rfl 5 rfl s5, look_row rfl 10 rfl s10, trivial⟩ ?_
        refine t_cF hS ?_
        refine tc rfl (en_fn Tryd.call25 rfl) (add_ok (N := clampN (min n 30)) (es := madeE (clampN (min n 30)) (es.take k)) (((es).getD k (0, 0)).1) (((es).getD k (0, 0)).2)) ?_
        rintro _ _ ⟨rfl, rfl⟩
        exact d_closes ⟨look_row rfl 0 rfl s0, look_row rfl 5 rfl s5, look_row rfl 10 rfl s10, trivial⟩ 11 rfl rfl rfl hS (AgreeR.refl _) (t_sat (fun _ h => h) (hK () trivial))
    · -- behind
      rintro _ hF
      try dsimp only at hF ⊢
      refine t_weak (E' := [(0, (.int .i64 n)), (1, (.slice bl es.length cl)), (4, (.pointer none)), (5, (.pointer (some ⟨p1, 0, none⟩))), (6, (.int .i64 ((k : Nat) : Int))), (11, (.bool false)), (19, (.bool true))]) ⟨rfl, rfl, rfl, rfl, rfl, rfl, rfl, trivial⟩ ?_
      refine q_in_n ?_
      refine q_then_n (hK10 _ _ ?_)
      refine c_region ?_
      refine tp rfl (lv_move rfl) ?_
      refine tp rfl (lv_add (c := ((k + 1 : Nat) : Int)) rfl rfl (wr_i64_succ (by omega))) ?_
      refine tp rfl (lv_assign rfl) ?_
      refine t_done ?_
      refine q_then_n ?_
      rw [show addE (clampN (min n 30)) (madeE (clampN (min n 30)) (es.take k)) (es.getD k (0, 0)).1 (es.getD k (0, 0)).2 = madeE (clampN (min n 30)) (es.take (k + 1)) from (madeE_succ (by omega)).symm]
      exact t_weak (by exact ⟨rfl, rfl, rfl, rfl, rfl, rfl, trivial⟩) ((hK7 (k + 1) ⟨by omega, by omega⟩ (by omega)))
  · -- not both
    refine t_cut0 (E' := [(0, (.int .i64 n)), (1, (.slice bl es.length cl)), (4, (.pointer none)), (5, (.pointer (some ⟨p1, 0, none⟩))), (6, (.int .i64 ((k : Nat) : Int))), (11, (.bool false)), (19, (.bool false))]) ?_ (fun KK hKK => ?_)
    ·
      refine q_then_n (hK9 _ _ ?_)
      refine c_false rfl ?_
      refine c_exit ?_
      refine q_then_x ?_
      refine q_then_x ?_
      refine q_in_x ?_
      refine q_then_n (hK5 _ _ ?_)
      refine c_seq (fun K10 hK10 => ?_)
      refine c_region ?_
      refine tp rfl (lv_move rfl) ?_
      refine tp rfl (lv_assign rfl) ?_
      refine t_done ?_
      refine q_then_n (hK10 _ _ ?_)
      refine c_ret ?_
      refine q_ret rfl rfl ?_
      rw [show es.take k = es.take 100 from take_end (by omega)]
      exact ⟨_, rfl, rfl⟩
    · -- which
      by_cases hc2A : ((k : Nat) : Int) < ((es.length : Nat) : Int)
      ·
        have hc2B : ¬ (((k : Nat) : Int) < 100) := fun hh => hc2 ⟨hc2A, hh⟩
        refine tp rfl (lv_move rfl) ?_
        refine tp rfl (lv_move rfl) ?_
        refine tp rfl (lv_len Tryd.underlying22 rfl rfl) ?_
        refine tp rfl (lv_lss rfl rfl (decide_eq_true hc2A)) ?_
        refine tp rfl (lv_move rfl) ?_
        refine t_guard rfl rfl ?_
        refine tp rfl (lv_move rfl) ?_
        refine t_guard rfl rfl ?_
        refine tp rfl (lv_lss rfl rfl (decide_eq_false hc2B)) ?_
        refine tp rfl (lv_pick_t rfl rfl) ?_
        exact t_done (t_weak (by exact ⟨rfl, rfl, rfl, rfl, rfl, rfl, rfl, trivial⟩) hKK)
      ·
        refine tp rfl (lv_move rfl) ?_
        refine tp rfl (lv_move rfl) ?_
        refine tp rfl (lv_len Tryd.underlying22 rfl rfl) ?_
        refine tp rfl (lv_lss rfl rfl (decide_eq_false hc2A)) ?_
        refine tp rfl (lv_move rfl) ?_
        refine t_skip rfl rfl rfl ?_
        refine t_skip rfl rfl rfl ?_
        refine tp rfl (lv_pick_f rfl rfl) ?_
        exact t_done (t_weak (by exact ⟨rfl, rfl, rfl, rfl, rfl, rfl, rfl, trivial⟩) hKK)

set_option maxHeartbeats 4000000 in
theorem shown_ok {R : List HP} (hT : Tab R) :
    Ok Tryd.prog 9 [] R
      (fun v M => v = .bool true ∧ M = R) := by
  refine ok_of (N := 56) Tryd.func9 rfl rfl rfl (fun W => ?_)
  refine c_seq (fun K1 hK1 => ?_)
  refine c_region ?_
  refine tp rfl (lv_assign rfl) ?_
  refine t_done ?_
  refine q_then_n (hK1 _ _ ?_)
  refine c_seq (fun K2 hK2 => ?_)
  refine c_region ?_
  refine tp rfl (lv_build (cs := [(.int .i64 0), (.int .i64 1)]) (pl := [(0, 1), (1, 1)]) Tryd.underlying32 Tryd.zeroValue32 (fun _ => by simp) rfl rfl) ?_
  refine tp rfl (lv_build (cs := [(.int .i64 1), (.int .i64 2)]) (pl := [(0, 1), (1, 1)]) Tryd.underlying32 Tryd.zeroValue32 (fun _ => by simp) rfl rfl) ?_
  refine tm rfl (mv_buildSlice (cs := [(.int .i64 0), (.int .i64 1), (.int .i64 1), (.int .i64 2)]) Tryd.underlying22 Tryd.sizeOf32 Tryd.zeroValue32 (by decide) rfl rfl rfl rfl) ?_
  rintro _ _ ⟨bs1, cp2, hok3, hle4, rfl, rfl⟩
  refine tc rfl (en_fn Tryd.call10 rfl) (made_ok 3 ([(0, 1), (1, 2)] : Es) (rd_sl (.head _)) (fun hz => hok3 (by first | exact hz | omega)) (by first | omega | decide)) ?_
  rintro _ _ ⟨p5, rfl, rfl⟩
  rw [show clampN (min 3 30) = 3 from rfl]
  rw [show madeE (3) (([(0, 1), (1, 2)] : Es).take 100) = C1 from rfl]
  refine tp rfl (lv_assign rfl) ?_
  refine t_done ?_
  refine q_then_n (hK2 _ _ ?_)
  refine c_seq (fun K3 hK3 => ?_)
  refine c_seq (fun K4 hK4 => ?_)
  refine c_region ?_
  refine tp rfl (lv_move rfl) ?_
  refine tp rfl (lv_eqnil Tryd.underlying24 rfl rfl) ?_
  refine t_done ?_
  refine q_then_n (hK4 _ _ ?_)
  refine c_false rfl ?_
  refine c_skip ?_
  refine q_then_n (hK3 _ _ ?_)
  refine c_seq (fun K5 hK5 => ?_)
  refine c_region ?_
  refine tp rfl (lv_move rfl) ?_
  refine tc rfl (en_fn Tryd.call13 rfl) (order_ok (N := 3) (E := C1)) ?_
  rintro _ _ ⟨bs6, cp7, hok8, hle9, rfl, rfl⟩
  try rw [show ordR 3 C1 = [2, 1, 0] from c1_ord] at hok8
  try rw [show ordR 3 C1 = [2, 1, 0] from c1_ord] at hle9
  rw [show ordR 3 C1 = [2, 1, 0] from c1_ord]
  try rw [show ordB 3 C1 = true from c1_ordB] at hok8
  try rw [show ordB 3 C1 = true from c1_ordB] at hle9
  rw [show ordB 3 C1 = true from c1_ordB]
  refine tp rfl (lv_move rfl) ?_
  refine tp rfl (lv_extract rfl rfl) ?_
  refine tp rfl (lv_extract rfl rfl) ?_
  refine tp rfl (lv_assign rfl) ?_
  refine tp rfl (lv_assign rfl) ?_
  refine t_done ?_
  refine q_then_n (hK5 _ _ ?_)
  refine c_seq (fun K6 hK6 => ?_)
  refine c_region ?_
  refine tp rfl (lv_move rfl) ?_
  refine t_f1 ?_
  refine tc rfl (en_fn Tryd.call18 rfl) (closes_ok (N := 3) (E := C1) 2 0) ?_
  rintro _ _ ⟨bs10, cp11, hok12, hle13, rfl, rfl⟩
  try rw [show pathL 3 C1 0 2 = [0, 1, 2] from c1_path] at hok12
  try rw [show pathL 3 C1 0 2 = [0, 1, 2] from c1_path] at hle13
  rw [show pathL 3 C1 0 2 = [0, 1, 2] from c1_path]
  refine tp rfl (lv_assign rfl) ?_
  refine t_done ?_
  refine q_then_n (hK6 _ _ ?_)
  refine c_seq (fun K7 hK7 => ?_)
  refine c_region ?_
  refine tp rfl (lv_move rfl) ?_
  refine t_f1 ?_
  refine tc rfl (en_fn Tryd.call18 rfl) (closes_ok (N := 3) (E := C1) 0 2) ?_
  rintro _ _ ⟨bs14, cp15, hok16, hle17, rfl, rfl⟩
  try rw [show pathL 3 C1 2 0 = [] from c1_none] at hok16
  try rw [show pathL 3 C1 2 0 = [] from c1_none] at hle17
  rw [show pathL 3 C1 2 0 = [] from c1_none]
  refine tp rfl (lv_assign rfl) ?_
  refine t_done ?_
  refine q_then_n (hK7 _ _ ?_)
  refine c_seq (fun K8 hK8 => ?_)
  refine c_region ?_
  refine tp rfl (lv_move rfl) ?_
  refine t_f1 ?_
  refine tc rfl (en_fn Tryd.call25 rfl) (add_ok (N := 3) (es := C1) 2 0) ?_
  rintro _ _ ⟨rfl, rfl⟩
  rw [show addE 3 C1 2 0 = C2 from c1_add]
  refine t_done ?_
  refine q_then_n (hK8 _ _ ?_)
  refine c_seq (fun K9 hK9 => ?_)
  refine c_region ?_
  refine tp rfl (lv_move rfl) ?_
  refine tc rfl (en_fn Tryd.call13 rfl) (order_ok (N := 3) (E := C2)) ?_
  rintro _ _ ⟨bs18, cp19, hok20, hle21, rfl, rfl⟩
  try rw [show ordB 3 C2 = false from c2_ordB] at hok20
  try rw [show ordB 3 C2 = false from c2_ordB] at hle21
  rw [show ordB 3 C2 = false from c2_ordB]
  refine tp rfl (lv_move rfl) ?_
  refine tp rfl (lv_extract rfl rfl) ?_
  refine tp rfl (lv_extract rfl rfl) ?_
  refine tp rfl (lv_assign rfl) ?_
  refine tp rfl (lv_assign rfl) ?_
  refine t_done ?_
  refine q_then_n (hK9 _ _ ?_)
  refine c_seq (fun K10 hK10 => ?_)
  refine c_region ?_
  refine tp rfl (lv_move rfl) ?_
  refine tp rfl (lv_move rfl) ?_
  refine t_guard rfl rfl ?_
  refine tp rfl (lv_move rfl) ?_
  refine t_guard rfl rfl ?_
  refine tm rfl (mv_buildSlice (cs := [(.int .i64 2), (.int .i64 1), (.int .i64 0)]) Tryd.underlying33 Tryd.sizeOf3 Tryd.zeroValue3 (by decide) rfl rfl rfl rfl) ?_
  rintro _ _ ⟨bs22, cp23, hok24, hle25, rfl, rfl⟩
  refine t_guard rfl rfl ?_
  refine tc rfl (en_fn Tryd.call15 rfl) (ints_ok [2, 1, 0] [2, 1, 0] (rd_sl (.tail _ (.tail _ (.tail _ (.tail _ (.tail _ (.head _))))))) (rd_sl (.head _)) hok8 hok24 (by first | omega | (simp; omega) | (simp; done)) (by first | omega | (simp; omega) | (simp; done))) ?_
  rintro _ _ ⟨rfl, rfl⟩
  rw [eqI_refl]
  refine tp rfl (lv_pick_t rfl rfl) ?_
  refine tp rfl (lv_move rfl) ?_
  refine t_guard rfl rfl ?_
  refine tp rfl (lv_move rfl) ?_
  refine t_guard rfl rfl ?_
  refine tm rfl (mv_buildSlice (cs := [(.int .i64 0), (.int .i64 1), (.int .i64 2)]) Tryd.underlying33 Tryd.sizeOf3 Tryd.zeroValue3 (by decide) rfl rfl rfl rfl) ?_
  rintro _ _ ⟨bs26, cp27, hok28, hle29, rfl, rfl⟩
  refine t_guard rfl rfl ?_
  refine tc rfl (en_fn Tryd.call15 rfl) (ints_ok [0, 1, 2] [0, 1, 2] (rd_sl (.tail _ (.tail _ (.tail _ (.tail _ (.tail _ (.head _))))))) (rd_sl (.head _)) hok12 hok28 (by first | omega | (simp; omega) | (simp; done)) (by first | omega | (simp; omega) | (simp; done))) ?_
  rintro _ _ ⟨rfl, rfl⟩
  rw [eqI_refl]
  refine tp rfl (lv_pick_t rfl rfl) ?_
  refine tp rfl (lv_move rfl) ?_
  refine t_guard rfl rfl ?_
  refine tp rfl (lv_move rfl) ?_
  refine t_guard rfl rfl ?_
  refine tp rfl (lv_len Tryd.underlying33 rfl rfl) ?_
  refine t_guard rfl rfl ?_
  refine tp rfl (lv_eql rfl rfl (beq_iff_eq.2 rfl)) ?_
  refine tp rfl (lv_pick_t rfl rfl) ?_
  refine tp rfl (lv_move rfl) ?_
  refine t_guard rfl rfl ?_
  refine tp rfl (lv_move rfl) ?_
  refine t_guard rfl rfl ?_
  refine tp rfl (lv_not (c := true) rfl rfl) ?_
  refine tp rfl (lv_pick_t rfl rfl) ?_
  refine tp rfl (lv_move rfl) ?_
  refine t_guard rfl rfl ?_
  refine tp rfl (lv_move rfl) ?_
  refine t_guard rfl rfl ?_
  refine t_f3 ?_
  refine tc rfl (en_fn Tryd.call19 rfl) (on_ok (N := 3) (E := C2)  (Tab.cons (Tab.cons (Tab.cons (Tab.cons (Tab.cons (Tab.cons (Tab.cons hT)))))))) ?_
  rintro _ _ ⟨bs30, cp31, hok32, hle33, rfl, rfl⟩
  try rw [show onL 3 C2 = [0, 1, 2] from c2_on] at hok32
  try rw [show onL 3 C2 = [0, 1, 2] from c2_on] at hle33
  rw [show onL 3 C2 = [0, 1, 2] from c2_on]
  refine t_guard rfl rfl ?_
  refine tm rfl (mv_buildSlice (cs := [(.int .i64 0), (.int .i64 1), (.int .i64 2)]) Tryd.underlying33 Tryd.sizeOf3 Tryd.zeroValue3 (by decide) rfl rfl rfl rfl) ?_
  rintro _ _ ⟨bs34, cp35, hok36, hle37, rfl, rfl⟩
  refine t_guard rfl rfl ?_
  refine tc rfl (en_fn Tryd.call15 rfl) (ints_ok [0, 1, 2] [0, 1, 2] (rd_sl (.tail _ (.head _))) (rd_sl (.head _)) hok32 hok36 (by first | omega | (simp; omega) | (simp; done)) (by first | omega | (simp; omega) | (simp; done))) ?_
  rintro _ _ ⟨rfl, rfl⟩
  rw [eqI_refl]
  refine tp rfl (lv_pick_t rfl rfl) ?_
  refine tp rfl (lv_assign rfl) ?_
  refine t_done ?_
  refine q_then_n (hK10 _ _ ?_)
  refine c_ret ?_
  refine t_drop ?_
  refine t_drop ?_
  refine t_drop ?_
  refine t_drop ?_
  refine t_drop ?_
  refine t_drop ?_
  refine t_drop ?_
  refine t_drop ?_
  refine t_drop ?_
  refine t_drop ?_
  refine q_ret rfl rfl ?_
  exact ⟨rfl, rfl⟩
end Go.Proofs.YtppgccafgfpkdaaDoor
