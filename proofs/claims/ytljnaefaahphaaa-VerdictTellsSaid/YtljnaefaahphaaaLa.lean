/- The laws' own helpers: same, made. -/
import Derived.Test.YtljnaefaahphaaaVd1
import Derived.Test.YtljnaefaahphaaaVdl
set_option maxRecDepth 100000
set_option linter.unusedVariables false
set_option linter.unusedSimpArgs false
namespace Go.Proofs.Ytljnaefaahphaaa
open Go Go.Proofs Sp
set_option maxHeartbeats 4000000 in
theorem ints_ok {R : List HP} {bx bb : Option Addr} {cx cy : Nat} (xs ys : List Int) (hx : Rd R bx (ints .i64 xs)) (hy : Rd R bb (ints .i64 ys)) (okx : SlOk bx xs.length) (oky : SlOk bb ys.length) (lx : xs.length ≤ 4611686018427387904) (ly : ys.length ≤ 4611686018427387904) :
    Ok Try.prog 13 [(.slice bx xs.length cx), (.slice bb ys.length cy)] R
      (fun v M => v = .bool (eqI xs ys) ∧ M = R) := by
 refine ok_of (N := 26) Try.func13 rfl rfl rfl (fun W => ?_)
 refine c_seq (fun K1 hK1 => ?_)
 refine c_region ?_
 refine tp rfl (lv_assign rfl) ?_
 refine t_done ?_
 refine q_then_n (hK1 _ _ ?_)
 refine c_seq (fun K2 hK2 => ?_)
 refine c_seq (fun K3 hK3 => ?_)
 refine c_region ?_
 refine tp rfl (lv_move rfl) ?_
 refine tp rfl (lv_len Try.underlying23 rfl rfl) ?_
 refine tp rfl (lv_move rfl) ?_
 refine tp rfl (lv_len Try.underlying23 rfl rfl) ?_
 by_cases hlen : ((xs.length : Nat) : Int) = ((ys.length : Nat) : Int)
 · -- yes
  refine tp rfl (lv_neq rfl rfl (bne_eq_false_iff_eq.2 hlen)) ?_
  refine t_done ?_
  refine q_then_n (hK3 _ _ ?_)
  refine c_false rfl ?_
  refine c_skip ?_
  refine q_then_n (hK2 _ _ ?_)
  refine c_seq (fun K4 hK4 => ?_)
  refine c_seq (fun K5 hK5 => ?_)
  refine c_region ?_
  refine tp rfl (lv_assign rfl) ?_
  refine t_done ?_
  refine q_then_n (hK5 _ _ ?_)
  refine c_block ?_
  refine c_loop (γ := (Nat)) (fun (k : Nat) => k ≤ xs.length ∧ (∀ j, j < k → xs.getD j 0 = ys.getD j 0)) (fun (k : Nat) => [(0, (.slice bx xs.length cx)), (1, (.slice bb ys.length cy)), (5, (.int .i64 ((k : Nat) : Int))), (10, (.bool false))]) (fun (k : Nat) => R) (fun (k : Nat) => xs.length - k) (0) ⟨by omega, fun j hj => by omega⟩ ⟨rfl, rfl, rfl, rfl, trivial⟩ (fun _ h => h) ?_
  rintro k K6 hF hK6
  try dsimp only at hF hK6 ⊢
  obtain ⟨hk, hall⟩ := hF
  refine c_seq (fun K7 hK7 => ?_)
  refine c_seq (fun K8 hK8 => ?_)
  refine c_region ?_
  refine tp rfl (lv_move rfl) ?_
  refine tp rfl (lv_move rfl) ?_
  refine tp rfl (lv_len Try.underlying23 rfl rfl) ?_
  by_cases h1 : ((k : Nat) : Int) < ((xs.length : Nat) : Int)
  · -- yes
   refine tp rfl (lv_lss rfl rfl (decide_eq_true h1)) ?_
   refine t_done ?_
   refine q_then_n (hK8 _ _ ?_)
   refine c_true rfl ?_
   refine c_skip ?_
   refine q_then_n (hK7 _ _ ?_)
   refine c_seq (fun K9 hK9 => ?_)
   refine c_block ?_
   refine c_seq (fun K10 hK10 => ?_)
   by_cases h2 : ((xs).getD k 0) = ((ys).getD k 0)
   · -- yes
    refine c_draw (γ := Unit) (n := 9) Try.mixed rfl rfl (fun _ S => True) (fun _ => [(0, 17, (.slice bx xs.length cx)), (1, 18, (.int .i64 ((k : Nat) : Int))), (2, 19, (.pointer (some (ad bx k)))), (3, 20, (.int .i64 ((xs).getD k 0))), (4, 21, (.slice bb ys.length cy)), (5, 22, (.int .i64 ((k : Nat) : Int))), (6, 23, (.pointer (some (ad bb k)))), (7, 24, (.int .i64 ((ys).getD k 0))), (8, 25, (.bool false))]) (fun _ S => R) (()) trivial (fun _ h => h) (fun _ _ h => h) ?_ ?_
    · -- steps
     refine ⟨?_, ?_, ?_, ?_, ?_, ?_, ?_, ?_, ?_, trivial⟩
     · -- 0
      rintro _ S hF hS D hp K hK
      try dsimp only at hF ⊢
      refine d_need (small := [(0, (.slice bx xs.length cx))]) ⟨look_b rfl rfl, trivial⟩ ?_
      refine tp rfl (lv_move rfl) ?_
      exact d_closes ⟨look_b rfl rfl, trivial⟩ 0 rfl rfl rfl hS (AgreeR.refl _) (t_sat (fun _ h => h) (hK () trivial))
     · -- 1
      rintro _ S hF hS D hp K hK
      try dsimp only at hF ⊢
      refine d_need (small := [(5, (.int .i64 ((k : Nat) : Int)))]) ⟨look_b rfl rfl, trivial⟩ ?_
      refine tp rfl (lv_move rfl) ?_
      exact d_closes ⟨look_b rfl rfl, trivial⟩ 1 rfl rfl rfl hS (AgreeR.refl _) (t_sat (fun _ h => h) (hK () trivial))
     · -- 2
      rintro _ S hF hS D hp K hK
      try dsimp only at hF ⊢
      have s0 := hp 0 rfl
      have s1 := hp 1 rfl
      refine d_need (small := [(17, (.slice bx xs.length cx)), (18, (.int .i64 ((k : Nat) : Int)))]) ⟨look_row rfl 0 rfl s0, look_row rfl 1 rfl s1, trivial⟩ ?_
      refine tp rfl (lv_indexAddr (k' := k) Try.underlying23 Try.sizeOf3 rfl rfl okx (by omega) (by omega) (by omega)) ?_
      exact d_closes ⟨look_row rfl 0 rfl s0, look_row rfl 1 rfl s1, trivial⟩ 2 rfl rfl rfl hS (AgreeR.refl _) (t_sat (fun _ h => h) (hK () trivial))
     · -- 3
      rintro _ S hF hS D hp K hK
      try dsimp only at hF ⊢
      have s2 := hp 2 rfl
      refine d_need (small := [(19, (.pointer (some (ad bx k))))]) ⟨look_row rfl 2 rfl s2, trivial⟩ ?_
      refine tp rfl (lv_load Try.isAgg3 rfl (Rd.gives hx (ints_get (by first | omega | (simp; omega))))) ?_
      exact d_closes ⟨look_row rfl 2 rfl s2, trivial⟩ 3 rfl rfl rfl hS (AgreeR.refl _) (t_sat (fun _ h => h) (hK () trivial))
     · -- 4
      rintro _ S hF hS D hp K hK
      try dsimp only at hF ⊢
      refine d_need (small := [(1, (.slice bb ys.length cy))]) ⟨look_b rfl rfl, trivial⟩ ?_
      refine tp rfl (lv_move rfl) ?_
      exact d_closes ⟨look_b rfl rfl, trivial⟩ 4 rfl rfl rfl hS (AgreeR.refl _) (t_sat (fun _ h => h) (hK () trivial))
     · -- 5
      rintro _ S hF hS D hp K hK
      try dsimp only at hF ⊢
      refine d_need (small := [(5, (.int .i64 ((k : Nat) : Int)))]) ⟨look_b rfl rfl, trivial⟩ ?_
      refine tp rfl (lv_move rfl) ?_
      exact d_closes ⟨look_b rfl rfl, trivial⟩ 5 rfl rfl rfl hS (AgreeR.refl _) (t_sat (fun _ h => h) (hK () trivial))
     · -- 6
      rintro _ S hF hS D hp K hK
      try dsimp only at hF ⊢
      have s4 := hp 4 rfl
      have s5 := hp 5 rfl
      refine d_need (small := [(21, (.slice bb ys.length cy)), (22, (.int .i64 ((k : Nat) : Int)))]) ⟨look_row rfl 4 rfl s4, look_row rfl 5 rfl s5, trivial⟩ ?_
      refine tp rfl (lv_indexAddr (k' := k) Try.underlying23 Try.sizeOf3 rfl rfl oky (by omega) (by omega) (by omega)) ?_
      exact d_closes ⟨look_row rfl 4 rfl s4, look_row rfl 5 rfl s5, trivial⟩ 6 rfl rfl rfl hS (AgreeR.refl _) (t_sat (fun _ h => h) (hK () trivial))
     · -- 7
      rintro _ S hF hS D hp K hK
      try dsimp only at hF ⊢
      have s6 := hp 6 rfl
      refine d_need (small := [(23, (.pointer (some (ad bb k))))]) ⟨look_row rfl 6 rfl s6, trivial⟩ ?_
      refine tp rfl (lv_load Try.isAgg3 rfl (Rd.gives hy (ints_get (by first | omega | (simp; omega))))) ?_
      exact d_closes ⟨look_row rfl 6 rfl s6, trivial⟩ 7 rfl rfl rfl hS (AgreeR.refl _) (t_sat (fun _ h => h) (hK () trivial))
     · -- 8
      rintro _ S hF hS D hp K hK
      try dsimp only at hF ⊢
      have s3 := hp 3 rfl
      have s7 := hp 7 rfl
      refine d_need (small := [(20, (.int .i64 ((xs).getD k 0))), (24, (.int .i64 ((ys).getD k 0)))]) ⟨look_row rfl 3 rfl s3, look_row rfl 7 rfl s7, trivial⟩ ?_
      refine tp rfl (lv_neq rfl rfl (bne_eq_false_iff_eq.2 h2)) ?_
      exact d_closes ⟨look_row rfl 3 rfl s3, look_row rfl 7 rfl s7, trivial⟩ 8 rfl rfl rfl hS (AgreeR.refl _) (t_sat (fun _ h => h) (hK () trivial))
    · -- behind
     rintro _ hF
     try dsimp only at hF ⊢
     refine t_weak (E' := [(0, (.slice bx xs.length cx)), (1, (.slice bb ys.length cy)), (5, (.int .i64 ((k : Nat) : Int))), (10, (.bool false)), (14, (.bool true)), (25, (.bool false))]) ⟨rfl, rfl, rfl, rfl, rfl, rfl, trivial⟩ ?_
     refine q_then_n (hK10 _ _ ?_)
     refine c_false rfl ?_
     refine c_skip ?_
     refine q_in_n ?_
     refine q_then_n (hK9 _ _ ?_)
     refine c_region ?_
     refine tp rfl (lv_move rfl) ?_
     refine tp rfl (lv_add (c := ((k + 1 : Nat) : Int)) rfl rfl (wr_i64_succ (by omega))) ?_
     refine tp rfl (lv_assign rfl) ?_
     refine t_done ?_
     refine q_then_n ?_
     exact t_weak (by exact ⟨rfl, rfl, rfl, rfl, trivial⟩) ((hK6 (k + 1) ⟨by omega, all_succ hall ‹_›⟩ (by omega)))
   · -- no
    refine c_draw (γ := Unit) (n := 9) Try.mixed rfl rfl (fun _ S => True) (fun _ => [(0, 17, (.slice bx xs.length cx)), (1, 18, (.int .i64 ((k : Nat) : Int))), (2, 19, (.pointer (some (ad bx k)))), (3, 20, (.int .i64 ((xs).getD k 0))), (4, 21, (.slice bb ys.length cy)), (5, 22, (.int .i64 ((k : Nat) : Int))), (6, 23, (.pointer (some (ad bb k)))), (7, 24, (.int .i64 ((ys).getD k 0))), (8, 25, (.bool true))]) (fun _ S => R) (()) trivial (fun _ h => h) (fun _ _ h => h) ?_ ?_
    · -- steps
     refine ⟨?_, ?_, ?_, ?_, ?_, ?_, ?_, ?_, ?_, trivial⟩
     · -- 0
      rintro _ S hF hS D hp K hK
      try dsimp only at hF ⊢
      refine d_need (small := [(0, (.slice bx xs.length cx))]) ⟨look_b rfl rfl, trivial⟩ ?_
      refine tp rfl (lv_move rfl) ?_
      exact d_closes ⟨look_b rfl rfl, trivial⟩ 0 rfl rfl rfl hS (AgreeR.refl _) (t_sat (fun _ h => h) (hK () trivial))
     · -- 1
      rintro _ S hF hS D hp K hK
      try dsimp only at hF ⊢
      refine d_need (small := [(5, (.int .i64 ((k : Nat) : Int)))]) ⟨look_b rfl rfl, trivial⟩ ?_
      refine tp rfl (lv_move rfl) ?_
      exact d_closes ⟨look_b rfl rfl, trivial⟩ 1 rfl rfl rfl hS (AgreeR.refl _) (t_sat (fun _ h => h) (hK () trivial))
     · -- 2
      rintro _ S hF hS D hp K hK
      try dsimp only at hF ⊢
      have s0 := hp 0 rfl
      have s1 := hp 1 rfl
      refine d_need (small := [(17, (.slice bx xs.length cx)), (18, (.int .i64 ((k : Nat) : Int)))]) ⟨look_row rfl 0 rfl s0, look_row rfl 1 rfl s1, trivial⟩ ?_
      refine tp rfl (lv_indexAddr (k' := k) Try.underlying23 Try.sizeOf3 rfl rfl okx (by omega) (by omega) (by omega)) ?_
      exact d_closes ⟨look_row rfl 0 rfl s0, look_row rfl 1 rfl s1, trivial⟩ 2 rfl rfl rfl hS (AgreeR.refl _) (t_sat (fun _ h => h) (hK () trivial))
     · -- 3
      rintro _ S hF hS D hp K hK
      try dsimp only at hF ⊢
      have s2 := hp 2 rfl
      refine d_need (small := [(19, (.pointer (some (ad bx k))))]) ⟨look_row rfl 2 rfl s2, trivial⟩ ?_
      refine tp rfl (lv_load Try.isAgg3 rfl (Rd.gives hx (ints_get (by first | omega | (simp; omega))))) ?_
      exact d_closes ⟨look_row rfl 2 rfl s2, trivial⟩ 3 rfl rfl rfl hS (AgreeR.refl _) (t_sat (fun _ h => h) (hK () trivial))
     · -- 4
      rintro _ S hF hS D hp K hK
      try dsimp only at hF ⊢
      refine d_need (small := [(1, (.slice bb ys.length cy))]) ⟨look_b rfl rfl, trivial⟩ ?_
      refine tp rfl (lv_move rfl) ?_
      exact d_closes ⟨look_b rfl rfl, trivial⟩ 4 rfl rfl rfl hS (AgreeR.refl _) (t_sat (fun _ h => h) (hK () trivial))
     · -- 5
      rintro _ S hF hS D hp K hK
      try dsimp only at hF ⊢
      refine d_need (small := [(5, (.int .i64 ((k : Nat) : Int)))]) ⟨look_b rfl rfl, trivial⟩ ?_
      refine tp rfl (lv_move rfl) ?_
      exact d_closes ⟨look_b rfl rfl, trivial⟩ 5 rfl rfl rfl hS (AgreeR.refl _) (t_sat (fun _ h => h) (hK () trivial))
     · -- 6
      rintro _ S hF hS D hp K hK
      try dsimp only at hF ⊢
      have s4 := hp 4 rfl
      have s5 := hp 5 rfl
      refine d_need (small := [(21, (.slice bb ys.length cy)), (22, (.int .i64 ((k : Nat) : Int)))]) ⟨look_row rfl 4 rfl s4, look_row rfl 5 rfl s5, trivial⟩ ?_
      refine tp rfl (lv_indexAddr (k' := k) Try.underlying23 Try.sizeOf3 rfl rfl oky (by omega) (by omega) (by omega)) ?_
      exact d_closes ⟨look_row rfl 4 rfl s4, look_row rfl 5 rfl s5, trivial⟩ 6 rfl rfl rfl hS (AgreeR.refl _) (t_sat (fun _ h => h) (hK () trivial))
     · -- 7
      rintro _ S hF hS D hp K hK
      try dsimp only at hF ⊢
      have s6 := hp 6 rfl
      refine d_need (small := [(23, (.pointer (some (ad bb k))))]) ⟨look_row rfl 6 rfl s6, trivial⟩ ?_
      refine tp rfl (lv_load Try.isAgg3 rfl (Rd.gives hy (ints_get (by first | omega | (simp; omega))))) ?_
      exact d_closes ⟨look_row rfl 6 rfl s6, trivial⟩ 7 rfl rfl rfl hS (AgreeR.refl _) (t_sat (fun _ h => h) (hK () trivial))
     · -- 8
      rintro _ S hF hS D hp K hK
      try dsimp only at hF ⊢
      have s3 := hp 3 rfl
      have s7 := hp 7 rfl
      refine d_need (small := [(20, (.int .i64 ((xs).getD k 0))), (24, (.int .i64 ((ys).getD k 0)))]) ⟨look_row rfl 3 rfl s3, look_row rfl 7 rfl s7, trivial⟩ ?_
      refine tp rfl (lv_neq rfl rfl (bne_iff_ne.2 h2)) ?_
      exact d_closes ⟨look_row rfl 3 rfl s3, look_row rfl 7 rfl s7, trivial⟩ 8 rfl rfl rfl hS (AgreeR.refl _) (t_sat (fun _ h => h) (hK () trivial))
    · -- behind
     rintro _ hF
     try dsimp only at hF ⊢
     refine t_weak (E' := [(0, (.slice bx xs.length cx)), (1, (.slice bb ys.length cy)), (5, (.int .i64 ((k : Nat) : Int))), (10, (.bool false)), (14, (.bool true)), (25, (.bool true))]) ⟨rfl, rfl, rfl, rfl, rfl, rfl, trivial⟩ ?_
     refine q_then_n (hK10 _ _ ?_)
     refine c_true rfl ?_
     refine c_seq (fun K11 hK11 => ?_)
     refine c_region ?_
     refine tp rfl (lv_assign rfl) ?_
     refine t_done ?_
     refine q_then_n (hK11 _ _ ?_)
     refine c_ret ?_
     refine q_in_r ?_
     refine q_then_r ?_
     refine q_then_r ?_
     refine q_in_r ?_
     refine q_then_r ?_
     refine q_ret rfl rfl ?_
     exact ⟨by first | rw [eqI_len (by omega)] | rw [eqI_at (j := k) (by omega) (by omega) ‹_›], rfl⟩
  · -- no
   refine tp rfl (lv_lss rfl rfl (decide_eq_false h1)) ?_
   refine t_done ?_
   refine q_then_n (hK8 _ _ ?_)
   refine c_false rfl ?_
   refine c_exit ?_
   refine q_then_x ?_
   refine q_then_x ?_
   refine q_in_x ?_
   refine q_then_n (hK4 _ _ ?_)
   refine c_seq (fun K9 hK9 => ?_)
   refine c_region ?_
   refine tp rfl (lv_assign rfl) ?_
   refine t_done ?_
   refine q_then_n (hK9 _ _ ?_)
   refine c_ret ?_
   refine q_ret rfl rfl ?_
   exact ⟨by rw [eqI_true (by omega) (fun j hj => hall j (by omega))], rfl⟩
 · -- no
  refine tp rfl (lv_neq rfl rfl (bne_iff_ne.2 hlen)) ?_
  refine t_done ?_
  refine q_then_n (hK3 _ _ ?_)
  refine c_true rfl ?_
  refine c_seq (fun K4 hK4 => ?_)
  refine c_region ?_
  refine tp rfl (lv_assign rfl) ?_
  refine t_done ?_
  refine q_then_n (hK4 _ _ ?_)
  refine c_ret ?_
  refine q_then_r ?_
  refine q_ret rfl rfl ?_
  exact ⟨by first | rw [eqI_len (by omega)] | rw [eqI_at (j := k) (by omega) (by omega) ‹_›], rfl⟩

theorem ints_n {R : List HP} {bx bb : Option Addr} {cx cy : Nat} (xs ys : List Int) {n m : Nat} (hn : xs.length = n) (hm : ys.length = m) (hx : Rd R bx (ints .i64 xs)) (hy : Rd R bb (ints .i64 ys)) (okx : SlOk bx n) (oky : SlOk bb m) (lx : n ≤ 4611686018427387904) (ly : m ≤ 4611686018427387904) :
    Ok Try.prog 13 [.slice bx n cx, .slice bb m cy] R (fun v M => v = .bool (eqI xs ys) ∧ M = R) := by subst hn; subst hm; exact ints_ok xs ys hx hy okx oky lx ly

theorem getD_mem_p {l : List (Int × Int)} {k : Nat} (h : k < l.length) : l.getD k (0, 0) ∈ l := by simp [List.getD, h]

set_option maxHeartbeats 4000000 in
theorem made_ok {R : List HP} {bp bw : Option Addr} {cp cw : Nat} (n : Int) {N : Nat} (hN : n % 65536 % 65 = N) (ps : List (Int × Int)) (ow : List Int) (hrp : Rd R bp (recs pu8F ps)) (okp : SlOk bp ps.length) (hrw : Rd R bw (ints .u8 ow)) (okw : SlOk bw ow.length) (hgp : ∀ e ∈ ps, (0 ≤ e.1 ∧ e.1 ≤ 255) ∧ 0 ≤ e.2 ∧ e.2 ≤ 255) (hgw : ∀ x ∈ ow, 0 ≤ x ∧ x ≤ 255) (lp : ps.length ≤ 9223372036854775807) (lw : ow.length ≤ 9223372036854775807) :
    Ok Try.prog 14 [(.int .i64 n), (.slice bp ps.length cp), (.slice bw ow.length cw)] R
      (fun v M => ∃ bE cE bO cO, ∃ vs : List Value, (SlOk bE N ∧ N ≤ cE ∧ SlOk bO N ∧ N ≤ cO ∧ vs.length = N) ∧ v = .agg #[.int .i64 ((N : Nat) : Int), .slice bE N cE, .slice bO N cO] ∧ M = SlV 23 1 (.slice bE N cE) N vs :: SlV 3 1 (.slice bO N cO) N (ints .i64 (madeO N ow)) :: Join (rowsL vs (madeG N (ps.take 200))) :: R) := by
 refine ok_of (N := 87) Try.func14 rfl rfl rfl (fun W => ?_)
 refine c_seq (fun K1 hK1 => ?_)
 refine c_region ?_
 refine tm rfl (mv_alloc Try.zeroValue25 rfl) ?_
 rintro _ _ ⟨b1, rfl, rfl⟩
 refine t_done ?_
 refine q_then_n (hK1 _ _ ?_)
 refine c_seq (fun K2 hK2 => ?_)
 refine c_region ?_
 refine tp rfl (lv_move rfl) ?_
 refine tp rfl (lv_and (c := n % 65536) rfl rfl (and_ffff n)) ?_
 refine tp rfl (lv_rem (c := ((N : Nat) : Int)) rfl rfl (by omega) ((Int.tmod_eq_emod_of_nonneg (by omega)).trans hN)) ?_
 refine tp rfl (lv_assign rfl) ?_
 refine t_done ?_
 refine q_then_n (hK2 _ _ ?_)
 refine c_seq (fun K3 hK3 => ?_)
 refine c_draw (γ := Option Addr × Nat × Option Addr × Nat × Nat) (n := 8) Try.mixed rfl rfl (fun (bs2, cp3, bs6, cp7, b10) S => (S 2 = true → SlOk bs2 N) ∧ (S 2 = true → N ≤ cp3) ∧ (S 4 = true → SlOk bs6 N) ∧ (S 4 = true → N ≤ cp7)) (fun (bs2, cp3, bs6, cp7, b10) => [(0, 15, (.int .i64 ((N : Nat) : Int))), (1, 16, (.int .i64 ((N : Nat) : Int))), (2, 17, (.slice bs2 N cp3)), (3, 18, (.int .i64 ((N : Nat) : Int))), (4, 19, (.slice bs6 N cp7)), (5, 20, (.agg #[(.int .i64 ((N : Nat) : Int)), (.slice bs2 N cp3), (.slice bs6 N cp7)])), (6, 7, (.pointer (some ⟨b10, 0, none⟩)))]) (fun (bs2, cp3, bs6, cp7, b10) S => (Blk b1 [(.int .i64 0), (.slice none 0 0), (.slice none 0 0)] 25) :: (bif S 2 then (SlV 23 1 (.slice bs2 N cp3) N (List.replicate N (.slice none 0 0))) else Emp) :: (bif S 4 then (SlV 3 1 (.slice bs6 N cp7) N (ints .i64 (List.replicate N 0))) else Emp) :: (bif S 7 then (Blk b10 [(.int .i64 ((N : Nat) : Int)), (.slice bs2 N cp3), (.slice bs6 N cp7)] 25) else (bif S 6 then (Blk b10 [(.int .i64 0), (.slice none 0 0), (.slice none 0 0)] 25) else Emp)) :: R) (none, 0, none, 0, 0) (by simp [Nat.ble]) (fun _ h => sat_emps [_] 3 h) (fun _ _ h => h) ?_ ?_
 · -- steps
  refine ⟨?_, ?_, ?_, ?_, ?_, ?_, ?_, ?_, trivial⟩
  · -- 0
   rintro ⟨bs2, cp3, bs6, cp7, b10⟩ S hF hS D hp K hK
   try dsimp only at hF ⊢
   obtain ⟨hf0, hf1, hf2, hf3⟩ := hF
   refine d_need (small := [(0, (.int .i64 ((N : Nat) : Int)))]) ⟨look_b rfl rfl, trivial⟩ ?_
   refine tp rfl (lv_move rfl) ?_
   exact d_closes ⟨look_b rfl rfl, trivial⟩ 0 rfl rfl rfl hS (AgreeR.refl _) (t_sat (fun _ h => h) (hK (bs2, cp3, bs6, cp7, b10) ⟨hf0, hf1, hf2, hf3⟩))
  · -- 1
   rintro ⟨bs2, cp3, bs6, cp7, b10⟩ S hF hS D hp K hK
   try dsimp only at hF ⊢
   obtain ⟨hf0, hf1, hf2, hf3⟩ := hF
   refine d_need (small := [(0, (.int .i64 ((N : Nat) : Int)))]) ⟨look_b rfl rfl, trivial⟩ ?_
   refine tp rfl (lv_move rfl) ?_
   exact d_closes ⟨look_b rfl rfl, trivial⟩ 1 rfl rfl rfl hS (AgreeR.refl _) (t_sat (fun _ h => h) (hK (bs2, cp3, bs6, cp7, b10) ⟨hf0, hf1, hf2, hf3⟩))
  · -- 2
   rintro ⟨bs2, cp3, bs6, cp7, b10⟩ S hF hS D hp K hK
   try dsimp only at hF ⊢
   obtain ⟨hf0, hf1, hf2, hf3⟩ := hF
   have s1 := hp 1 rfl
   refine d_need (small := [(16, (.int .i64 ((N : Nat) : Int)))]) ⟨look_row rfl 1 rfl s1, trivial⟩ ?_
   refine t_f3 ?_
   refine t_cF (nf hS D (k := 7) (i := 2) rfl) ?_
   refine tm rfl (mv_makeSlice (i := Try.t23) Try.underlying22 Try.type23 rfl rfl rfl rfl rfl (by omega) (by rw [show Try.t23.bytes = 24 from rfl]; omega) (by omega)) ?_
   rintro _ _ ⟨bs2, cp3, hok4, hle5, rfl, rfl⟩
   rw [show (((N : Nat) : Int)).toNat = N from rfl] at hok4 hle5 ⊢
   refine t_f1 ?_
   refine t_wF (A := (Blk b10 [(.int .i64 ((N : Nat) : Int)), (.slice bs2 N cp3), (.slice bs6 N cp7)] 25)) (nf hS D (k := 7) (i := 2) rfl) ?_
   refine t_f4 ?_
   refine t_f4 ?_
   refine t_f4 ?_
   refine t_f4 ?_
   refine t_sat (fun _ h => sat_put [_] h) ?_
   exact d_closes ⟨look_row rfl 1 rfl s1, trivial⟩ 2 rfl rfl rfl hS (by exact ⟨.inl rfl, .inl rfl, .inr ⟨rfl, rfl, hS⟩, .inl rfl, .inl rfl, .inr ⟨rfl, rfl, (nf hS D (k := 5) (i := 2) rfl)⟩, .inl rfl, trivial⟩) (t_sat (fun _ h => h) (hK (bs2, cp3, bs6, cp7, b10) ⟨(fun _ => hok4), (fun _ => hle5), hf2, hf3⟩))
  · -- 3
   rintro ⟨bs2, cp3, bs6, cp7, b10⟩ S hF hS D hp K hK
   try dsimp only at hF ⊢
   obtain ⟨hf0, hf1, hf2, hf3⟩ := hF
   refine d_need (small := [(0, (.int .i64 ((N : Nat) : Int)))]) ⟨look_b rfl rfl, trivial⟩ ?_
   refine tp rfl (lv_move rfl) ?_
   exact d_closes ⟨look_b rfl rfl, trivial⟩ 3 rfl rfl rfl hS (AgreeR.refl _) (t_sat (fun _ h => h) (hK (bs2, cp3, bs6, cp7, b10) ⟨hf0, hf1, hf2, hf3⟩))
  · -- 4
   rintro ⟨bs2, cp3, bs6, cp7, b10⟩ S hF hS D hp K hK
   try dsimp only at hF ⊢
   obtain ⟨hf0, hf1, hf2, hf3⟩ := hF
   have s3 := hp 3 rfl
   refine d_need (small := [(18, (.int .i64 ((N : Nat) : Int)))]) ⟨look_row rfl 3 rfl s3, trivial⟩ ?_
   refine t_f3 ?_
   refine t_cF (nf hS D (k := 7) (i := 4) rfl) ?_
   refine tm rfl (mv_makeSlice (i := Try.t3) Try.underlying23 Try.type3 rfl rfl rfl rfl rfl (by omega) (by rw [show Try.t3.bytes = 8 from rfl]; omega) (by omega)) ?_
   rintro _ _ ⟨bs6, cp7, hok8, hle9, rfl, rfl⟩
   rw [show (((N : Nat) : Int)).toNat = N from rfl] at hok8 hle9 ⊢
   rw [ints_rep]
   refine t_f1 ?_
   refine t_wF (A := (Blk b10 [(.int .i64 ((N : Nat) : Int)), (.slice bs2 N cp3), (.slice bs6 N cp7)] 25)) (nf hS D (k := 7) (i := 4) rfl) ?_
   refine t_f4 ?_
   refine t_f4 ?_
   refine t_f4 ?_
   refine t_f4 ?_
   refine t_sat (fun _ h => sat_put [_, _] h) ?_
   exact d_closes ⟨look_row rfl 3 rfl s3, trivial⟩ 4 rfl rfl rfl hS (by exact ⟨.inl rfl, .inl rfl, .inl rfl, .inl rfl, .inr ⟨rfl, rfl, hS⟩, .inr ⟨rfl, rfl, (nf hS D (k := 5) (i := 4) rfl)⟩, .inl rfl, trivial⟩) (t_sat (fun _ h => h) (hK (bs2, cp3, bs6, cp7, b10) ⟨hf0, hf1, (fun _ => hok8), (fun _ => hle9)⟩))
  · -- 5
   rintro ⟨bs2, cp3, bs6, cp7, b10⟩ S hF hS D hp K hK
   try dsimp only at hF ⊢
   obtain ⟨hf0, hf1, hf2, hf3⟩ := hF
   have s2 := hp 2 rfl
   have hok4 := hf0 s2
   have hle5 := hf1 s2
   have s4 := hp 4 rfl
   have hok8 := hf2 s4
   have hle9 := hf3 s4
   have s0 := hp 0 rfl
   refine d_need (small := [(15, (.int .i64 ((N : Nat) : Int))), (17, (.slice bs2 N cp3)), (19, (.slice bs6 N cp7))]) ⟨look_row rfl 0 rfl s0, look_row rfl 2 rfl s2, look_row rfl 4 rfl s4, trivial⟩ ?_
   refine tp rfl (lv_build (cs := [(.int .i64 ((N : Nat) : Int)), (.slice bs2 N cp3), (.slice bs6 N cp7)]) (pl := [(0, 1), (1, 1), (2, 1)]) Try.underlying25 Try.zeroValue25 (fun _ => by simp) rfl rfl) ?_
   exact d_closes ⟨look_row rfl 0 rfl s0, look_row rfl 2 rfl s2, look_row rfl 4 rfl s4, trivial⟩ 5 rfl rfl rfl hS (AgreeR.refl _) (t_sat (fun _ h => h) (hK (bs2, cp3, bs6, cp7, b10) ⟨hf0, hf1, hf2, hf3⟩))
  · -- 6
   rintro ⟨bs2, cp3, bs6, cp7, b10⟩ S hF hS D hp K hK
   try dsimp only at hF ⊢
   obtain ⟨hf0, hf1, hf2, hf3⟩ := hF
   refine d_need (small := []) trivial ?_
   refine t_f3 ?_
   refine t_cF (nf hS D (k := 7) (i := 6) rfl) ?_
   refine t_cF hS ?_
   refine tm rfl (mv_alloc Try.zeroValue25 rfl) ?_
   rintro _ _ ⟨b10, rfl, rfl⟩
   refine t_f1 ?_
   refine t_wF (A := (Blk b10 [(.int .i64 0), (.slice none 0 0), (.slice none 0 0)] 25)) hS ?_
   refine t_wF (A := (Blk b10 [(.int .i64 ((N : Nat) : Int)), (.slice bs2 N cp3), (.slice bs6 N cp7)] 25)) (nf hS D (k := 7) (i := 6) rfl) ?_
   refine t_f1 ?_
   refine t_wF (A := (Blk b10 [(.int .i64 ((N : Nat) : Int)), (.slice bs2 N cp3), (.slice bs6 N cp7)] 25)) (nf hS D (k := 7) (i := 6) rfl) ?_
   refine t_f1 ?_
   refine t_f4 ?_
   refine t_f4 ?_
   refine t_f4 ?_
   refine t_f4 ?_
   refine t_sat (fun _ h => sat_put [_, _, _] h) ?_
   exact d_closes trivial 6 rfl rfl rfl hS (by exact ⟨.inl rfl, .inl rfl, .inl rfl, .inl rfl, .inl rfl, .inl rfl, .inr ⟨rfl, rfl, hS⟩, trivial⟩) (t_sat (fun _ h => h) (hK (bs2, cp3, bs6, cp7, b10) ⟨hf0, hf1, hf2, hf3⟩))
  · -- 7
   rintro ⟨bs2, cp3, bs6, cp7, b10⟩ S hF hS D hp K hK
   try dsimp only at hF ⊢
   obtain ⟨hf0, hf1, hf2, hf3⟩ := hF
   have s2 := hp 2 rfl
   have hok4 := hf0 s2
   have hle5 := hf1 s2
   have s4 := hp 4 rfl
   have hok8 := hf2 s4
   have hle9 := hf3 s4
   have s6 := hp 6 rfl
   have s5 := hp 5 rfl
   refine d_need (small := [(7, (.pointer (some ⟨b10, 0, none⟩))), (20, (.agg #[(.int .i64 ((N : Nat) : Int)), (.slice bs2 N cp3), (.slice bs6 N cp7)]))]) ⟨look_row rfl 6 rfl s6, look_row rfl 5 rfl s5, trivial⟩ ?_
   refine t_f3 ?_
   refine t_cF hS ?_
   refine t_cT s6 ?_
   refine ts (sv_blkAgg (news := [(.int .i64 ((N : Nat) : Int)), (.slice bs2 N cp3), (.slice bs6 N cp7)]) Try.sizeOf25 rfl rfl rfl rfl (Nat.le_of_ble_eq_true rfl) rfl) ?_
   refine t_f3 ?_
   refine t_f3 ?_
   refine t_f3 ?_
   exact d_closes0 ⟨look_row rfl 6 rfl s6, look_row rfl 5 rfl s5, trivial⟩ rfl (t_sat (fun _ h => h) (hK (bs2, cp3, bs6, cp7, b10) ⟨hf0, hf1, hf2, hf3⟩))
 · -- behind
  rintro ⟨bs2, cp3, bs6, cp7, b10⟩ hF
  try dsimp only at hF ⊢
  obtain ⟨hf0, hf1, hf2, hf3⟩ := hF
  have hok4 := hf0 rfl
  have hle5 := hf1 rfl
  have hok8 := hf2 rfl
  have hle9 := hf3 rfl
  refine t_weak (E' := [(0, (.int .i64 ((N : Nat) : Int))), (1, (.slice bp ps.length cp)), (2, (.slice bw ow.length cw)), (6, (.pointer (some ⟨b1, 0, none⟩))), (7, (.pointer (some ⟨b10, 0, none⟩)))]) ⟨rfl, rfl, rfl, rfl, rfl, trivial⟩ ?_
  refine q_then_n (hK3 _ _ ?_)
  refine t_sat (fun _ h => sat_nilrows N h) ?_
  refine c_seq (fun K4 hK4 => ?_)
  have hM4 : ∀ (vs2 : List Value), vs2.length = N ∧ True → Tri K4 W 87 [(0, (.int .i64 ((N : Nat) : Int))), (1, (.slice bp ps.length cp)), (2, (.slice bw ow.length cw)), (6, (.pointer (some ⟨b1, 0, none⟩))), (7, (.pointer (some ⟨b10, 0, none⟩)))] ((Join (rowsL vs2 (madeG N (ps.take 200)))) :: (Blk b1 [(.int .i64 0), (.slice none 0 0), (.slice none 0 0)] 25) :: (SlV 23 1 (.slice bs2 N cp3) N vs2) :: (SlV 3 1 (.slice bs6 N cp7) N (ints .i64 (List.replicate N 0))) :: (Blk b10 [(.int .i64 ((N : Nat) : Int)), (.slice bs2 N cp3), (.slice bs6 N cp7)] 25) :: R) := by
   rintro vs2 hF
   obtain ⟨hvl2, _⟩ := hF
   refine hK4 _ _ ?_
   refine c_seq (fun K5 hK5 => ?_)
   refine c_region ?_
   refine tm rfl (mv_buildSlice (cs := [(.int .i64 0), (.int .i64 5), (.int .i64 6)]) Try.underlying23 Try.sizeOf3 Try.zeroValue3 (by decide) rfl rfl rfl rfl) ?_
   rintro _ _ ⟨bs11, cp12, hok13, hle14, rfl, rfl⟩
   refine tp rfl (lv_assign rfl) ?_
   refine t_done ?_
   refine q_then_n (hK5 _ _ ?_)
   refine c_seq (fun K6 hK6 => ?_)
   refine c_seq (fun K7 hK7 => ?_)
   refine c_region ?_
   rw [show List.replicate N 0 = ownP N ow 0 from (ownP_zero N ow).symm]
   refine tp rfl (lv_assign rfl) ?_
   refine t_done ?_
   refine q_then_n (hK7 _ _ ?_)
   refine c_block ?_
   refine c_loop (γ := (Nat)) (fun (i : Nat) => i ≤ N) (fun (i : Nat) => [(0, (.int .i64 ((N : Nat) : Int))), (1, (.slice bp ps.length cp)), (2, (.slice bw ow.length cw)), (6, (.pointer (some ⟨b1, 0, none⟩))), (7, (.pointer (some ⟨b10, 0, none⟩))), (10, (.slice bs11 3 cp12)), (11, (.int .i64 ((i : Nat) : Int)))]) (fun (i : Nat) => (SlV 3 1 (.slice bs11 3 cp12) 3 (ints .i64 [0, 5, 6])) :: (Join (rowsL vs2 (madeG N (ps.take 200)))) :: (Blk b1 [(.int .i64 0), (.slice none 0 0), (.slice none 0 0)] 25) :: (SlV 23 1 (.slice bs2 N cp3) N vs2) :: (SlV 3 1 (.slice bs6 N cp7) N (ints .i64 (ownP N ow i))) :: (Blk b10 [(.int .i64 ((N : Nat) : Int)), (.slice bs2 N cp3), (.slice bs6 N cp7)] 25) :: R) (fun (i : Nat) => N - i) (0) (by omega) ⟨rfl, rfl, rfl, rfl, rfl, rfl, rfl, trivial⟩ (fun _ h => h) ?_
   rintro i K8 hF hK8
   try dsimp only at hF hK8 ⊢
   have hpl := ownP_len N ow i
   refine c_seq (fun K9 hK9 => ?_)
   refine c_seq (fun K10 hK10 => ?_)
   refine c_region ?_
   by_cases hc15 : ((i : Nat) : Int) < ((N : Nat) : Int) ∧ ((i : Nat) : Int) < ((ow.length : Nat) : Int)
   · -- both
    have hc15a := hc15.1
    have hc15b := hc15.2
    refine tp rfl (lv_move rfl) ?_
    refine tp rfl (lv_move rfl) ?_
    refine tp rfl (lv_lss rfl rfl (decide_eq_true hc15.1)) ?_
    refine tp rfl (lv_move rfl) ?_
    refine t_guard rfl rfl ?_
    refine tp rfl (lv_move rfl) ?_
    refine t_guard rfl rfl ?_
    refine tp rfl (lv_move rfl) ?_
    refine t_guard rfl rfl ?_
    refine tp rfl (lv_len Try.underlying35 rfl rfl) ?_
    refine t_guard rfl rfl ?_
    refine tp rfl (lv_lss rfl rfl (decide_eq_true hc15.2)) ?_
    refine tp rfl (lv_pick_t rfl rfl) ?_
    refine t_done ?_
    refine q_then_n (hK10 _ _ ?_)
    refine c_true rfl ?_
    refine c_skip ?_
    refine q_then_n (hK9 _ _ ?_)
    refine c_seq (fun K11 hK11 => ?_)
    refine c_block ?_
    have hgi := hgw (ow.getD i 0) (getD_mem_i (by omega))
    refine c_draw (γ := Unit) (n := 13) Try.mixed rfl rfl (fun _ S => True) (fun _ => [(0, 74, (.pointer (some ⟨b10, 2, none⟩))), (1, 75, (.slice bs6 N cp7)), (2, 76, (.int .i64 ((i : Nat) : Int))), (3, 77, (.slice bs11 3 cp12)), (4, 78, (.slice bw ow.length cw)), (5, 79, (.int .i64 ((i : Nat) : Int))), (6, 80, (.pointer (some (ad bw i)))), (7, 81, (.int .u8 ((ow).getD i 0))), (8, 82, (.int .u8 (((ow).getD i 0) % 3))), (9, 83, (.pointer (some (ad bs11 ((((ow).getD i 0) % 3).toNat))))), (10, 84, (.int .i64 (([0, 5, 6]).getD ((((ow).getD i 0) % 3).toNat) 0))), (11, 85, (.pointer (some (ad bs6 i))))]) (fun _ S => (SlV 3 1 (.slice bs11 3 cp12) 3 (ints .i64 [0, 5, 6])) :: (Join (rowsL vs2 (madeG N (ps.take 200)))) :: (Blk b1 [(.int .i64 0), (.slice none 0 0), (.slice none 0 0)] 25) :: (SlV 23 1 (.slice bs2 N cp3) N vs2) :: (bif S 12 then (SlV 3 1 (.slice bs6 N cp7) N (ints .i64 (((ownP N ow i)).set i (([0, 5, 6]).getD ((((ow).getD i 0) % 3).toNat) 0)))) else (SlV 3 1 (.slice bs6 N cp7) N (ints .i64 (ownP N ow i)))) :: (Blk b10 [(.int .i64 ((N : Nat) : Int)), (.slice bs2 N cp3), (.slice bs6 N cp7)] 25) :: R) (()) trivial (fun _ h => h) (fun _ _ h => h) ?_ ?_
    · -- steps
     refine ⟨?_, ?_, ?_, ?_, ?_, ?_, ?_, ?_, ?_, ?_, ?_, ?_, ?_, trivial⟩
     · -- 0
      rintro _ S hF hS D hp K hK
      try dsimp only at hF ⊢
      refine d_need (small := [(7, (.pointer (some ⟨b10, 0, none⟩)))]) ⟨look_b rfl rfl, trivial⟩ ?_
      refine tp rfl (lv_fieldAddr (o' := 2) Try.underlying25 rfl Try.sizeOf23 rfl rfl) ?_
      exact d_closes ⟨look_b rfl rfl, trivial⟩ 0 rfl rfl rfl hS (AgreeR.refl _) (t_sat (fun _ h => h) (hK () trivial))
     · -- 1
      rintro _ S hF hS D hp K hK
      try dsimp only at hF ⊢
      have s0 := hp 0 rfl
      refine d_need (small := [(74, (.pointer (some ⟨b10, 2, none⟩)))]) ⟨look_row rfl 0 rfl s0, trivial⟩ ?_
      refine tp rfl (lv_load Try.isAgg23 rfl (gives_blk (.tail _ (.tail _ (.tail _ (.tail _ (.tail _ (.head _)))))) rfl)) ?_
      exact d_closes ⟨look_row rfl 0 rfl s0, trivial⟩ 1 rfl rfl rfl hS (AgreeR.refl _) (t_sat (fun _ h => h) (hK () trivial))
     · -- 2
      rintro _ S hF hS D hp K hK
      try dsimp only at hF ⊢
      refine d_need (small := [(11, (.int .i64 ((i : Nat) : Int)))]) ⟨look_b rfl rfl, trivial⟩ ?_
      refine tp rfl (lv_move rfl) ?_
      exact d_closes ⟨look_b rfl rfl, trivial⟩ 2 rfl rfl rfl hS (AgreeR.refl _) (t_sat (fun _ h => h) (hK () trivial))
     · -- 3
      rintro _ S hF hS D hp K hK
      try dsimp only at hF ⊢
      refine d_need (small := [(10, (.slice bs11 3 cp12))]) ⟨look_b rfl rfl, trivial⟩ ?_
      refine tp rfl (lv_move rfl) ?_
      exact d_closes ⟨look_b rfl rfl, trivial⟩ 3 rfl rfl rfl hS (AgreeR.refl _) (t_sat (fun _ h => h) (hK () trivial))
     · -- 4
      rintro _ S hF hS D hp K hK
      try dsimp only at hF ⊢
      refine d_need (small := [(2, (.slice bw ow.length cw))]) ⟨look_b rfl rfl, trivial⟩ ?_
      refine tp rfl (lv_move rfl) ?_
      exact d_closes ⟨look_b rfl rfl, trivial⟩ 4 rfl rfl rfl hS (AgreeR.refl _) (t_sat (fun _ h => h) (hK () trivial))
     · -- 5
      rintro _ S hF hS D hp K hK
      try dsimp only at hF ⊢
      refine d_need (small := [(11, (.int .i64 ((i : Nat) : Int)))]) ⟨look_b rfl rfl, trivial⟩ ?_
      refine tp rfl (lv_move rfl) ?_
      exact d_closes ⟨look_b rfl rfl, trivial⟩ 5 rfl rfl rfl hS (AgreeR.refl _) (t_sat (fun _ h => h) (hK () trivial))
     · -- 6
      rintro _ S hF hS D hp K hK
      try dsimp only at hF ⊢
      have s4 := hp 4 rfl
      have s5 := hp 5 rfl
      refine d_need (small := [(78, (.slice bw ow.length cw)), (79, (.int .i64 ((i : Nat) : Int)))]) ⟨look_row rfl 4 rfl s4, look_row rfl 5 rfl s5, trivial⟩ ?_
      refine tp rfl (lv_indexAddr (k' := i) Try.underlying35 Try.sizeOf5 rfl rfl okw (by omega) (by omega) (by omega)) ?_
      exact d_closes ⟨look_row rfl 4 rfl s4, look_row rfl 5 rfl s5, trivial⟩ 6 rfl rfl rfl hS (AgreeR.refl _) (t_sat (fun _ h => h) (hK () trivial))
     · -- 7
      rintro _ S hF hS D hp K hK
      try dsimp only at hF ⊢
      have s6 := hp 6 rfl
      refine d_need (small := [(80, (.pointer (some (ad bw i))))]) ⟨look_row rfl 6 rfl s6, trivial⟩ ?_
      refine tp rfl (lv_load Try.isAgg5 rfl (Rd.gives (Rd.cons (Rd.cons (Rd.cons (Rd.cons (Rd.cons (Rd.cons hrw)))))) (ints_get (by first | omega | (simp; omega))))) ?_
      exact d_closes ⟨look_row rfl 6 rfl s6, trivial⟩ 7 rfl rfl rfl hS (AgreeR.refl _) (t_sat (fun _ h => h) (hK () trivial))
     · -- 8
      rintro _ S hF hS D hp K hK
      try dsimp only at hF ⊢
      have s7 := hp 7 rfl
      refine d_need (small := [(81, (.int .u8 ((ow).getD i 0)))]) ⟨look_row rfl 7 rfl s7, trivial⟩ ?_
      refine tp rfl (lv_rem (c := ((ow).getD i 0) % 3) rfl rfl (by omega) (Int.tmod_eq_emod_of_nonneg (by omega))) ?_
      exact d_closes ⟨look_row rfl 7 rfl s7, trivial⟩ 8 rfl rfl rfl hS (AgreeR.refl _) (t_sat (fun _ h => h) (hK () trivial))
     · -- 9
      rintro _ S hF hS D hp K hK
      try dsimp only at hF ⊢
      have s3 := hp 3 rfl
      have s8 := hp 8 rfl
      refine d_need (small := [(77, (.slice bs11 3 cp12)), (82, (.int .u8 (((ow).getD i 0) % 3)))]) ⟨look_row rfl 3 rfl s3, look_row rfl 8 rfl s8, trivial⟩ ?_
      refine tp rfl (lv_indexAddr (k' := (((ow).getD i 0) % 3).toNat) Try.underlying23 Try.sizeOf3 rfl rfl hok13 (by omega) (by omega) (by omega)) ?_
      exact d_closes ⟨look_row rfl 3 rfl s3, look_row rfl 8 rfl s8, trivial⟩ 9 rfl rfl rfl hS (AgreeR.refl _) (t_sat (fun _ h => h) (hK () trivial))
     · -- 10
      rintro _ S hF hS D hp K hK
      try dsimp only at hF ⊢
      have s9 := hp 9 rfl
      refine d_need (small := [(83, (.pointer (some (ad bs11 ((((ow).getD i 0) % 3).toNat)))))]) ⟨look_row rfl 9 rfl s9, trivial⟩ ?_
      refine tp rfl (lv_load Try.isAgg3 rfl (gives_sl (.head _) (ints_get (by first | omega | (simp; omega))))) ?_
      exact d_closes ⟨look_row rfl 9 rfl s9, trivial⟩ 10 rfl rfl rfl hS (AgreeR.refl _) (t_sat (fun _ h => h) (hK () trivial))
     · -- 11
      rintro _ S hF hS D hp K hK
      try dsimp only at hF ⊢
      have s1 := hp 1 rfl
      have s2 := hp 2 rfl
      refine d_need (small := [(75, (.slice bs6 N cp7)), (76, (.int .i64 ((i : Nat) : Int)))]) ⟨look_row rfl 1 rfl s1, look_row rfl 2 rfl s2, trivial⟩ ?_
      refine tp rfl (lv_indexAddr (k' := i) Try.underlying23 Try.sizeOf3 rfl rfl hok8 (by omega) (by omega) (by omega)) ?_
      exact d_closes ⟨look_row rfl 1 rfl s1, look_row rfl 2 rfl s2, trivial⟩ 11 rfl rfl rfl hS (AgreeR.refl _) (t_sat (fun _ h => h) (hK () trivial))
     · -- 12
      rintro _ S hF hS D hp K hK
      try dsimp only at hF ⊢
      have s10 := hp 10 rfl
      have s11 := hp 11 rfl
      refine d_need (small := [(84, (.int .i64 (([0, 5, 6]).getD ((((ow).getD i 0) % 3).toNat) 0))), (85, (.pointer (some (ad bs6 i))))]) ⟨look_row rfl 10 rfl s10, look_row rfl 11 rfl s11, trivial⟩ ?_
      refine t_f4 ?_
      refine t_cF hS ?_
      refine ts (sv_sl Try.sizeOf3 rfl rfl rfl (by first | (rw [ints_length]; omega) | (simp; omega) | omega) ints_set) ?_
      refine t_f4 ?_
      refine t_f4 ?_
      refine t_f4 ?_
      refine t_f4 ?_
      exact d_closes0 ⟨look_row rfl 10 rfl s10, look_row rfl 11 rfl s11, trivial⟩ rfl (t_sat (fun _ h => h) (hK () trivial))
    · -- behind
     rintro _ hF
     try dsimp only at hF ⊢
     refine t_weak (E' := [(0, (.int .i64 ((N : Nat) : Int))), (1, (.slice bp ps.length cp)), (2, (.slice bw ow.length cw)), (6, (.pointer (some ⟨b1, 0, none⟩))), (7, (.pointer (some ⟨b10, 0, none⟩))), (10, (.slice bs11 3 cp12)), (11, (.int .i64 ((i : Nat) : Int))), (71, (.bool true))]) ⟨rfl, rfl, rfl, rfl, rfl, rfl, rfl, rfl, trivial⟩ ?_
     refine q_in_n ?_
     refine q_then_n (hK11 _ _ ?_)
     refine c_region ?_
     refine tp rfl (lv_move rfl) ?_
     refine tp rfl (lv_add (c := ((i + 1 : Nat) : Int)) rfl rfl (wr_i64_succ (by omega))) ?_
     refine tp rfl (lv_assign rfl) ?_
     refine t_done ?_
     refine q_then_n ?_
     rw [show (ownP N ow i).set i (([0, 5, 6] : List Int).getD (ow.getD i 0 % 3).toNat 0) = ownP N ow (i + 1) from ownP_succ (by omega) (by omega)]
     exact t_weak (by exact ⟨rfl, rfl, rfl, rfl, rfl, rfl, rfl, trivial⟩) ((hK8 (i + 1) (by omega) (by omega)))
   · -- not both
    refine t_cut0 (E' := [(0, (.int .i64 ((N : Nat) : Int))), (1, (.slice bp ps.length cp)), (2, (.slice bw ow.length cw)), (6, (.pointer (some ⟨b1, 0, none⟩))), (7, (.pointer (some ⟨b10, 0, none⟩))), (10, (.slice bs11 3 cp12)), (11, (.int .i64 ((i : Nat) : Int))), (71, (.bool false))]) ?_ (fun KK hKK => ?_)
    ·
     refine q_then_n (hK10 _ _ ?_)
     refine c_false rfl ?_
     refine c_exit ?_
     refine q_then_x ?_
     refine q_then_x ?_
     refine q_in_x ?_
     refine q_then_n (hK6 _ _ ?_)
     refine c_seq (fun K11 hK11 => ?_)
     refine c_region ?_
     refine tp rfl (lv_loadAgg (cs := [(.int .i64 ((N : Nat) : Int)), (.slice bs2 N cp3), (.slice bs6 N cp7)]) Try.isAgg25 Try.sizeOf25 rfl (gives_all3 (gives_blk (.tail _ (.tail _ (.tail _ (.tail _ (.tail _ (.head _)))))) rfl) (gives_blk (.tail _ (.tail _ (.tail _ (.tail _ (.tail _ (.head _)))))) rfl) (gives_blk (.tail _ (.tail _ (.tail _ (.tail _ (.tail _ (.head _)))))) rfl))) ?_
     refine t_f2 ?_
     refine ts (sv_blkAgg (news := [(.int .i64 ((N : Nat) : Int)), (.slice bs2 N cp3), (.slice bs6 N cp7)]) Try.sizeOf25 rfl rfl rfl rfl (Nat.le_of_ble_eq_true rfl) rfl) ?_
     refine t_done ?_
     refine q_then_n (hK11 _ _ ?_)
     refine c_ret ?_
     refine t_f1 ?_
     refine t_drop ?_
     refine t_f4 ?_
     refine t_drop ?_
     refine t_f1 ?_
     refine t_f3 ?_
     refine t_f3 ?_
     refine t_f3 ?_
     refine q_retc (cs := [(.int .i64 ((N : Nat) : Int)), (.slice bs2 N cp3), (.slice bs6 N cp7)]) rfl rfl Try.isAgg25 Try.sizeOf25 (gives_all3 (gives_blk (.head _) rfl) (gives_blk (.head _) rfl) (gives_blk (.head _) rfl)) (fun _ h => h.drop) ?_
     rw [show ownP N ow i = madeO N ow from ownP_end (by omega)]
     exact ⟨_, _, _, _, vs2, ⟨hok4, hle5, hok8, hle9, hvl2⟩, rfl, rfl⟩
    · -- which
     by_cases hc15A : ((i : Nat) : Int) < ((N : Nat) : Int)
     ·
      have hc15B : ¬ (((i : Nat) : Int) < ((ow.length : Nat) : Int)) := fun hh => hc15 ⟨hc15A, hh⟩
      refine tp rfl (lv_move rfl) ?_
      refine tp rfl (lv_move rfl) ?_
      refine tp rfl (lv_lss rfl rfl (decide_eq_true hc15A)) ?_
      refine tp rfl (lv_move rfl) ?_
      refine t_guard rfl rfl ?_
      refine tp rfl (lv_move rfl) ?_
      refine t_guard rfl rfl ?_
      refine tp rfl (lv_move rfl) ?_
      refine t_guard rfl rfl ?_
      refine tp rfl (lv_len Try.underlying35 rfl rfl) ?_
      refine t_guard rfl rfl ?_
      refine tp rfl (lv_lss rfl rfl (decide_eq_false hc15B)) ?_
      refine tp rfl (lv_pick_t rfl rfl) ?_
      exact t_done (t_weak (by exact ⟨rfl, rfl, rfl, rfl, rfl, rfl, rfl, rfl, trivial⟩) hKK)
     ·
      refine tp rfl (lv_move rfl) ?_
      refine tp rfl (lv_move rfl) ?_
      refine tp rfl (lv_lss rfl rfl (decide_eq_false hc15A)) ?_
      refine tp rfl (lv_move rfl) ?_
      refine t_skip rfl rfl rfl ?_
      refine t_skip rfl rfl rfl ?_
      refine t_skip rfl rfl rfl ?_
      refine t_skip rfl rfl rfl ?_
      refine tp rfl (lv_pick_f rfl rfl) ?_
      exact t_done (t_weak (by exact ⟨rfl, rfl, rfl, rfl, rfl, rfl, rfl, rfl, trivial⟩) hKK)
  refine c_seq (fun K5 hK5 => ?_)
  refine c_region ?_
  refine tp rfl (lv_assign rfl) ?_
  refine t_done ?_
  refine q_then_n (hK5 _ _ ?_)
  refine c_block ?_
  refine c_loop (γ := (Nat) × (List Value)) (fun (k, vs) => k ≤ ps.length ∧ k ≤ 200 ∧ vs.length = N) (fun (k, vs) => [(0, (.int .i64 ((N : Nat) : Int))), (1, (.slice bp ps.length cp)), (2, (.slice bw ow.length cw)), (6, (.pointer (some ⟨b1, 0, none⟩))), (7, (.pointer (some ⟨b10, 0, none⟩))), (8, (.int .i64 ((k : Nat) : Int)))]) (fun (k, vs) => (Join (rowsL vs (madeG N (ps.take k)))) :: (Blk b1 [(.int .i64 0), (.slice none 0 0), (.slice none 0 0)] 25) :: (SlV 23 1 (.slice bs2 N cp3) N vs) :: (SlV 3 1 (.slice bs6 N cp7) N (ints .i64 (List.replicate N 0))) :: (Blk b10 [(.int .i64 ((N : Nat) : Int)), (.slice bs2 N cp3), (.slice bs6 N cp7)] 25) :: R) (fun (k, vs) => ps.length - k) (0, List.replicate N (.slice none 0 0)) ⟨by omega, by omega, by simp⟩ ⟨rfl, rfl, rfl, rfl, rfl, rfl, trivial⟩ (fun _ h => h) ?_
  rintro ⟨k, vs⟩ K6 hF hK6
  try dsimp only at hF hK6 ⊢
  obtain ⟨hk, hk2, hvl⟩ := hF
  refine c_seq (fun K7 hK7 => ?_)
  refine c_seq (fun K8 hK8 => ?_)
  refine c_region ?_
  refine tp rfl (lv_move rfl) ?_
  by_cases h16 : ((N : Nat) : Int) > 0
  · -- yes
   refine tp rfl (lv_gtr rfl rfl (decide_eq_true h16)) ?_
   refine tp rfl (lv_move rfl) ?_
   refine t_guard rfl rfl ?_
   refine tp rfl (lv_move rfl) ?_
   refine t_guard rfl rfl ?_
   refine tp rfl (lv_move rfl) ?_
   refine t_guard rfl rfl ?_
   refine tp rfl (lv_len Try.underlying34 rfl rfl) ?_
   refine t_guard rfl rfl ?_
   by_cases h17 : ((k : Nat) : Int) < ((ps.length : Nat) : Int)
   · -- yes
    refine tp rfl (lv_lss rfl rfl (decide_eq_true h17)) ?_
    refine tp rfl (lv_pick_t rfl rfl) ?_
    refine tp rfl (lv_move rfl) ?_
    refine t_guard rfl rfl ?_
    refine tp rfl (lv_move rfl) ?_
    refine t_guard rfl rfl ?_
    by_cases h18 : ((k : Nat) : Int) < 200
    · -- yes
     refine tp rfl (lv_lss rfl rfl (decide_eq_true h18)) ?_
     refine tp rfl (lv_pick_t rfl rfl) ?_
     refine t_done ?_
     refine q_then_n (hK8 _ _ ?_)
     refine c_true rfl ?_
     refine c_skip ?_
     refine q_then_n (hK7 _ _ ?_)
     refine c_seq (fun K9 hK9 => ?_)
     refine c_block ?_
     refine c_seq (fun K10 hK10 => ?_)
     refine c_region ?_
     have hgk := hgp (ps.getD k (0, 0)) (getD_mem_p (by omega))
     have hgl := madeG_len N (ps.take k)
     obtain ⟨a, ha⟩ : ∃ a : Nat, (ps.getD k (0, 0)).1 % (N : Int) = (a : Int) := ⟨_, (Int.toNat_of_nonneg (Int.emod_nonneg _ (by omega))).symm⟩
     have haN : a < N := by have := Int.emod_lt_of_pos (ps.getD k (0, 0)).1 (show (0 : Int) < N by omega); omega
     have hrl := madeG_le N (ps.take k) a
     have htk : (ps.take k).length ≤ 200 := by rw [List.length_take]; omega
     refine tp rfl (lv_move rfl) ?_
     refine tp rfl (lv_move rfl) ?_
     refine tp rfl (lv_indexAddr (k' := k * 2) Try.underlying34 Try.sizeOf50 rfl rfl okp (by omega) (by omega) (by omega)) ?_
     refine tp rfl (lv_indexArr_ad (k' := k * 2) Try.underlying50 Try.sizeOf5 rfl rfl (by omega) (by omega) (by omega)) ?_
     refine tp rfl (lv_load Try.isAgg5 rfl (Rd.gives (Rd.cons (Rd.cons (Rd.cons (Rd.cons (Rd.cons hrp))))) ((recs_get (k := k) (j := 0) pu8F_len (d := (0, 0)) (by first | omega | (simp; omega)) (Nat.le_of_ble_eq_true rfl)).trans rfl))) ?_
     refine tp rfl (lv_convert (c := (ps.getD k (0, 0)).1) Try.underlying5 Try.underlying3 rfl (wr_i64 (by omega) (by omega))) ?_
     refine tp rfl (lv_move rfl) ?_
     refine tp rfl (lv_rem (c := ((a : Nat) : Int)) rfl rfl (by omega) ((Int.tmod_eq_emod_of_nonneg (by omega)).trans ha)) ?_
     refine tp rfl (lv_assign rfl) ?_
     refine t_done ?_
     refine q_then_n (hK10 _ _ ?_)
     refine t_sat (fun _ h => h.takeRow (a := a) (by omega) (by omega)) ?_
     refine t_openI (fun ba ca hoka hlea hva => ?_)
     refine c_draw (γ := Option Addr × Nat × Option Addr × Nat) (n := 20) Try.mixed rfl rfl (fun (bs19, cp20, bs23, cp24) S => (S 16 = true → SlOk bs19 1) ∧ (S 16 = true → 1 ≤ cp20) ∧ (S 17 = true → SlOk bs23 ((((madeG N (ps.take k)).getD a []).length) + 1)) ∧ (S 17 = true → (((madeG N (ps.take k)).getD a []).length) + 1 ≤ cp24)) (fun (bs19, cp20, bs23, cp24) => [(0, 43, (.pointer (some ⟨b10, 1, none⟩))), (1, 44, (.slice bs2 N cp3)), (2, 45, (.int .i64 ((a : Nat) : Int))), (3, 46, (.pointer (some ⟨b10, 1, none⟩))), (4, 47, (.slice bs2 N cp3)), (5, 48, (.int .i64 ((a : Nat) : Int))), (6, 49, (.pointer (some (ad bs2 a)))), (7, 50, (.slice ba (((madeG N (ps.take k)).getD a []).length) ca)), (8, 51, (.slice bp ps.length cp)), (9, 52, (.int .i64 ((k : Nat) : Int))), (10, 53, (.pointer (some (ad bp (k * 2))))), (11, 54, (.pointer (some (ad bp (k * 2 + 1))))), (12, 55, (.int .u8 ((ps.getD k (0, 0)).2))), (13, 56, (.int .i64 ((ps.getD k (0, 0)).2))), (14, 57, (.int .i64 ((N : Nat) : Int))), (15, 58, (.int .i64 ((ps.getD k (0, 0)).2 % (N : Int)))), (16, 59, (.slice bs19 1 cp20)), (17, 60, (.slice bs23 ((((madeG N (ps.take k)).getD a []).length) + 1) cp24)), (18, 61, (.pointer (some (ad bs2 a))))]) (fun (bs19, cp20, bs23, cp24) S => (bif S 17 then (SlV 3 1 (.slice bs23 ((((madeG N (ps.take k)).getD a []).length) + 1) cp24) ((((madeG N (ps.take k)).getD a []).length) + 1) (ints .i64 (((madeG N (ps.take k)).getD a []) ++ [(ps.getD k (0, 0)).2 % (N : Int)]))) else (SlV 3 1 (.slice ba (((madeG N (ps.take k)).getD a []).length) ca) (((madeG N (ps.take k)).getD a []).length) (ints .i64 ((madeG N (ps.take k)).getD a [])))) :: (Join (rowsL (vs.eraseIdx a) ((madeG N (ps.take k)).eraseIdx a))) :: (Blk b1 [(.int .i64 0), (.slice none 0 0), (.slice none 0 0)] 25) :: (bif S 19 then (SlV 23 1 (.slice bs2 N cp3) N ((vs).set a (.slice bs23 ((((madeG N (ps.take k)).getD a []).length) + 1) cp24))) else (SlV 23 1 (.slice bs2 N cp3) N vs)) :: (SlV 3 1 (.slice bs6 N cp7) N (ints .i64 (List.replicate N 0))) :: (Blk b10 [(.int .i64 ((N : Nat) : Int)), (.slice bs2 N cp3), (.slice bs6 N cp7)] 25) :: (bif S 16 then (SlV 3 1 (.slice bs19 1 cp20) 1 [(.int .i64 ((ps.getD k (0, 0)).2 % (N : Int)))]) else Emp) :: R) (none, 0, none, 0) (by simp [Nat.ble]) (fun _ h => sat_emps [_, _, _, _, _, _] 1 h) (fun _ _ h => h) ?_ ?_
     · -- steps
      refine ⟨?_, ?_, ?_, ?_, ?_, ?_, ?_, ?_, ?_, ?_, ?_, ?_, ?_, ?_, ?_, ?_, ?_, ?_, ?_, ?_, trivial⟩
      · -- 0
       rintro ⟨bs19, cp20, bs23, cp24⟩ S hF hS D hp K hK
       try dsimp only at hF ⊢
       obtain ⟨hf0, hf1, hf2, hf3⟩ := hF
       refine d_need (small := [(7, (.pointer (some ⟨b10, 0, none⟩)))]) ⟨look_b rfl rfl, trivial⟩ ?_
       refine tp rfl (lv_fieldAddr (o' := 1) Try.underlying25 rfl Try.sizeOf22 rfl rfl) ?_
       exact d_closes ⟨look_b rfl rfl, trivial⟩ 0 rfl rfl rfl hS (AgreeR.refl _) (t_sat (fun _ h => h) (hK (bs19, cp20, bs23, cp24) ⟨hf0, hf1, hf2, hf3⟩))
      · -- 1
       rintro ⟨bs19, cp20, bs23, cp24⟩ S hF hS D hp K hK
       try dsimp only at hF ⊢
       obtain ⟨hf0, hf1, hf2, hf3⟩ := hF
       have s0 := hp 0 rfl
       refine d_need (small := [(43, (.pointer (some ⟨b10, 1, none⟩)))]) ⟨look_row rfl 0 rfl s0, trivial⟩ ?_
       refine tp rfl (lv_load Try.isAgg22 rfl (gives_blk (.tail _ (.tail _ (.tail _ (.tail _ (.tail _ (.head _)))))) rfl)) ?_
       exact d_closes ⟨look_row rfl 0 rfl s0, trivial⟩ 1 rfl rfl rfl hS (AgreeR.refl _) (t_sat (fun _ h => h) (hK (bs19, cp20, bs23, cp24) ⟨hf0, hf1, hf2, hf3⟩))
      · -- 2
       rintro ⟨bs19, cp20, bs23, cp24⟩ S hF hS D hp K hK
       try dsimp only at hF ⊢
       obtain ⟨hf0, hf1, hf2, hf3⟩ := hF
       refine d_need (small := [(9, (.int .i64 ((a : Nat) : Int)))]) ⟨look_b rfl rfl, trivial⟩ ?_
       refine tp rfl (lv_move rfl) ?_
       exact d_closes ⟨look_b rfl rfl, trivial⟩ 2 rfl rfl rfl hS (AgreeR.refl _) (t_sat (fun _ h => h) (hK (bs19, cp20, bs23, cp24) ⟨hf0, hf1, hf2, hf3⟩))
      · -- 3
       rintro ⟨bs19, cp20, bs23, cp24⟩ S hF hS D hp K hK
       try dsimp only at hF ⊢
       obtain ⟨hf0, hf1, hf2, hf3⟩ := hF
       refine d_need (small := [(7, (.pointer (some ⟨b10, 0, none⟩)))]) ⟨look_b rfl rfl, trivial⟩ ?_
       refine tp rfl (lv_fieldAddr (o' := 1) Try.underlying25 rfl Try.sizeOf22 rfl rfl) ?_
       exact d_closes ⟨look_b rfl rfl, trivial⟩ 3 rfl rfl rfl hS (AgreeR.refl _) (t_sat (fun _ h => h) (hK (bs19, cp20, bs23, cp24) ⟨hf0, hf1, hf2, hf3⟩))
      · -- 4
       rintro ⟨bs19, cp20, bs23, cp24⟩ S hF hS D hp K hK
       try dsimp only at hF ⊢
       obtain ⟨hf0, hf1, hf2, hf3⟩ := hF
       have s3 := hp 3 rfl
       refine d_need (small := [(46, (.pointer (some ⟨b10, 1, none⟩)))]) ⟨look_row rfl 3 rfl s3, trivial⟩ ?_
       refine tp rfl (lv_load Try.isAgg22 rfl (gives_blk (.tail _ (.tail _ (.tail _ (.tail _ (.tail _ (.head _)))))) rfl)) ?_
       exact d_closes ⟨look_row rfl 3 rfl s3, trivial⟩ 4 rfl rfl rfl hS (AgreeR.refl _) (t_sat (fun _ h => h) (hK (bs19, cp20, bs23, cp24) ⟨hf0, hf1, hf2, hf3⟩))
      · -- 5
       rintro ⟨bs19, cp20, bs23, cp24⟩ S hF hS D hp K hK
       try dsimp only at hF ⊢
       obtain ⟨hf0, hf1, hf2, hf3⟩ := hF
       refine d_need (small := [(9, (.int .i64 ((a : Nat) : Int)))]) ⟨look_b rfl rfl, trivial⟩ ?_
       refine tp rfl (lv_move rfl) ?_
       exact d_closes ⟨look_b rfl rfl, trivial⟩ 5 rfl rfl rfl hS (AgreeR.refl _) (t_sat (fun _ h => h) (hK (bs19, cp20, bs23, cp24) ⟨hf0, hf1, hf2, hf3⟩))
      · -- 6
       rintro ⟨bs19, cp20, bs23, cp24⟩ S hF hS D hp K hK
       try dsimp only at hF ⊢
       obtain ⟨hf0, hf1, hf2, hf3⟩ := hF
       have s4 := hp 4 rfl
       have s5 := hp 5 rfl
       refine d_need (small := [(47, (.slice bs2 N cp3)), (48, (.int .i64 ((a : Nat) : Int)))]) ⟨look_row rfl 4 rfl s4, look_row rfl 5 rfl s5, trivial⟩ ?_
       refine tp rfl (lv_indexAddr (k' := a) Try.underlying22 Try.sizeOf23 rfl rfl hok4 (by omega) (by omega) (by omega)) ?_
       exact d_closes ⟨look_row rfl 4 rfl s4, look_row rfl 5 rfl s5, trivial⟩ 6 rfl rfl rfl hS (AgreeR.refl _) (t_sat (fun _ h => h) (hK (bs19, cp20, bs23, cp24) ⟨hf0, hf1, hf2, hf3⟩))
      · -- 7
       rintro ⟨bs19, cp20, bs23, cp24⟩ S hF hS D hp K hK
       try dsimp only at hF ⊢
       obtain ⟨hf0, hf1, hf2, hf3⟩ := hF
       have s6 := hp 6 rfl
       refine d_need (small := [(49, (.pointer (some (ad bs2 a))))]) ⟨look_row rfl 6 rfl s6, trivial⟩ ?_
       refine tp rfl (lv_load Try.isAgg23 rfl (gives_as hva (gives_sl (mem_cF (nf hS D (k := 19) (i := 7) rfl) (.tail _ (.tail _ (.tail _ (.head _))))) (vals_get (by omega))))) ?_
       exact d_closes ⟨look_row rfl 6 rfl s6, trivial⟩ 7 rfl rfl rfl hS (AgreeR.refl _) (t_sat (fun _ h => h) (hK (bs19, cp20, bs23, cp24) ⟨hf0, hf1, hf2, hf3⟩))
      · -- 8
       rintro ⟨bs19, cp20, bs23, cp24⟩ S hF hS D hp K hK
       try dsimp only at hF ⊢
       obtain ⟨hf0, hf1, hf2, hf3⟩ := hF
       refine d_need (small := [(1, (.slice bp ps.length cp))]) ⟨look_b rfl rfl, trivial⟩ ?_
       refine tp rfl (lv_move rfl) ?_
       exact d_closes ⟨look_b rfl rfl, trivial⟩ 8 rfl rfl rfl hS (AgreeR.refl _) (t_sat (fun _ h => h) (hK (bs19, cp20, bs23, cp24) ⟨hf0, hf1, hf2, hf3⟩))
      · -- 9
       rintro ⟨bs19, cp20, bs23, cp24⟩ S hF hS D hp K hK
       try dsimp only at hF ⊢
       obtain ⟨hf0, hf1, hf2, hf3⟩ := hF
       refine d_need (small := [(8, (.int .i64 ((k : Nat) : Int)))]) ⟨look_b rfl rfl, trivial⟩ ?_
       refine tp rfl (lv_move rfl) ?_
       exact d_closes ⟨look_b rfl rfl, trivial⟩ 9 rfl rfl rfl hS (AgreeR.refl _) (t_sat (fun _ h => h) (hK (bs19, cp20, bs23, cp24) ⟨hf0, hf1, hf2, hf3⟩))
      · -- 10
       rintro ⟨bs19, cp20, bs23, cp24⟩ S hF hS D hp K hK
       try dsimp only at hF ⊢
       obtain ⟨hf0, hf1, hf2, hf3⟩ := hF
       have s8 := hp 8 rfl
       have s9 := hp 9 rfl
       refine d_need (small := [(51, (.slice bp ps.length cp)), (52, (.int .i64 ((k : Nat) : Int)))]) ⟨look_row rfl 8 rfl s8, look_row rfl 9 rfl s9, trivial⟩ ?_
       refine tp rfl (lv_indexAddr (k' := k * 2) Try.underlying34 Try.sizeOf50 rfl rfl okp (by omega) (by omega) (by omega)) ?_
       exact d_closes ⟨look_row rfl 8 rfl s8, look_row rfl 9 rfl s9, trivial⟩ 10 rfl rfl rfl hS (AgreeR.refl _) (t_sat (fun _ h => h) (hK (bs19, cp20, bs23, cp24) ⟨hf0, hf1, hf2, hf3⟩))
      · -- 11
       rintro ⟨bs19, cp20, bs23, cp24⟩ S hF hS D hp K hK
       try dsimp only at hF ⊢
       obtain ⟨hf0, hf1, hf2, hf3⟩ := hF
       have s10 := hp 10 rfl
       refine d_need (small := [(53, (.pointer (some (ad bp (k * 2)))))]) ⟨look_row rfl 10 rfl s10, trivial⟩ ?_
       refine tp rfl (lv_indexArr_ad (k' := k * 2 + 1) Try.underlying50 Try.sizeOf5 rfl rfl (by omega) (by omega) (by omega)) ?_
       exact d_closes ⟨look_row rfl 10 rfl s10, trivial⟩ 11 rfl rfl rfl hS (AgreeR.refl _) (t_sat (fun _ h => h) (hK (bs19, cp20, bs23, cp24) ⟨hf0, hf1, hf2, hf3⟩))
      · -- 12
       rintro ⟨bs19, cp20, bs23, cp24⟩ S hF hS D hp K hK
       try dsimp only at hF ⊢
       obtain ⟨hf0, hf1, hf2, hf3⟩ := hF
       have s11 := hp 11 rfl
       refine d_need (small := [(54, (.pointer (some (ad bp (k * 2 + 1)))))]) ⟨look_row rfl 11 rfl s11, trivial⟩ ?_
       refine tp rfl (lv_load Try.isAgg5 rfl (Rd.gives (Rd.cons (Rd.cons (Rd.cons (Rd.cons (Rd.cons (Rd.cons (Rd.cons hrp))))))) ((recs_get (k := k) (j := 1) pu8F_len (d := (0, 0)) (by first | omega | (simp; omega)) (Nat.le_of_ble_eq_true rfl)).trans rfl))) ?_
       exact d_closes ⟨look_row rfl 11 rfl s11, trivial⟩ 12 rfl rfl rfl hS (AgreeR.refl _) (t_sat (fun _ h => h) (hK (bs19, cp20, bs23, cp24) ⟨hf0, hf1, hf2, hf3⟩))
      · -- 13
       rintro ⟨bs19, cp20, bs23, cp24⟩ S hF hS D hp K hK
       try dsimp only at hF ⊢
       obtain ⟨hf0, hf1, hf2, hf3⟩ := hF
       have s12 := hp 12 rfl
       refine d_need (small := [(55, (.int .u8 ((ps.getD k (0, 0)).2)))]) ⟨look_row rfl 12 rfl s12, trivial⟩ ?_
       refine tp rfl (lv_convert (c := (ps.getD k (0, 0)).2) Try.underlying5 Try.underlying3 rfl (wr_i64 (by omega) (by omega))) ?_
       exact d_closes ⟨look_row rfl 12 rfl s12, trivial⟩ 13 rfl rfl rfl hS (AgreeR.refl _) (t_sat (fun _ h => h) (hK (bs19, cp20, bs23, cp24) ⟨hf0, hf1, hf2, hf3⟩))
      · -- 14
       rintro ⟨bs19, cp20, bs23, cp24⟩ S hF hS D hp K hK
       try dsimp only at hF ⊢
       obtain ⟨hf0, hf1, hf2, hf3⟩ := hF
       refine d_need (small := [(0, (.int .i64 ((N : Nat) : Int)))]) ⟨look_b rfl rfl, trivial⟩ ?_
       refine tp rfl (lv_move rfl) ?_
       exact d_closes ⟨look_b rfl rfl, trivial⟩ 14 rfl rfl rfl hS (AgreeR.refl _) (t_sat (fun _ h => h) (hK (bs19, cp20, bs23, cp24) ⟨hf0, hf1, hf2, hf3⟩))
      · -- 15
       rintro ⟨bs19, cp20, bs23, cp24⟩ S hF hS D hp K hK
       try dsimp only at hF ⊢
       obtain ⟨hf0, hf1, hf2, hf3⟩ := hF
       have s13 := hp 13 rfl
       have s14 := hp 14 rfl
       refine d_need (small := [(56, (.int .i64 ((ps.getD k (0, 0)).2))), (57, (.int .i64 ((N : Nat) : Int)))]) ⟨look_row rfl 13 rfl s13, look_row rfl 14 rfl s14, trivial⟩ ?_
       refine tp rfl (lv_rem (c := (ps.getD k (0, 0)).2 % (N : Int)) rfl rfl (by omega) (Int.tmod_eq_emod_of_nonneg (by omega))) ?_
       exact d_closes ⟨look_row rfl 13 rfl s13, look_row rfl 14 rfl s14, trivial⟩ 15 rfl rfl rfl hS (AgreeR.refl _) (t_sat (fun _ h => h) (hK (bs19, cp20, bs23, cp24) ⟨hf0, hf1, hf2, hf3⟩))
      · -- 16
       rintro ⟨bs19, cp20, bs23, cp24⟩ S hF hS D hp K hK
       try dsimp only at hF ⊢
       obtain ⟨hf0, hf1, hf2, hf3⟩ := hF
       have s15 := hp 15 rfl
       refine d_need (small := [(58, (.int .i64 ((ps.getD k (0, 0)).2 % (N : Int))))]) ⟨look_row rfl 15 rfl s15, trivial⟩ ?_
       refine tm rfl (mv_buildSlice (cs := [(.int .i64 ((ps.getD k (0, 0)).2 % (N : Int)))]) Try.underlying23 Try.sizeOf3 Try.zeroValue3 (by decide) rfl rfl rfl rfl) ?_
       rintro _ _ ⟨bs19, cp20, hok21, hle22, rfl, rfl⟩
       refine t_sat (fun _ h => sat_put [_, _, _, _, _, _] h) ?_
       exact d_closes ⟨look_row rfl 15 rfl s15, trivial⟩ 16 rfl rfl rfl hS (by exact ⟨.inl rfl, .inl rfl, .inl rfl, .inl rfl, .inl rfl, .inl rfl, .inl rfl, .inl rfl, .inl rfl, .inl rfl, .inl rfl, .inl rfl, .inl rfl, .inl rfl, .inl rfl, .inl rfl, .inr ⟨rfl, rfl, hS⟩, .inl rfl, .inl rfl, trivial⟩) (t_sat (fun _ h => h) (hK (bs19, cp20, bs23, cp24) ⟨(fun _ => hok21), (fun _ => hle22), hf2, hf3⟩))
      · -- 17
       rintro ⟨bs19, cp20, bs23, cp24⟩ S hF hS D hp K hK
       try dsimp only at hF ⊢
       obtain ⟨hf0, hf1, hf2, hf3⟩ := hF
       have s16 := hp 16 rfl
       have hok21 := hf0 s16
       have hle22 := hf1 s16
       have s7 := hp 7 rfl
       refine d_need (small := [(50, (.slice ba (((madeG N (ps.take k)).getD a []).length) ca)), (59, (.slice bs19 1 cp20))]) ⟨look_row rfl 7 rfl s7, look_row rfl 16 rfl s16, trivial⟩ ?_
       refine t_cF hS ?_
       refine t_f3 ?_
       refine t_cF (nf hS D (k := 19) (i := 17) rfl) ?_
       refine t_f6 ?_
       refine t_cT s16 ?_
       refine t_f2 ?_
       refine tm rfl (mv_append (i := Try.t3) Try.underlying23 Try.type3 rfl rfl rfl (by decide) rfl rfl hok21 (by first | (simp; done) | (simp; omega)) (rd_sl (.tail _ (.head _))) (by simp [Value.oneCell']) (by rw [show Try.t3.bytes = 8 from rfl]; omega)) ?_
       rintro _ _ ⟨bs23, cp24, hok25, hle26, rfl, rfl⟩
       rw [show ints .i64 ((madeG N (ps.take k)).getD a []) ++ [(.int .i64 ((ps.getD k (0, 0)).2 % (N : Int)))] = ints .i64 (((madeG N (ps.take k)).getD a []) ++ [(ps.getD k (0, 0)).2 % (N : Int)]) from ints_snoc _ _ _]
       refine t_f2 ?_
       refine t_wF (A := (SlV 23 1 (.slice bs2 N cp3) N ((vs).set a (.slice bs23 ((((madeG N (ps.take k)).getD a []).length) + 1) cp24)))) (nf hS D (k := 19) (i := 17) rfl) ?_
       refine t_f2 ?_
       refine t_wT (B := Emp) s16 ?_
       refine t_f6 ?_
       refine t_f6 ?_
       refine t_f3 ?_
       refine t_f6 ?_
       refine t_f6 ?_
       refine t_f6 ?_
       exact d_closes ⟨look_row rfl 7 rfl s7, look_row rfl 16 rfl s16, trivial⟩ 17 rfl rfl rfl hS (by exact ⟨.inl rfl, .inl rfl, .inl rfl, .inl rfl, .inl rfl, .inl rfl, .inl rfl, .inl rfl, .inl rfl, .inl rfl, .inl rfl, .inl rfl, .inl rfl, .inl rfl, .inl rfl, .inl rfl, .inl rfl, .inr ⟨rfl, rfl, hS⟩, .inl rfl, trivial⟩) (t_sat (fun _ h => h) (hK (bs19, cp20, bs23, cp24) ⟨hf0, hf1, (fun _ => hok25), (fun _ => hle26)⟩))
      · -- 18
       rintro ⟨bs19, cp20, bs23, cp24⟩ S hF hS D hp K hK
       try dsimp only at hF ⊢
       obtain ⟨hf0, hf1, hf2, hf3⟩ := hF
       have s16 := hp 16 rfl
       have hok21 := hf0 s16
       have hle22 := hf1 s16
       have s17 := hp 17 rfl
       have hok25 := hf2 s17
       have hle26 := hf3 s17
       have s1 := hp 1 rfl
       have s2 := hp 2 rfl
       refine d_need (small := [(44, (.slice bs2 N cp3)), (45, (.int .i64 ((a : Nat) : Int)))]) ⟨look_row rfl 1 rfl s1, look_row rfl 2 rfl s2, trivial⟩ ?_
       refine tp rfl (lv_indexAddr (k' := a) Try.underlying22 Try.sizeOf23 rfl rfl hok4 (by omega) (by omega) (by omega)) ?_
       exact d_closes ⟨look_row rfl 1 rfl s1, look_row rfl 2 rfl s2, trivial⟩ 18 rfl rfl rfl hS (AgreeR.refl _) (t_sat (fun _ h => h) (hK (bs19, cp20, bs23, cp24) ⟨hf0, hf1, hf2, hf3⟩))
      · -- 19
       rintro ⟨bs19, cp20, bs23, cp24⟩ S hF hS D hp K hK
       try dsimp only at hF ⊢
       obtain ⟨hf0, hf1, hf2, hf3⟩ := hF
       have s16 := hp 16 rfl
       have hok21 := hf0 s16
       have hle22 := hf1 s16
       have s17 := hp 17 rfl
       have hok25 := hf2 s17
       have hle26 := hf3 s17
       have s18 := hp 18 rfl
       refine d_need (small := [(60, (.slice bs23 ((((madeG N (ps.take k)).getD a []).length) + 1) cp24)), (61, (.pointer (some (ad bs2 a))))]) ⟨look_row rfl 17 rfl s17, look_row rfl 18 rfl s18, trivial⟩ ?_
       refine t_f3 ?_
       refine t_cF hS ?_
       refine ts (sv_sl Try.sizeOf23 rfl rfl rfl (by first | (simp; omega) | omega) rfl) ?_
       refine t_f3 ?_
       refine t_f3 ?_
       refine t_f3 ?_
       exact d_closes0 ⟨look_row rfl 17 rfl s17, look_row rfl 18 rfl s18, trivial⟩ rfl (t_sat (fun _ h => h) (hK (bs19, cp20, bs23, cp24) ⟨hf0, hf1, hf2, hf3⟩))
     · -- behind
      rintro ⟨bs19, cp20, bs23, cp24⟩ hF
      try dsimp only at hF ⊢
      obtain ⟨hf0, hf1, hf2, hf3⟩ := hF
      have hok21 := hf0 rfl
      have hle22 := hf1 rfl
      have hok25 := hf2 rfl
      have hle26 := hf3 rfl
      refine t_weak (E' := [(0, (.int .i64 ((N : Nat) : Int))), (1, (.slice bp ps.length cp)), (2, (.slice bw ow.length cw)), (6, (.pointer (some ⟨b1, 0, none⟩))), (7, (.pointer (some ⟨b10, 0, none⟩))), (8, (.int .i64 ((k : Nat) : Int))), (9, (.int .i64 ((a : Nat) : Int))), (32, (.bool true))]) ⟨rfl, rfl, rfl, rfl, rfl, rfl, rfl, rfl, trivial⟩ ?_
      refine q_in_n ?_
      refine q_then_n (hK9 _ _ ?_)
      refine c_region ?_
      refine t_f1 ?_
      refine t_f1 ?_
      refine t_sat (fun _ h => Sat.shutIn (xs := ((madeG N (ps.take k)).getD a []) ++ [(ps.getD k (0, 0)).2 % (N : Int)]) (by first | rfl | (simp; done)) hok25 hle26 h) ?_
      refine t_sat (fun _ h => h.putRow (by omega) (by omega)) ?_
      rw [show (madeG N (ps.take k)).set a (((madeG N (ps.take k)).getD a []) ++ [(ps.getD k (0, 0)).2 % (N : Int)]) = madeG N (ps.take (k + 1)) from madeG_next (by omega) ha]
      refine tp rfl (lv_move rfl) ?_
      refine tp rfl (lv_add (c := ((k + 1 : Nat) : Int)) rfl rfl (wr_i64_succ (by omega))) ?_
      refine tp rfl (lv_assign rfl) ?_
      refine t_done ?_
      refine q_then_n ?_
      refine t_f5 ?_
      refine t_drop ?_
      exact t_weak (by exact ⟨rfl, rfl, rfl, rfl, rfl, rfl, trivial⟩) ((hK6 (k + 1, (vs).set a (.slice bs23 ((((madeG N (ps.take k)).getD a []).length) + 1) cp24)) ⟨by omega, by omega, by simpa using hvl⟩ (by dsimp only; omega)))
    · -- no
     refine tp rfl (lv_lss rfl rfl (decide_eq_false h18)) ?_
     refine tp rfl (lv_pick_t rfl rfl) ?_
     refine t_done ?_
     refine q_then_n (hK8 _ _ ?_)
     refine c_false rfl ?_
     refine c_exit ?_
     refine q_then_x ?_
     refine q_then_x ?_
     refine q_in_x ?_
     refine q_then_n ?_
     rw [show madeG N (ps.take k) = madeG N (ps.take 200) from madeG_end (by omega)]
     exact t_weak (by exact ⟨rfl, rfl, rfl, rfl, rfl, trivial⟩) (hM4 vs ⟨hvl, trivial⟩)
   · -- no
    refine tp rfl (lv_lss rfl rfl (decide_eq_false h17)) ?_
    refine tp rfl (lv_pick_t rfl rfl) ?_
    refine tp rfl (lv_move rfl) ?_
    refine t_skip rfl rfl rfl ?_
    refine t_skip rfl rfl rfl ?_
    refine tp rfl (lv_pick_f rfl rfl) ?_
    refine t_done ?_
    refine q_then_n (hK8 _ _ ?_)
    refine c_false rfl ?_
    refine c_exit ?_
    refine q_then_x ?_
    refine q_then_x ?_
    refine q_in_x ?_
    refine q_then_n ?_
    rw [show madeG N (ps.take k) = madeG N (ps.take 200) from madeG_end (by omega)]
    exact t_weak (by exact ⟨rfl, rfl, rfl, rfl, rfl, trivial⟩) (hM4 vs ⟨hvl, trivial⟩)
  · -- no
   refine tp rfl (lv_gtr rfl rfl (decide_eq_false h16)) ?_
   refine tp rfl (lv_move rfl) ?_
   refine t_skip rfl rfl rfl ?_
   refine t_skip rfl rfl rfl ?_
   refine t_skip rfl rfl rfl ?_
   refine t_skip rfl rfl rfl ?_
   refine tp rfl (lv_pick_f rfl rfl) ?_
   refine tp rfl (lv_move rfl) ?_
   refine t_skip rfl rfl rfl ?_
   refine t_skip rfl rfl rfl ?_
   refine tp rfl (lv_pick_f rfl rfl) ?_
   refine t_done ?_
   refine q_then_n (hK8 _ _ ?_)
   refine c_false rfl ?_
   refine c_exit ?_
   refine q_then_x ?_
   refine q_then_x ?_
   refine q_in_x ?_
   refine q_then_n ?_
   rw [show madeG N (ps.take k) = madeG N (ps.take 200) from madeG_end (by omega)]
   exact t_weak (by exact ⟨rfl, rfl, rfl, rfl, rfl, trivial⟩) (hM4 vs ⟨hvl, trivial⟩)

set_option maxHeartbeats 4000000 in
theorem shown_ok {R : List HP} :
    Ok Try.prog 9 [] R
      (fun v M => v = .bool true ∧ M = R) := by
 refine ok_of (N := 55) Try.func9 rfl rfl rfl (fun W => ?_)
 refine c_seq (fun K1 hK1 => ?_)
 refine c_region ?_
 refine tp rfl (lv_assign rfl) ?_
 refine t_done ?_
 refine q_then_n (hK1 _ _ ?_)
 refine c_seq (fun K2 hK2 => ?_)
 refine c_region ?_
 refine tm rfl (mv_buildSlice (cs := [(.int .i64 1)]) Try.underlying23 Try.sizeOf3 Try.zeroValue3 (by decide) rfl rfl rfl rfl) ?_
 rintro _ _ ⟨bs1, cp2, hok3, hle4, rfl, rfl⟩
 refine tm rfl (mv_buildSlice (cs := [(.int .i64 0)]) Try.underlying23 Try.sizeOf3 Try.zeroValue3 (by decide) rfl rfl rfl rfl) ?_
 rintro _ _ ⟨bs5, cp6, hok7, hle8, rfl, rfl⟩
 refine tm rfl (mv_buildSlice (cs := [(.int .i64 0)]) Try.underlying23 Try.sizeOf3 Try.zeroValue3 (by decide) rfl rfl rfl rfl) ?_
 rintro _ _ ⟨bs9, cp10, hok11, hle12, rfl, rfl⟩
 refine tm rfl (mv_buildSlice (cs := [(.int .i64 4)]) Try.underlying23 Try.sizeOf3 Try.zeroValue3 (by decide) rfl rfl rfl rfl) ?_
 rintro _ _ ⟨bs13, cp14, hok15, hle16, rfl, rfl⟩
 refine tm rfl (mv_buildSlice (cs := [(.int .i64 4), (.int .i64 3)]) Try.underlying23 Try.sizeOf3 Try.zeroValue3 (by decide) rfl rfl rfl rfl) ?_
 rintro _ _ ⟨bs17, cp18, hok19, hle20, rfl, rfl⟩
 refine tm rfl (mv_buildSlice (cs := [(.slice bs1 1 cp2), (.slice bs5 1 cp6), (.slice bs9 1 cp10), (.slice bs13 1 cp14), (.slice none 0 0), (.slice bs17 2 cp18)]) Try.underlying22 Try.sizeOf23 Try.zeroValue23 (by decide) rfl rfl rfl rfl) ?_
 rintro _ _ ⟨bs21, cp22, hok23, hle24, rfl, rfl⟩
 refine tm rfl (mv_buildSlice (cs := [(.int .i64 5), (.int .i64 5), (.int .i64 6), (.int .i64 5), (.int .i64 5), (.int .i64 0)]) Try.underlying23 Try.sizeOf3 Try.zeroValue3 (by decide) rfl rfl rfl rfl) ?_
 rintro _ _ ⟨bs25, cp26, hok27, hle28, rfl, rfl⟩
 refine tp rfl (lv_build (cs := [(.int .i64 6), (.slice bs21 6 cp22), (.slice bs25 6 cp26)]) (pl := [(0, 1), (1, 1), (2, 1)]) Try.underlying25 Try.zeroValue25 (fun _ => by simp) rfl rfl) ?_
 refine tc rfl (en_fn Try.call11 rfl) (of_ok (N := 6) (es := [[1], [0], [0], [4], [], [4, 3]]) (own := [5, 5, 6, 5, 5, 0]) ((right_ok (n := 6) (by decide)).1) (gridR_of (rd_sl (.tail _ (.head _))) (rowsR_cons (l := [1]) hok3 hle4 (show Rd _ _ (ints .i64 [1]) from rd_sl (.tail _ (.tail _ (.tail _ (.tail _ (.tail _ (.tail _ (.head _)))))))) (rowsR_cons (l := [0]) hok7 hle8 (show Rd _ _ (ints .i64 [0]) from rd_sl (.tail _ (.tail _ (.tail _ (.tail _ (.tail _ (.head _))))))) (rowsR_cons (l := [0]) hok11 hle12 (show Rd _ _ (ints .i64 [0]) from rd_sl (.tail _ (.tail _ (.tail _ (.tail _ (.head _)))))) (rowsR_cons (l := [4]) hok15 hle16 (show Rd _ _ (ints .i64 [4]) from rd_sl (.tail _ (.tail _ (.tail _ (.head _))))) (rowsR_cons (l := []) slok_none (Nat.le_refl _) rd_nil (rowsR_cons (l := [4, 3]) hok19 hle20 (show Rd _ _ (ints .i64 [4, 3]) from rd_sl (.tail _ (.tail _ (.head _)))) rowsR_nil))))))) hok23 (show Rd _ _ (ints .i64 [5, 5, 6, 5, 5, 0]) from (rd_sl (.head _))) hok27 (by decide)) ?_
 rintro _ _ ⟨bs29, cp30, hok31, hle32, rfl, rfl⟩
 rw [show verL [[1], [0], [0], [4], [], [4, 3]] [5, 5, 6, 5, 5, 0] = [7, 7, 7, 5, 5, 0] from (by decide +kernel)]
 refine tp rfl (lv_move rfl) ?_
 refine tp rfl (lv_extract rfl rfl) ?_
 refine tp rfl (lv_extract rfl rfl) ?_
 refine tp rfl (lv_assign rfl) ?_
 refine tp rfl (lv_assign rfl) ?_
 refine t_done ?_
 refine q_then_n (hK2 _ _ ?_)
 refine c_seq (fun K3 hK3 => ?_)
 refine c_region ?_
 refine tm rfl (mv_buildSlice (cs := [(.int .i64 1), (.int .i64 2)]) Try.underlying23 Try.sizeOf3 Try.zeroValue3 (by decide) rfl rfl rfl rfl) ?_
 rintro _ _ ⟨bs33, cp34, hok35, hle36, rfl, rfl⟩
 refine tm rfl (mv_buildSlice (cs := [(.slice bs33 2 cp34), (.slice none 0 0), (.slice none 0 0)]) Try.underlying22 Try.sizeOf23 Try.zeroValue23 (by decide) rfl rfl rfl rfl) ?_
 rintro _ _ ⟨bs37, cp38, hok39, hle40, rfl, rfl⟩
 refine tm rfl (mv_buildSlice (cs := [(.int .i64 0), (.int .i64 0), (.int .i64 6)]) Try.underlying23 Try.sizeOf3 Try.zeroValue3 (by decide) rfl rfl rfl rfl) ?_
 rintro _ _ ⟨bs41, cp42, hok43, hle44, rfl, rfl⟩
 refine tp rfl (lv_build (cs := [(.int .i64 3), (.slice bs37 3 cp38), (.slice bs41 3 cp42)]) (pl := [(0, 1), (1, 1), (2, 1)]) Try.underlying25 Try.zeroValue25 (fun _ => by simp) rfl rfl) ?_
 refine tc rfl (en_fn Try.call11 rfl) (of_ok (N := 3) (es := [[1, 2], [], []]) (own := [0, 0, 6]) ((right_ok (n := 3) (by decide)).1) (gridR_of (rd_sl (.tail _ (.head _))) (rowsR_cons (l := [1, 2]) hok35 hle36 (show Rd _ _ (ints .i64 [1, 2]) from rd_sl (.tail _ (.tail _ (.head _)))) (rowsR_cons (l := []) slok_none (Nat.le_refl _) rd_nil (rowsR_cons (l := []) slok_none (Nat.le_refl _) rd_nil rowsR_nil)))) hok39 (show Rd _ _ (ints .i64 [0, 0, 6]) from (rd_sl (.head _))) hok43 (by decide)) ?_
 rintro _ _ ⟨bs45, cp46, hok47, hle48, rfl, rfl⟩
 rw [show verL [[1, 2], [], []] [0, 0, 6] = [6, 0, 6] from (by decide +kernel)]
 refine tp rfl (lv_move rfl) ?_
 refine tp rfl (lv_extract rfl rfl) ?_
 refine tp rfl (lv_extract rfl rfl) ?_
 refine tp rfl (lv_assign rfl) ?_
 refine tp rfl (lv_assign rfl) ?_
 refine t_done ?_
 refine q_then_n (hK3 _ _ ?_)
 refine c_seq (fun K4 hK4 => ?_)
 refine c_region ?_
 refine tm rfl (mv_buildSlice (cs := [(.int .i64 1)]) Try.underlying23 Try.sizeOf3 Try.zeroValue3 (by decide) rfl rfl rfl rfl) ?_
 rintro _ _ ⟨bs49, cp50, hok51, hle52, rfl, rfl⟩
 refine tm rfl (mv_buildSlice (cs := [(.slice bs49 1 cp50)]) Try.underlying22 Try.sizeOf23 Try.zeroValue23 (by decide) rfl rfl rfl rfl) ?_
 rintro _ _ ⟨bs53, cp54, hok55, hle56, rfl, rfl⟩
 refine tm rfl (mv_buildSlice (cs := [(.int .i64 0)]) Try.underlying23 Try.sizeOf3 Try.zeroValue3 (by decide) rfl rfl rfl rfl) ?_
 rintro _ _ ⟨bs57, cp58, hok59, hle60, rfl, rfl⟩
 refine tp rfl (lv_build (cs := [(.int .i64 1), (.slice bs53 1 cp54), (.slice bs57 1 cp58)]) (pl := [(0, 1), (1, 1), (2, 1)]) Try.underlying25 Try.zeroValue25 (fun _ => by simp) rfl rfl) ?_
 refine tc rfl (en_fn Try.call11 rfl) (of_bad (m1 := 1) (m2 := 1) (es := [[1]]) (own := [0]) rfl rfl 1 (by decide) (gridR_of (rd_sl (.tail _ (.head _))) (rowsR_cons (l := [1]) hok51 hle52 (show Rd _ _ (ints .i64 [1]) from rd_sl (.tail _ (.tail _ (.head _)))) rowsR_nil)) hok55 (show Rd _ _ (ints .i64 [0]) from (rd_sl (.head _))) hok59 (by decide) ⟨by omega, by omega⟩) ?_
 rintro _ _ ⟨rfl, rfl⟩
 refine tp rfl (lv_move rfl) ?_
 refine tp rfl (lv_extract rfl rfl) ?_
 refine tp rfl (lv_extract rfl rfl) ?_
 refine tp rfl (lv_assign rfl) ?_
 refine tp rfl (lv_assign rfl) ?_
 refine t_done ?_
 refine q_then_n (hK4 _ _ ?_)
 refine c_seq (fun K5 hK5 => ?_)
 refine c_region ?_
 refine tp rfl (lv_move rfl) ?_
 refine tp rfl (lv_eql (r := true) rfl rfl (by decide)) ?_
 refine tp rfl (lv_move rfl) ?_
 refine t_guard rfl rfl ?_
 refine tp rfl (lv_move rfl) ?_
 refine t_guard rfl rfl ?_
 refine tm rfl (mv_buildSlice (cs := [(.int .i64 7), (.int .i64 7), (.int .i64 7), (.int .i64 5), (.int .i64 5), (.int .i64 0)]) Try.underlying23 Try.sizeOf3 Try.zeroValue3 (by decide) rfl rfl rfl rfl) ?_
 rintro _ _ ⟨bs61, cp62, hok63, hle64, rfl, rfl⟩
 refine t_guard rfl rfl ?_
 refine tc rfl (en_fn Try.call13 rfl) (ints_n [7, 7, 7, 5, 5, 0] [7, 7, 7, 5, 5, 0] (by first | rfl | (simp; done) | (simp; omega)) (by first | rfl | (simp; done) | (simp; omega)) (rd_sl (.tail _ (.tail _ (.tail _ (.tail _ (.tail _ (.tail _ (.tail _ (.tail _ (.head _)))))))))) (rd_sl (.head _)) hok31 hok63 (by first | omega | (simp; omega) | (simp; done)) (by first | omega | (simp; omega) | (simp; done))) ?_
 rintro _ _ ⟨rfl, rfl⟩
 rw [eqI_refl]
 refine tp rfl (lv_pick_t rfl rfl) ?_
 refine tp rfl (lv_move rfl) ?_
 refine t_guard rfl rfl ?_
 refine tp rfl (lv_move rfl) ?_
 refine t_guard rfl rfl ?_
 refine tp rfl (lv_eql (r := true) rfl rfl (by decide)) ?_
 refine tp rfl (lv_pick_t rfl rfl) ?_
 refine tp rfl (lv_move rfl) ?_
 refine t_guard rfl rfl ?_
 refine tp rfl (lv_move rfl) ?_
 refine t_guard rfl rfl ?_
 refine tm rfl (mv_buildSlice (cs := [(.int .i64 6), (.int .i64 0), (.int .i64 6)]) Try.underlying23 Try.sizeOf3 Try.zeroValue3 (by decide) rfl rfl rfl rfl) ?_
 rintro _ _ ⟨bs65, cp66, hok67, hle68, rfl, rfl⟩
 refine t_guard rfl rfl ?_
 refine tc rfl (en_fn Try.call13 rfl) (ints_n [6, 0, 6] [6, 0, 6] (by first | rfl | (simp; done) | (simp; omega)) (by first | rfl | (simp; done) | (simp; omega)) (rd_sl (.tail _ (.tail _ (.tail _ (.tail _ (.tail _ (.head _))))))) (rd_sl (.head _)) hok47 hok67 (by first | omega | (simp; omega) | (simp; done)) (by first | omega | (simp; omega) | (simp; done))) ?_
 rintro _ _ ⟨rfl, rfl⟩
 rw [eqI_refl]
 refine tp rfl (lv_pick_t rfl rfl) ?_
 refine tp rfl (lv_move rfl) ?_
 refine t_guard rfl rfl ?_
 refine tp rfl (lv_move rfl) ?_
 refine t_guard rfl rfl ?_
 refine tp rfl (lv_eql (r := true) rfl rfl (by decide)) ?_
 refine tp rfl (lv_pick_t rfl rfl) ?_
 refine tp rfl (lv_assign rfl) ?_
 refine t_done ?_
 refine q_then_n (hK5 _ _ ?_)
 refine c_ret ?_
 refine t_drop ?_
 refine t_drop ?_
 refine t_drop ?_
 refine t_drop ?_
 refine t_drop ?_
 refine t_drop ?_
 refine t_drop ?_
 refine t_drop ?_
 refine t_drop ?_
 refine t_drop ?_
 refine t_drop ?_
 refine t_drop ?_
 refine t_drop ?_
 refine t_drop ?_
 refine t_drop ?_
 refine t_drop ?_
 refine t_drop ?_
 refine q_ret rfl rfl ?_
 exact ⟨rfl, rfl⟩
end Go.Proofs.Ytljnaefaahphaaa
