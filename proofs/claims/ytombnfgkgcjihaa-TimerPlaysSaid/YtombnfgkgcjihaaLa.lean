/- What is shown in any case; two rows alike. -/
import Derived.Test.YtombnfgkgcjihaaHd
import Derived.Test.YtombnfgkgcjihaaLawR
set_option maxRecDepth 100000
set_option linter.unusedVariables false
set_option linter.unusedSimpArgs false
namespace Go.Proofs.Ytombnfgkgcjihaa
open Go Go.Proofs Sp
set_option maxHeartbeats 4000000 in
theorem ints_ok {R : List HP} {bx bb : Option Addr} {cx cy : Nat} (xs ys : List Int) (hx : Rd R bx (ints .i64 xs)) (hy : Rd R bb (ints .i64 ys)) (okx : SlOk bx xs.length) (oky : SlOk bb ys.length) (lx : xs.length ≤ 4611686018427387904) (ly : ys.length ≤ 4611686018427387904) :
    Ok Try.prog 17 [(.slice bx xs.length cx), (.slice bb ys.length cy)] R
      (fun v M => v = .bool (eqI xs ys) ∧ M = R) := by
  refine ok_of (N := 26) Try.func17 rfl rfl rfl (fun W => ?_)
  refine c_seq (fun K1 hK1 => ?_)
  refine c_region ?_
  refine tp rfl (lv_assign rfl) ?_
  refine t_done ?_
  refine q_then_n (hK1 _ _ ?_)
  refine c_seq (fun K2 hK2 => ?_)
  refine c_seq (fun K3 hK3 => ?_)
  refine c_region ?_
  refine tp rfl (lv_move rfl) ?_
  refine tp rfl (lv_len Try.underlying30 rfl rfl) ?_
  refine tp rfl (lv_move rfl) ?_
  refine tp rfl (lv_len Try.underlying30 rfl rfl) ?_
  by_cases hlen : ((xs.length : Nat) : Int) = ((ys.length : Nat) : Int)
  · -- yes
    refine tp rfl (lv_neq rfl rfl (bne_eq_false_iff_eq.2 hlen)) ?_
    refine t_done ?_
    refine q_then_n (hK3 _ _ ?_)
    refine c_false rfl ?_
    refine c_skip ?_
    refine q_then_n (hK2 _ _ ?_)
    refine c_seq (fun K4 hK4 => ?_)
    refine c_seq (fun K5 hK5 => ?_)
    refine c_region ?_
    refine tp rfl (lv_assign rfl) ?_
    refine t_done ?_
    refine q_then_n (hK5 _ _ ?_)
    refine c_block ?_
    refine c_loop (γ := (Nat)) (fun (k : Nat) => k ≤ xs.length ∧ (∀ j, j < k → xs.getD j 0 = ys.getD j 0)) (fun (k : Nat) => [(0, (.slice bx xs.length cx)), (1, (.slice bb ys.length cy)), (5, (.int .i64 ((k : Nat) : Int))), (10, (.bool false))]) (fun (k : Nat) => R) (fun (k : Nat) => xs.length - k) (0) ⟨by omega, fun j hj => by omega⟩ ⟨rfl, rfl, rfl, rfl, trivial⟩ (fun _ h => h) ?_
    rintro k K6 hF hK6
    try dsimp only at hF hK6 ⊢
    obtain ⟨hk, hall⟩ := hF
    refine c_seq (fun K7 hK7 => ?_)
    refine c_seq (fun K8 hK8 => ?_)
    refine c_region ?_
    refine tp rfl (lv_move rfl) ?_
    refine tp rfl (lv_move rfl) ?_
    refine tp rfl (lv_len Try.underlying30 rfl rfl) ?_
    by_cases h1 : ((k : Nat) : Int) < ((xs.length : Nat) : Int)
    · -- yes
      refine tp rfl (lv_lss rfl rfl (decide_eq_true h1)) ?_
      refine t_done ?_
      refine q_then_n (hK8 _ _ ?_)
      refine c_true rfl ?_
      refine c_skip ?_
      refine q_then_n (hK7 _ _ ?_)
      refine c_seq (fun K9 hK9 => ?_)
      refine c_block ?_
      refine c_seq (fun K10 hK10 => ?_)
      by_cases h2 : ((xs).getD k 0) = ((ys).getD k 0)
      · -- yes
        refine c_draw (γ := Unit) (n := 9) Try.mixed rfl rfl (fun _ S => True) (fun _ => [(0, 17, (.slice bx xs.length cx)), (1, 18, (.int .i64 ((k : Nat) : Int))), (2, 19, (.pointer (some (ad bx k)))), (3, 20, (.int .i64 ((xs).getD k 0))), (4, 21, (.slice bb ys.length cy)), (5, 22, (.int .i64 ((k : Nat) : Int))), (6, 23, (.pointer (some (ad bb k)))), (7, 24, (.int .i64 ((ys).getD k 0))), (8, 25, (.bool false))]) (fun _ S => R) (()) trivial (fun _ h => h) (fun _ _ h => h) ?_ ?_
        · -- steps
         refine ⟨?_, ?_, ?_, ?_, ?_, ?_, ?_, ?_, ?_, trivial⟩
         · -- 0
          rintro _ S hF hS D hp K hK
          try dsimp only at hF ⊢
          refine d_need (small := [(0, (.slice bx xs.length cx))]) ⟨look_b rfl rfl, trivial⟩ ?_
          refine tp rfl (lv_move rfl) ?_
          exact d_closes ⟨look_b rfl rfl, trivial⟩ 0 rfl rfl rfl hS (AgreeR.refl _) (t_sat (fun _ h => h) (hK () trivial))
         · -- 1
          rintro _ S hF hS D hp K hK
          try dsimp only at hF ⊢
          refine d_need (small := [(5, (.int .i64 ((k : Nat) : Int)))]) ⟨look_b rfl rfl, trivial⟩ ?_
          refine tp rfl (lv_move rfl) ?_
          exact d_closes ⟨look_b rfl rfl, trivial⟩ 1 rfl rfl rfl hS (AgreeR.refl _) (t_sat (fun _ h => h) (hK () trivial))
         · -- 2
          rintro _ S hF hS D hp K hK
          try dsimp only at hF ⊢
          have s0 := hp 0 rfl
          have s1 := hp 1 rfl
          refine d_need (small := [(17, (.slice bx xs.length cx)), (18, (.int .i64 ((k : Nat) : Int)))]) ⟨look_row rfl 0 rfl s0, look_row rfl 1 rfl s1, trivial⟩ ?_
          refine tp rfl (lv_indexAddr (k' := k) Try.underlying30 Try.sizeOf3 rfl rfl okx (by omega) (by omega) (by omega)) ?_
          exact d_closes ⟨look_row rfl 0 rfl s0, look_row rfl 1 rfl s1, trivial⟩ 2 rfl rfl rfl hS (AgreeR.refl _) (t_sat (fun _ h => h) (hK () trivial))
         · -- 3
          rintro _ S hF hS D hp K hK
          try dsimp only at hF ⊢
          have s2 := hp 2 rfl
          refine d_need (small := [(19, (.pointer (some (ad bx k))))]) ⟨look_row rfl 2 rfl s2, trivial⟩ ?_
          refine tp rfl (lv_load Try.isAgg3 rfl (Rd.gives hx (ints_get (by first | omega | (simp; omega))))) ?_
          exact d_closes ⟨look_row rfl 2 rfl s2, trivial⟩ 3 rfl rfl rfl hS (AgreeR.refl _) (t_sat (fun _ h => h) (hK () trivial))
         · -- 4
          rintro _ S hF hS D hp K hK
          try dsimp only at hF ⊢
          refine d_need (small := [(1, (.slice bb ys.length cy))]) ⟨look_b rfl rfl, trivial⟩ ?_
          refine tp rfl (lv_move rfl) ?_
          exact d_closes ⟨look_b rfl rfl, trivial⟩ 4 rfl rfl rfl hS (AgreeR.refl _) (t_sat (fun _ h => h) (hK () trivial))
         · -- 5
          rintro _ S hF hS D hp K hK
          try dsimp only at hF ⊢
          refine d_need (small := [(5, (.int .i64 ((k : Nat) : Int)))]) ⟨look_b rfl rfl, trivial⟩ ?_
          refine tp rfl (lv_move rfl) ?_
          exact d_closes ⟨look_b rfl rfl, trivial⟩ 5 rfl rfl rfl hS (AgreeR.refl _) (t_sat (fun _ h => h) (hK () trivial))
         · -- 6
          rintro _ S hF hS D hp K hK
          try dsimp only at hF ⊢
          have s4 := hp 4 rfl
          have s5 := hp 5 rfl
          refine d_need (small := [(21, (.slice bb ys.length cy)), (22, (.int .i64 ((k : Nat) : Int)))]) ⟨look_row rfl 4 rfl s4, look_row rfl 5 rfl s5, trivial⟩ ?_
          refine tp rfl (lv_indexAddr (k' := k) Try.underlying30 Try.sizeOf3 rfl rfl oky (by omega) (by omega) (by omega)) ?_
          exact d_closes ⟨look_row rfl 4 rfl s4, look_row rfl 5 rfl s5, trivial⟩ 6 rfl rfl rfl hS (AgreeR.refl _) (t_sat (fun _ h => h) (hK () trivial))
         · -- 7
          rintro _ S hF hS D hp K hK
          try dsimp only at hF ⊢
          have s6 := hp 6 rfl
          refine d_need (small := [(23, (.pointer (some (ad bb k))))]) ⟨look_row rfl 6 rfl s6, trivial⟩ ?_
          refine tp rfl (lv_load Try.isAgg3 rfl (Rd.gives hy (ints_get (by first | omega | (simp; omega))))) ?_
          exact d_closes ⟨look_row rfl 6 rfl s6, trivial⟩ 7 rfl rfl rfl hS (AgreeR.refl _) (t_sat (fun _ h => h) (hK () trivial))
         · -- 8
          rintro _ S hF hS D hp K hK
          try dsimp only at hF ⊢
          have s3 := hp 3 rfl
          have s7 := hp 7 rfl
          refine d_need (small := [(20, (.int .i64 ((xs).getD k 0))), (24, (.int .i64 ((ys).getD k 0)))]) ⟨look_row rfl 3 rfl s3, look_row rfl 7 rfl s7, trivial⟩ ?_
          refine tp rfl (lv_neq rfl rfl (bne_eq_false_iff_eq.2 h2)) ?_
          exact d_closes ⟨look_row rfl 3 rfl s3, look_row rfl 7 rfl s7, trivial⟩ 8 rfl rfl rfl hS (AgreeR.refl _) (t_sat (fun _ h => h) (hK () trivial))
        · -- behind
         rintro _ hF
         try dsimp only at hF ⊢
         refine t_weak (E' := [(0, (.slice bx xs.length cx)), (1, (.slice bb ys.length cy)), (5, (.int .i64 ((k : Nat) : Int))), (10, (.bool false)), (14, (.bool true)), (25, (.bool false))]) ⟨rfl, rfl, rfl, rfl, rfl, rfl, trivial⟩ ?_
         refine q_then_n (hK10 _ _ ?_)
         refine c_false rfl ?_
         refine c_skip ?_
         refine q_in_n ?_
         refine q_then_n (hK9 _ _ ?_)
         refine c_region ?_
         refine tp rfl (lv_move rfl) ?_
         refine tp rfl (lv_add (c := ((k + 1 : Nat) : Int)) rfl rfl (wr_i64_succ (by omega))) ?_
         refine tp rfl (lv_assign rfl) ?_
         refine t_done ?_
         refine q_then_n ?_
         exact t_weak (by exact ⟨rfl, rfl, rfl, rfl, trivial⟩) ((hK6 (k + 1) ⟨by omega, all_succ hall ‹_›⟩ (by omega)))
      · -- no
        refine c_draw (γ := Unit) (n := 9) Try.mixed rfl rfl (fun _ S => True) (fun _ => [(0, 17, (.slice bx xs.length cx)), (1, 18, (.int .i64 ((k : Nat) : Int))), (2, 19, (.pointer (some (ad bx k)))), (3, 20, (.int .i64 ((xs).getD k 0))), (4, 21, (.slice bb ys.length cy)), (5, 22, (.int .i64 ((k : Nat) : Int))), (6, 23, (.pointer (some (ad bb k)))), (7, 24, (.int .i64 ((ys).getD k 0))), (8, 25, (.bool true))]) (fun _ S => R) (()) trivial (fun _ h => h) (fun _ _ h => h) ?_ ?_
        · -- steps
         refine ⟨?_, ?_, ?_, ?_, ?_, ?_, ?_, ?_, ?_, trivial⟩
         · -- 0
          rintro _ S hF hS D hp K hK
          try dsimp only at hF ⊢
          refine d_need (small := [(0, (.slice bx xs.length cx))]) ⟨look_b rfl rfl, trivial⟩ ?_
          refine tp rfl (lv_move rfl) ?_
          exact d_closes ⟨look_b rfl rfl, trivial⟩ 0 rfl rfl rfl hS (AgreeR.refl _) (t_sat (fun _ h => h) (hK () trivial))
         · -- 1
          rintro _ S hF hS D hp K hK
          try dsimp only at hF ⊢
          refine d_need (small := [(5, (.int .i64 ((k : Nat) : Int)))]) ⟨look_b rfl rfl, trivial⟩ ?_
          refine tp rfl (lv_move rfl) ?_
          exact d_closes ⟨look_b rfl rfl, trivial⟩ 1 rfl rfl rfl hS (AgreeR.refl _) (t_sat (fun _ h => h) (hK () trivial))
         · -- 2
          rintro _ S hF hS D hp K hK
          try dsimp only at hF ⊢
          have s0 := hp 0 rfl
          have s1 := hp 1 rfl
          refine d_need (small := [(17, (.slice bx xs.length cx)), (18, (.int .i64 ((k : Nat) : Int)))]) ⟨look_row rfl 0 rfl s0, look_row rfl 1 rfl s1, trivial⟩ ?_
          refine tp rfl (lv_indexAddr (k' := k) Try.underlying30 Try.sizeOf3 rfl rfl okx (by omega) (by omega) (by omega)) ?_
          exact d_closes ⟨look_row rfl 0 rfl s0, look_row rfl 1 rfl s1, trivial⟩ 2 rfl rfl rfl hS (AgreeR.refl _) (t_sat (fun _ h => h) (hK () trivial))
         · -- 3
          rintro _ S hF hS D hp K hK
          try dsimp only at hF ⊢
          have s2 := hp 2 rfl
          refine d_need (small := [(19, (.pointer (some (ad bx k))))]) ⟨look_row rfl 2 rfl s2, trivial⟩ ?_
          refine tp rfl (lv_load Try.isAgg3 rfl (Rd.gives hx (ints_get (by first | omega | (simp; omega))))) ?_
          exact d_closes ⟨look_row rfl 2 rfl s2, trivial⟩ 3 rfl rfl rfl hS (AgreeR.refl _) (t_sat (fun _ h => h) (hK () trivial))
         · -- 4
          rintro _ S hF hS D hp K hK
          try dsimp only at hF ⊢
          refine d_need (small := [(1, (.slice bb ys.length cy))]) ⟨look_b rfl rfl, trivial⟩ ?_
          refine tp rfl (lv_move rfl) ?_
          exact d_closes ⟨look_b rfl rfl, trivial⟩ 4 rfl rfl rfl hS (AgreeR.refl _) (t_sat (fun _ h => h) (hK () trivial))
         · -- 5
          rintro _ S hF hS D hp K hK
          try dsimp only at hF ⊢
          refine d_need (small := [(5, (.int .i64 ((k : Nat) : Int)))]) ⟨look_b rfl rfl, trivial⟩ ?_
          refine tp rfl (lv_move rfl) ?_
          exact d_closes ⟨look_b rfl rfl, trivial⟩ 5 rfl rfl rfl hS (AgreeR.refl _) (t_sat (fun _ h => h) (hK () trivial))
         · -- 6
          rintro _ S hF hS D hp K hK
          try dsimp only at hF ⊢
          have s4 := hp 4 rfl
          have s5 := hp 5 rfl
          refine d_need (small := [(21, (.slice bb ys.length cy)), (22, (.int .i64 ((k : Nat) : Int)))]) ⟨look_row rfl 4 rfl s4, look_row rfl 5 rfl s5, trivial⟩ ?_
          refine tp rfl (lv_indexAddr (k' := k) Try.underlying30 Try.sizeOf3 rfl rfl oky (by omega) (by omega) (by omega)) ?_
          exact d_closes ⟨look_row rfl 4 rfl s4, look_row rfl 5 rfl s5, trivial⟩ 6 rfl rfl rfl hS (AgreeR.refl _) (t_sat (fun _ h => h) (hK () trivial))
         · -- 7
          rintro _ S hF hS D hp K hK
          try dsimp only at hF ⊢
          have s6 := hp 6 rfl
          refine d_need (small := [(23, (.pointer (some (ad bb k))))]) ⟨look_row rfl 6 rfl s6, trivial⟩ ?_
          refine tp rfl (lv_load Try.isAgg3 rfl (Rd.gives hy (ints_get (by first | omega | (simp; omega))))) ?_
          exact d_closes ⟨look_row rfl 6 rfl s6, trivial⟩ 7 rfl rfl rfl hS (AgreeR.refl _) (t_sat (fun _ h => h) (hK () trivial))
         · -- 8
          rintro _ S hF hS D hp K hK
          try dsimp only at hF ⊢
          have s3 := hp 3 rfl
          have s7 := hp 7 rfl
          refine d_need (small := [(20, (.int .i64 ((xs).getD k 0))), (24, (.int .i64 ((ys).getD k 0)))]) ⟨look_row rfl 3 rfl s3, look_row rfl 7 rfl s7, trivial⟩ ?_
          refine tp rfl (lv_neq rfl rfl (bne_iff_ne.2 h2)) ?_
          exact d_closes ⟨look_row rfl 3 rfl s3, look_row rfl 7 rfl s7, trivial⟩ 8 rfl rfl rfl hS (AgreeR.refl _) (t_sat (fun _ h => h) (hK () trivial))
        · -- behind
         rintro _ hF
         try dsimp only at hF ⊢
         refine t_weak (E' := [(0, (.slice bx xs.length cx)), (1, (.slice bb ys.length cy)), (5, (.int .i64 ((k : Nat) : Int))), (10, (.bool false)), (14, (.bool true)), (25, (.bool true))]) ⟨rfl, rfl, rfl, rfl, rfl, rfl, trivial⟩ ?_
         refine q_then_n (hK10 _ _ ?_)
         refine c_true rfl ?_
         refine c_seq (fun K11 hK11 => ?_)
         refine c_region ?_
         refine tp rfl (lv_assign rfl) ?_
         refine t_done ?_
         refine q_then_n (hK11 _ _ ?_)
         refine c_ret ?_
         refine q_in_r ?_
         refine q_then_r ?_
         refine q_then_r ?_
         refine q_in_r ?_
         refine q_then_r ?_
         refine q_ret rfl rfl ?_
         exact ⟨by first | rw [eqI_len (by omega)] | rw [eqI_at (j := k) (by omega) (by omega) ‹_›], rfl⟩
    · -- no
      refine tp rfl (lv_lss rfl rfl (decide_eq_false h1)) ?_
      refine t_done ?_
      refine q_then_n (hK8 _ _ ?_)
      refine c_false rfl ?_
      refine c_exit ?_
      refine q_then_x ?_
      refine q_then_x ?_
      refine q_in_x ?_
      refine q_then_n (hK4 _ _ ?_)
      refine c_seq (fun K9 hK9 => ?_)
      refine c_region ?_
      refine tp rfl (lv_assign rfl) ?_
      refine t_done ?_
      refine q_then_n (hK9 _ _ ?_)
      refine c_ret ?_
      refine q_ret rfl rfl ?_
      exact ⟨by rw [eqI_true (by omega) (fun j hj => hall j (by omega))], rfl⟩
  · -- no
    refine tp rfl (lv_neq rfl rfl (bne_iff_ne.2 hlen)) ?_
    refine t_done ?_
    refine q_then_n (hK3 _ _ ?_)
    refine c_true rfl ?_
    refine c_seq (fun K4 hK4 => ?_)
    refine c_region ?_
    refine tp rfl (lv_assign rfl) ?_
    refine t_done ?_
    refine q_then_n (hK4 _ _ ?_)
    refine c_ret ?_
    refine q_then_r ?_
    refine q_ret rfl rfl ?_
    exact ⟨by first | rw [eqI_len (by omega)] | rw [eqI_at (j := k) (by omega) (by omega) ‹_›], rfl⟩

theorem ints_n {R : List HP} {bx bb : Option Addr} {cx cy : Nat} (xs ys : List Int) {n m : Nat} (hn : xs.length = n) (hm : ys.length = m) (hx : Rd R bx (ints .i64 xs)) (hy : Rd R bb (ints .i64 ys)) (okx : SlOk bx n) (oky : SlOk bb m) (lx : n ≤ 4611686018427387904) (ly : m ≤ 4611686018427387904) :
    Ok Try.prog 17 [.slice bx n cx, .slice bb m cy] R (fun v M => v = .bool (eqI xs ys) ∧ M = R) := by subst hn; subst hm; exact ints_ok xs ys hx hy okx oky lx ly

def S0 : Ks := [none, none, none]
def S1 : Ks := [none, some 9, none]
def S2 : Ks := [some 5, some 9, none]
def S2a : Ks := [some 5, none, none]
def S3 : Ks := [some 5, some 5, none]
def S4 : Ks := [some 5, some 5, some 3]

set_option maxHeartbeats 4000000 in
theorem shown_ok {R : List HP} :
    Ok Try.prog 10 [] R
      (fun v M => v = .bool true ∧ M = R) := by
  refine ok_of (N := 93) Try.func10 rfl rfl rfl (fun W => ?_)
  refine c_seq (fun K1 hK1 => ?_)
  refine c_region ?_
  refine tp rfl (lv_assign rfl) ?_
  refine t_done ?_
  refine q_then_n (hK1 _ _ ?_)
  refine c_seq (fun K2 hK2 => ?_)
  refine c_region ?_
  refine tc rfl (en_fn Try.call11 rfl) (tnew_ok 3) ?_
  rintro _ _ ⟨p1, q2, rfl, rfl⟩
  rw [show hclamp 3 = 3 from rfl]
  rw [show List.replicate (3) none = S0 from rfl]
  refine tp rfl (lv_assign rfl) ?_
  refine t_done ?_
  refine q_then_n (hK2 _ _ ?_)
  refine c_seq (fun K3 hK3 => ?_)
  refine c_seq (fun K4 hK4 => ?_)
  refine c_region ?_
  refine tp rfl (lv_move rfl) ?_
  refine tp rfl (lv_eqnil Try.underlying25 rfl rfl) ?_
  refine t_done ?_
  refine q_then_n (hK4 _ _ ?_)
  refine c_false rfl ?_
  refine c_skip ?_
  refine q_then_n (hK3 _ _ ?_)
  refine c_seq (fun K5 hK5 => ?_)
  refine c_region ?_
  refine tp rfl (lv_move rfl) ?_
  refine t_f1 ?_
  refine t_f1 ?_
  refine tc rfl (en_fn Try.call12 rfl) (tset_ok (n := 3) (ks := S0) 1 9) ?_
  rintro _ _ ⟨rfl, rfl⟩
  rw [show remK S0 1 = S0 from rfl]
  rw [show pushE S0 1 = 0 from rfl]
  rw [show pushK (S0) 1 9 = S1 from rfl]
  refine tp rfl (lv_assign rfl) ?_
  refine t_done ?_
  refine q_then_n (hK5 _ _ ?_)
  refine c_seq (fun K6 hK6 => ?_)
  refine c_region ?_
  refine tp rfl (lv_move rfl) ?_
  refine t_f1 ?_
  refine t_f1 ?_
  refine tc rfl (en_fn Try.call12 rfl) (tset_ok (n := 3) (ks := S1) 0 5) ?_
  rintro _ _ ⟨rfl, rfl⟩
  rw [show remK S1 0 = S1 from rfl]
  rw [show pushE S1 0 = 0 from rfl]
  rw [show pushK (S1) 0 5 = S2 from rfl]
  refine tp rfl (lv_assign rfl) ?_
  refine t_done ?_
  refine q_then_n (hK6 _ _ ?_)
  refine c_seq (fun K7 hK7 => ?_)
  refine c_region ?_
  refine tp rfl (lv_move rfl) ?_
  refine t_f1 ?_
  refine t_f1 ?_
  refine tc rfl (en_fn Try.call12 rfl) (tset_ok (n := 3) (ks := S2) 1 5) ?_
  rintro _ _ ⟨rfl, rfl⟩
  rw [show remK S2 1 = S2a from rfl]
  rw [show pushE S2a 1 = 0 from rfl]
  rw [show pushK (S2a) 1 5 = S3 from rfl]
  refine tp rfl (lv_assign rfl) ?_
  refine t_done ?_
  refine q_then_n (hK7 _ _ ?_)
  refine c_seq (fun K8 hK8 => ?_)
  refine c_region ?_
  refine tp rfl (lv_move rfl) ?_
  refine t_f1 ?_
  refine t_f1 ?_
  refine tc rfl (en_fn Try.call12 rfl) (tset_ok (n := 3) (ks := S3) 2 3) ?_
  rintro _ _ ⟨rfl, rfl⟩
  rw [show remK S3 2 = S3 from rfl]
  rw [show pushE S3 2 = 0 from rfl]
  rw [show pushK (S3) 2 3 = S4 from rfl]
  refine tp rfl (lv_assign rfl) ?_
  refine t_done ?_
  refine q_then_n (hK8 _ _ ?_)
  refine c_seq (fun K9 hK9 => ?_)
  refine c_region ?_
  refine tp rfl (lv_move rfl) ?_
  refine t_f1 ?_
  refine t_f1 ?_
  refine tc rfl (en_fn Try.call12 rfl) (tset_ok (n := 3) (ks := S4) 3 0) ?_
  rintro _ _ ⟨rfl, rfl⟩
  rw [show remK S4 3 = S4 from rfl]
  rw [show pushE S4 3 = 1 from rfl]
  rw [show pushK (S4) 3 0 = S4 from rfl]
  refine tp rfl (lv_assign rfl) ?_
  refine t_done ?_
  refine q_then_n (hK9 _ _ ?_)
  refine c_seq (fun K10 hK10 => ?_)
  refine c_region ?_
  refine tp rfl (lv_move rfl) ?_
  refine t_f1 ?_
  refine t_f1 ?_
  refine tc rfl (en_fn Try.call16 rfl) (tnext_ok (n := 3) (ks := S4) ) ?_
  rintro _ _ ⟨rfl, rfl⟩
  rw [show fstV S4 = 3 from rfl]
  rw [show fstB S4 = true from rfl]
  refine tp rfl (lv_move rfl) ?_
  refine tp rfl (lv_extract rfl rfl) ?_
  refine tp rfl (lv_extract rfl rfl) ?_
  refine tp rfl (lv_assign rfl) ?_
  refine tp rfl (lv_assign rfl) ?_
  refine t_done ?_
  refine q_then_n (hK10 _ _ ?_)
  refine c_seq (fun K11 hK11 => ?_)
  refine c_region ?_
  refine tp rfl (lv_move rfl) ?_
  refine t_f1 ?_
  refine t_f1 ?_
  refine tc rfl (en_fn Try.call14 rfl) (tdue_ok (n := 3) (ks := S4) 2) ?_
  rintro _ _ ⟨bs3, cp4, hok5, hle6, rfl, rfl⟩
  rw [show duR S4 2 = S4 from rfl]
  refine tp rfl (lv_assign rfl) ?_
  refine t_done ?_
  refine q_then_n (hK11 _ _ ?_)
  refine c_seq (fun K12 hK12 => ?_)
  refine c_region ?_
  refine tp rfl (lv_move rfl) ?_
  refine t_f2 ?_
  refine t_f2 ?_
  refine tc rfl (en_fn Try.call14 rfl) (tdue_ok (n := 3) (ks := S4) 5) ?_
  rintro _ _ ⟨bs7, cp8, hok9, hle10, rfl, rfl⟩
  rw [show duR S4 5 = S0 from rfl]
  refine tp rfl (lv_assign rfl) ?_
  refine t_done ?_
  refine q_then_n (hK12 _ _ ?_)
  refine c_seq (fun K13 hK13 => ?_)
  refine c_region ?_
  refine tp rfl (lv_move rfl) ?_
  refine t_f2 ?_
  refine t_f2 ?_
  refine tc rfl (en_fn Try.call16 rfl) (tnext_ok (n := 3) (ks := S0) ) ?_
  rintro _ _ ⟨rfl, rfl⟩
  rw [show fstV S0 = 0 from rfl]
  rw [show fstB S0 = false from rfl]
  refine tp rfl (lv_move rfl) ?_
  refine tp rfl (lv_extract rfl rfl) ?_
  refine tp rfl (lv_extract rfl rfl) ?_
  refine tp rfl (lv_assign rfl) ?_
  refine tp rfl (lv_assign rfl) ?_
  refine t_done ?_
  refine q_then_n (hK13 _ _ ?_)
  refine c_seq (fun K14 hK14 => ?_)
  refine c_region ?_
  refine tp rfl (lv_move rfl) ?_
  refine tp rfl (lv_eql (r := true) rfl rfl (by decide)) ?_
  refine tp rfl (lv_move rfl) ?_
  refine t_guard rfl rfl ?_
  refine tp rfl (lv_move rfl) ?_
  refine t_guard rfl rfl ?_
  refine tp rfl (lv_eql (r := true) rfl rfl (by decide)) ?_
  refine tp rfl (lv_pick_t rfl rfl) ?_
  refine tp rfl (lv_move rfl) ?_
  refine t_guard rfl rfl ?_
  refine tp rfl (lv_move rfl) ?_
  refine t_guard rfl rfl ?_
  refine tp rfl (lv_eql (r := true) rfl rfl (by decide)) ?_
  refine tp rfl (lv_pick_t rfl rfl) ?_
  refine tp rfl (lv_move rfl) ?_
  refine t_guard rfl rfl ?_
  refine tp rfl (lv_move rfl) ?_
  refine t_guard rfl rfl ?_
  refine tp rfl (lv_eql (r := true) rfl rfl (by decide)) ?_
  refine tp rfl (lv_pick_t rfl rfl) ?_
  refine tp rfl (lv_move rfl) ?_
  refine t_guard rfl rfl ?_
  refine tp rfl (lv_move rfl) ?_
  refine t_guard rfl rfl ?_
  refine tp rfl (lv_eql (r := true) rfl rfl (by decide)) ?_
  refine tp rfl (lv_pick_t rfl rfl) ?_
  refine tp rfl (lv_move rfl) ?_
  refine t_guard rfl rfl ?_
  refine tp rfl (lv_move rfl) ?_
  refine t_guard rfl rfl ?_
  refine tp rfl (lv_eql (r := true) rfl rfl (by decide)) ?_
  refine tp rfl (lv_pick_t rfl rfl) ?_
  refine tp rfl (lv_move rfl) ?_
  refine t_guard rfl rfl ?_
  refine tp rfl (lv_move rfl) ?_
  refine tp rfl (lv_pick_t rfl rfl) ?_
  refine tp rfl (lv_move rfl) ?_
  refine t_guard rfl rfl ?_
  refine tp rfl (lv_move rfl) ?_
  refine t_guard rfl rfl ?_
  refine tp rfl (lv_len Try.underlying30 rfl rfl) ?_
  refine t_guard rfl rfl ?_
  refine tp rfl (lv_eql (r := true) rfl rfl (by decide)) ?_
  refine tp rfl (lv_pick_t rfl rfl) ?_
  refine tp rfl (lv_move rfl) ?_
  refine t_guard rfl rfl ?_
  refine tp rfl (lv_move rfl) ?_
  refine t_guard rfl rfl ?_
  refine tm rfl (mv_buildSlice (cs := [(.int .i64 2), (.int .i64 0), (.int .i64 1)]) Try.underlying30 Try.sizeOf3 Try.zeroValue3 (by decide) rfl rfl rfl rfl) ?_
  rintro _ _ ⟨bs11, cp12, hok13, hle14, rfl, rfl⟩
  refine t_guard rfl rfl ?_
  refine tc rfl (en_fn Try.call17 rfl) (ints_n [2, 0, 1] [2, 0, 1] (by first | rfl | (simp; done) | (simp; omega)) (by first | rfl | (simp; done) | (simp; omega)) (rd_sl (.tail _ (.tail _ (.tail _ (.head _))))) (rd_sl (.head _)) hok9 hok13 (show (3 : Nat) ≤ 4611686018427387904 by omega) (by first | omega | (simp; omega) | (simp; done))) ?_
  rintro _ _ ⟨rfl, rfl⟩
  rw [eqI_refl]
  refine tp rfl (lv_pick_t rfl rfl) ?_
  refine tp rfl (lv_move rfl) ?_
  refine t_guard rfl rfl ?_
  refine tp rfl (lv_move rfl) ?_
  refine t_guard rfl rfl ?_
  refine tp rfl (lv_not (c := true) rfl rfl) ?_
  refine tp rfl (lv_pick_t rfl rfl) ?_
  refine tp rfl (lv_move rfl) ?_
  refine t_guard rfl rfl ?_
  refine tp rfl (lv_move rfl) ?_
  refine t_guard rfl rfl ?_
  refine t_f2 ?_
  refine t_f2 ?_
  refine tc rfl (en_fn Try.call13 rfl) (tstop_ok (n := 3) (ks := S0) 1) ?_
  rintro _ _ ⟨rfl, rfl⟩
  rw [show stopB S0 1 = false from rfl]
  rw [show remK S0 1 = S0 from rfl]
  refine t_guard rfl rfl ?_
  refine tp rfl (lv_not (c := true) rfl rfl) ?_
  refine tp rfl (lv_pick_t rfl rfl) ?_
  refine tp rfl (lv_move rfl) ?_
  refine t_guard rfl rfl ?_
  refine tp rfl (lv_move rfl) ?_
  refine t_guard rfl rfl ?_
  refine tp rfl (lv_nilCheck rfl) ?_
  refine t_guard rfl rfl ?_
  refine tp rfl (lv_fieldAddr (o' := 0) Try.underlying37 rfl Try.sizeOf35 rfl rfl) ?_
  refine t_guard rfl rfl ?_
  refine tp rfl (lv_fieldAddr (o' := 0) Try.underlying35 rfl Try.sizeOf33 rfl rfl) ?_
  refine t_guard rfl rfl ?_
  refine tp rfl (lv_load Try.isAgg33 rfl (gives_blk (.head _) rfl)) ?_
  refine t_guard rfl rfl ?_
  refine t_f1 ?_
  refine tc rfl (en_fn Try.call15 rfl) (hlen_ok (n := 3) (ks := S0) ) ?_
  rintro _ _ ⟨rfl, rfl⟩
  refine t_guard rfl rfl ?_
  refine tp rfl (lv_eql rfl rfl (beq_iff_eq.2 rfl)) ?_
  refine tp rfl (lv_pick_t rfl rfl) ?_
  refine tp rfl (lv_assign rfl) ?_
  refine t_done ?_
  refine q_then_n (hK14 _ _ ?_)
  refine c_ret ?_
  refine t_drop ?_
  refine t_drop ?_
  refine t_drop ?_
  refine t_drop ?_
  refine t_drop ?_
  refine q_ret rfl rfl ?_
  exact ⟨rfl, rfl⟩
end Go.Proofs.Ytombnfgkgcjihaa
