/- CyclePaths: the law's walk. -/
import Derived.Test.YtppgccafgfpkdaaDoorLa
set_option maxRecDepth 100000
set_option linter.unusedVariables false
set_option linter.unusedSimpArgs false
namespace Go.Proofs.YtppgccafgfpkdaaDoor
open Go Go.Proofs Sp
set_option maxHeartbeats 20000000 in
theorem paths_law {R : List HP} (n : Int) {beb : Option Addr} {ceb : Nat} (es : List (Int × Int)) (heb : Rd R beb (pairs es)) (okeb : SlOk beb es.length) (leb : es.length ≤ 9223372036854775807) (lceb : es.length ≤ ceb) (a b : Int) (hT : Tab R) :
    Ok Tryd.prog 6 [(.int .i64 n), (.slice beb es.length ceb), (.int .i64 a), (.int .i64 b)] R
      (fun v M => v = .bool true ∧ M = R) := by
  have hgk : GOk (clampN (min n 30)) (madeE (clampN (min n 30)) (es.take 100)) := GOk.made (clampN_le _) _
  have hcn := clampN_le (min n 30)
  refine ok_of (N := 100) Tryd.func6 rfl rfl rfl (fun W => ?_)
  refine c_seq (fun K1 hK1 => ?_)
  refine c_region ?_
  refine tp rfl (lv_assign rfl) ?_
  refine t_done ?_
  refine q_then_n (hK1 _ _ ?_)
  refine c_seq (fun K2 hK2 => ?_)
  refine c_region ?_
  refine tc rfl (en_fn Tryd.call9 rfl) (shown_ok hT) ?_
  rintro _ _ ⟨rfl, hMR⟩
  rw [hMR]; clear hMR
  refine tp rfl (lv_assign rfl) ?_
  refine t_done ?_
  refine q_then_n (hK2 _ _ ?_)
  refine c_seq (fun K3 hK3 => ?_)
  refine c_region ?_
  refine tp rfl (lv_move rfl) ?_
  refine tp rfl (lv_move rfl) ?_
  refine tc rfl (en_fn Tryd.call10 rfl) (made_ok n es heb (fun hz => okeb (by first | exact hz | omega)) (by first | omega | decide)) ?_
  rintro _ _ ⟨p1, rfl, rfl⟩
  refine tp rfl (lv_assign rfl) ?_
  refine t_done ?_
  refine q_then_n (hK3 _ _ ?_)
  refine c_seq (fun K4 hK4 => ?_)
  refine c_seq (fun K5 hK5 => ?_)
  refine c_region ?_
  refine tp rfl (lv_move rfl) ?_
  refine tp rfl (lv_eqnil Tryd.underlying24 rfl rfl) ?_
  refine t_done ?_
  refine q_then_n (hK5 _ _ ?_)
  refine c_false rfl ?_
  refine c_skip ?_
  refine q_then_n (hK4 _ _ ?_)
  refine c_seq (fun K6 hK6 => ?_)
  refine c_region ?_
  obtain ⟨EE, hEE⟩ : ∃ x, madeE (clampN (min n 30)) (es.take 100) = x := ⟨_, rfl⟩
  rw [hEE] at hgk ⊢
  obtain ⟨NN, hNN⟩ : ∃ x, clampN (min n 30) = x := ⟨_, rfl⟩
  rw [hNN] at hgk hcn ⊢
  refine tp rfl (lv_move rfl) ?_
  refine tp rfl (lv_move rfl) ?_
  refine tp rfl (lv_move rfl) ?_
  refine tc rfl (en_fn Tryd.call16 rfl) (path_ok (N := NN) (E := EE) a b) ?_
  rintro _ _ ⟨bs2, cp3, hok4, hle5, rfl, rfl⟩
  refine tp rfl (lv_assign rfl) ?_
  refine t_done ?_
  refine q_then_n (hK6 _ _ ?_)
  refine c_seq (fun K7 hK7 => ?_)
  refine c_seq (fun K8 hK8 => ?_)
  refine c_region ?_
  refine tp rfl (lv_move rfl) ?_
  refine tp rfl (lv_len Tryd.underlying33 rfl rfl) ?_
  refine tp rfl (lv_gtr rfl rfl rfl) ?_
  refine tp rfl (lv_move rfl) ?_
  refine tp rfl (lv_move rfl) ?_
  refine tp rfl (lv_move rfl) ?_
  refine t_f1 ?_
  refine tc rfl (en_fn Tryd.call23 rfl) (reaches_ok (N := NN) (es := EE) a b (Tab.cons hT)) ?_
  rintro _ _ ⟨rfl, rfl⟩
  refine tp rfl (lv_neb Tryd.underlying4 rfl rfl (show (_ != _) = false from by rw [path_pos]; simp)) ?_
  refine t_done ?_
  refine q_then_n (hK8 _ _ ?_)
  refine c_false rfl ?_
  refine c_skip ?_
  refine q_then_n (hK7 _ _ ?_)
  refine c_seq (fun K9 hK9 => ?_)
  refine c_seq (fun K10 hK10 => ?_)
  refine c_region ?_
  refine tp rfl (lv_move rfl) ?_
  refine tp rfl (lv_len Tryd.underlying33 rfl rfl) ?_
  by_cases hl0 : (((pathL NN EE a b).length : Nat) : Int) = 0
  · -- yes
    refine tp rfl (lv_eql rfl rfl (beq_iff_eq.2 hl0)) ?_
    refine t_done ?_
    refine q_then_n (hK10 _ _ ?_)
    refine c_true rfl ?_
    refine c_seq (fun K11 hK11 => ?_)
    refine c_region ?_
    refine tp rfl (lv_move rfl) ?_
    refine tp rfl (lv_assign rfl) ?_
    refine t_done ?_
    refine q_then_n (hK11 _ _ ?_)
    refine c_ret ?_
    refine q_then_r ?_
    refine t_drop ?_
    refine t_drop ?_
    refine q_ret rfl rfl ?_
    exact ⟨rfl, rfl⟩
  · -- no
    refine tp rfl (lv_eql rfl rfl (beq_eq_false_iff_ne.2 hl0)) ?_
    refine t_done ?_
    refine q_then_n (hK10 _ _ ?_)
    refine c_false rfl ?_
    refine c_skip ?_
    refine q_then_n (hK9 _ _ ?_)
    refine c_seq (fun K11 hK11 => ?_)
    refine c_seq (fun K12 hK12 => ?_)
    refine c_region ?_
    refine tp rfl (lv_assign rfl) ?_
    refine t_done ?_
    refine q_then_n (hK12 _ _ ?_)
    refine c_block ?_
    refine c_loop (γ := (Nat)) (fun (i : Nat) => i ≤ (pathL NN EE a b).length) (fun (i : Nat) => [(0, (.int .i64 n)), (1, (.slice beb es.length ceb)), (2, (.int .i64 a)), (3, (.int .i64 b)), (9, (.bool true)), (10, (.pointer (some ⟨p1, 0, none⟩))), (11, (.slice bs2 ((pathL NN EE a b).length) cp3)), (12, (.int .i64 ((i : Nat) : Int))), (19, (.bool false)), (31, (.bool false)), (34, (.bool false))]) (fun (i : Nat) => (GraphO p1 NN EE) :: (SlV 3 1 (.slice bs2 ((pathL NN EE a b).length) cp3) ((pathL NN EE a b).length) (ints .i64 (pathL NN EE a b))) :: R) (fun (i : Nat) => (pathL NN EE a b).length - i) (0) (by omega) ⟨rfl, rfl, rfl, rfl, rfl, rfl, rfl, rfl, rfl, rfl, rfl, trivial⟩ (fun _ h => h) ?_
    rintro i K13 hF hK13
    try dsimp only at hF hK13 ⊢
    have hpl := path_le hgk (a := a) (to := b)
    refine c_seq (fun K14 hK14 => ?_)
    refine c_seq (fun K15 hK15 => ?_)
    refine c_region ?_
    refine tp rfl (lv_move rfl) ?_
    refine tp rfl (lv_move rfl) ?_
    refine tp rfl (lv_len Tryd.underlying33 rfl rfl) ?_
    by_cases h6 : ((i : Nat) : Int) < (((pathL NN EE a b).length : Nat) : Int)
    · -- yes
      refine tp rfl (lv_lss rfl rfl (decide_eq_true h6)) ?_
      refine t_done ?_
      refine q_then_n (hK15 _ _ ?_)
      refine c_true rfl ?_
      refine c_skip ?_
      refine q_then_n (hK14 _ _ ?_)
      refine c_seq (fun K16 hK16 => ?_)
      refine c_block ?_
      refine c_seq (fun K17 hK17 => ?_)
      refine c_seq (fun K18 hK18 => ?_)
      by_cases h7 : ((i : Nat) : Int) > 0
      · -- yes
        refine c_draw (γ := Unit) (n := 16) Tryd.mixed rfl rfl (fun _ S => True) (fun _ => [(0, 42, (.int .i64 ((i : Nat) : Int))), (1, 43, (.bool true)), (2, 44, (.bool true)), (3, 45, (.pointer (some ⟨p1, 0, none⟩))), (4, 46, (.slice bs2 ((pathL NN EE a b).length) cp3)), (5, 47, (.int .i64 ((i : Nat) : Int))), (6, 48, (.int .i64 ((i - 1 : Nat) : Int))), (7, 49, (.pointer (some (ad bs2 (i - 1))))), (8, 50, (.int .i64 ((pathL NN EE a b).getD (i - 1) 0))), (9, 51, (.slice bs2 ((pathL NN EE a b).length) cp3)), (10, 52, (.int .i64 ((i : Nat) : Int))), (11, 53, (.pointer (some (ad bs2 i)))), (12, 54, (.int .i64 ((pathL NN EE a b).getD i 0))), (13, 55, (.bool true)), (14, 56, (.bool false)), (15, 57, (.bool false))]) (fun _ S => (GraphO p1 NN EE) :: (SlV 3 1 (.slice bs2 ((pathL NN EE a b).length) cp3) ((pathL NN EE a b).length) (ints .i64 (pathL NN EE a b))) :: R) (()) trivial (fun _ h => h) (fun _ _ h => h) ?_ ?_
        · -- steps
         refine ⟨?_, ?_, ?_, ?_, ?_, ?_, ?_, ?_, ?_, ?_, ?_, ?_, ?_, ?_, ?_, ?_, trivial⟩
         · -- 0
          rintro _ S hF hS D hp K hK
          try dsimp only at hF ⊢
          refine d_need (small := [(12, (.int .i64 ((i : Nat) : Int)))]) ⟨look_b rfl rfl, trivial⟩ ?_
          refine tp rfl (lv_move rfl) ?_
          exact d_closes ⟨look_b rfl rfl, trivial⟩ 0 rfl rfl rfl hS (AgreeR.refl _) (t_sat (fun _ h => h) (hK () trivial))
         · -- 1
          rintro _ S hF hS D hp K hK
          try dsimp only at hF ⊢
          have s0 := hp 0 rfl
          refine d_need (small := [(42, (.int .i64 ((i : Nat) : Int)))]) ⟨look_row rfl 0 rfl s0, trivial⟩ ?_
          refine tp rfl (lv_gtr rfl rfl (decide_eq_true h7)) ?_
          exact d_closes ⟨look_row rfl 0 rfl s0, trivial⟩ 1 rfl rfl rfl hS (AgreeR.refl _) (t_sat (fun _ h => h) (hK () trivial))
         · -- 2
          rintro _ S hF hS D hp K hK
          try dsimp only at hF ⊢
          have s1 := hp 1 rfl
          refine d_need (small := [(43, (.bool true))]) ⟨look_row rfl 1 rfl s1, trivial⟩ ?_
          refine tp rfl (lv_move rfl) ?_
          exact d_closes ⟨look_row rfl 1 rfl s1, trivial⟩ 2 rfl rfl rfl hS (AgreeR.refl _) (t_sat (fun _ h => h) (hK () trivial))
         · -- 3
          rintro _ S hF hS D hp K hK
          try dsimp only at hF ⊢
          have s2 := hp 2 rfl
          refine d_need (small := [(10, (.pointer (some ⟨p1, 0, none⟩))), (44, (.bool true))]) ⟨look_b rfl rfl, look_row rfl 2 rfl s2, trivial⟩ ?_
          refine t_guard rfl rfl ?_
          refine tp rfl (lv_move rfl) ?_
          exact d_closes ⟨look_b rfl rfl, look_row rfl 2 rfl s2, trivial⟩ 3 rfl rfl rfl hS (AgreeR.refl _) (t_sat (fun _ h => h) (hK () trivial))
         · -- 4
          rintro _ S hF hS D hp K hK
          try dsimp only at hF ⊢
          have s2 := hp 2 rfl
          refine d_need (small := [(11, (.slice bs2 ((pathL NN EE a b).length) cp3)), (44, (.bool true))]) ⟨look_b rfl rfl, look_row rfl 2 rfl s2, trivial⟩ ?_
          refine t_guard rfl rfl ?_
          refine tp rfl (lv_move rfl) ?_
          exact d_closes ⟨look_b rfl rfl, look_row rfl 2 rfl s2, trivial⟩ 4 rfl rfl rfl hS (AgreeR.refl _) (t_sat (fun _ h => h) (hK () trivial))
         · -- 5
          rintro _ S hF hS D hp K hK
          try dsimp only at hF ⊢
          have s2 := hp 2 rfl
          refine d_need (small := [(12, (.int .i64 ((i : Nat) : Int))), (44, (.bool true))]) ⟨look_b rfl rfl, look_row rfl 2 rfl s2, trivial⟩ ?_
          refine t_guard rfl rfl ?_
          refine tp rfl (lv_move rfl) ?_
          exact d_closes ⟨look_b rfl rfl, look_row rfl 2 rfl s2, trivial⟩ 5 rfl rfl rfl hS (AgreeR.refl _) (t_sat (fun _ h => h) (hK () trivial))
         · -- 6
          rintro _ S hF hS D hp K hK
          try dsimp only at hF ⊢
          have s2 := hp 2 rfl
          have s5 := hp 5 rfl
          refine d_need (small := [(44, (.bool true)), (47, (.int .i64 ((i : Nat) : Int)))]) ⟨look_row rfl 2 rfl s2, look_row rfl 5 rfl s5, trivial⟩ ?_
          refine t_guard rfl rfl ?_
          refine tp rfl (lv_sub (c := ((i - 1 : Nat) : Int)) rfl rfl ((wr_i64 (by omega) (by omega)).trans (by omega))) ?_
          exact d_closes ⟨look_row rfl 2 rfl s2, look_row rfl 5 rfl s5, trivial⟩ 6 rfl rfl rfl hS (AgreeR.refl _) (t_sat (fun _ h => h) (hK () trivial))
         · -- 7
          rintro _ S hF hS D hp K hK
          try dsimp only at hF ⊢
          have s2 := hp 2 rfl
          have s4 := hp 4 rfl
          have s6 := hp 6 rfl
          refine d_need (small := [(44, (.bool true)), (46, (.slice bs2 ((pathL NN EE a b).length) cp3)), (48, (.int .i64 ((i - 1 : Nat) : Int)))]) ⟨look_row rfl 2 rfl s2, look_row rfl 4 rfl s4, look_row rfl 6 rfl s6, trivial⟩ ?_
          refine t_guard rfl rfl ?_
          refine tp rfl (lv_indexAddr (k' := i - 1) Tryd.underlying33 Tryd.sizeOf3 rfl rfl hok4 (by omega) (by omega) (by omega)) ?_
          exact d_closes ⟨look_row rfl 2 rfl s2, look_row rfl 4 rfl s4, look_row rfl 6 rfl s6, trivial⟩ 7 rfl rfl rfl hS (AgreeR.refl _) (t_sat (fun _ h => h) (hK () trivial))
         · -- 8
          rintro _ S hF hS D hp K hK
          try dsimp only at hF ⊢
          have s2 := hp 2 rfl
          have s7 := hp 7 rfl
          refine d_need (small := [(44, (.bool true)), (49, (.pointer (some (ad bs2 (i - 1)))))]) ⟨look_row rfl 2 rfl s2, look_row rfl 7 rfl s7, trivial⟩ ?_
          refine t_guard rfl rfl ?_
          refine tp rfl (lv_load Tryd.isAgg3 rfl (gives_sl (.tail _ (.head _)) (ints_get (by omega)))) ?_
          exact d_closes ⟨look_row rfl 2 rfl s2, look_row rfl 7 rfl s7, trivial⟩ 8 rfl rfl rfl hS (AgreeR.refl _) (t_sat (fun _ h => h) (hK () trivial))
         · -- 9
          rintro _ S hF hS D hp K hK
          try dsimp only at hF ⊢
          have s2 := hp 2 rfl
          refine d_need (small := [(11, (.slice bs2 ((pathL NN EE a b).length) cp3)), (44, (.bool true))]) ⟨look_b rfl rfl, look_row rfl 2 rfl s2, trivial⟩ ?_
          refine t_guard rfl rfl ?_
          refine tp rfl (lv_move rfl) ?_
          exact d_closes ⟨look_b rfl rfl, look_row rfl 2 rfl s2, trivial⟩ 9 rfl rfl rfl hS (AgreeR.refl _) (t_sat (fun _ h => h) (hK () trivial))
         · -- 10
          rintro _ S hF hS D hp K hK
          try dsimp only at hF ⊢
          have s2 := hp 2 rfl
          refine d_need (small := [(12, (.int .i64 ((i : Nat) : Int))), (44, (.bool true))]) ⟨look_b rfl rfl, look_row rfl 2 rfl s2, trivial⟩ ?_
          refine t_guard rfl rfl ?_
          refine tp rfl (lv_move rfl) ?_
          exact d_closes ⟨look_b rfl rfl, look_row rfl 2 rfl s2, trivial⟩ 10 rfl rfl rfl hS (AgreeR.refl _) (t_sat (fun _ h => h) (hK () trivial))
         · -- 11
          rintro _ S hF hS D hp K hK
          try dsimp only at hF ⊢
          have s2 := hp 2 rfl
          have s9 := hp 9 rfl
          have s10 := hp 10 rfl
          refine d_need (small := [(44, (.bool true)), (51, (.slice bs2 ((pathL NN EE a b).length) cp3)), (52, (.int .i64 ((i : Nat) : Int)))]) ⟨look_row rfl 2 rfl s2, look_row rfl 9 rfl s9, look_row rfl 10 rfl s10, trivial⟩ ?_
          refine t_guard rfl rfl ?_
          refine tp rfl (lv_indexAddr (k' := i) Tryd.underlying33 Tryd.sizeOf3 rfl rfl hok4 (by omega) (by omega) (by omega)) ?_
          exact d_closes ⟨look_row rfl 2 rfl s2, look_row rfl 9 rfl s9, look_row rfl 10 rfl s10, trivial⟩ 11 rfl rfl rfl hS (AgreeR.refl _) (t_sat (fun _ h => h) (hK () trivial))
         · -- 12
          rintro _ S hF hS D hp K hK
          try dsimp only at hF ⊢
          have s2 := hp 2 rfl
          have s11 := hp 11 rfl
          refine d_need (small := [(44, (.bool true)), (53, (.pointer (some (ad bs2 i))))]) ⟨look_row rfl 2 rfl s2, look_row rfl 11 rfl s11, trivial⟩ ?_
          refine t_guard rfl rfl ?_
          refine tp rfl (lv_load Tryd.isAgg3 rfl (gives_sl (.tail _ (.head _)) (ints_get (by omega)))) ?_
          exact d_closes ⟨look_row rfl 2 rfl s2, look_row rfl 11 rfl s11, trivial⟩ 12 rfl rfl rfl hS (AgreeR.refl _) (t_sat (fun _ h => h) (hK () trivial))
         · -- 13
          rintro _ S hF hS D hp K hK
          try dsimp only at hF ⊢
          have s2 := hp 2 rfl
          have s3 := hp 3 rfl
          have s8 := hp 8 rfl
          have s12 := hp 12 rfl
          refine d_need (small := [(44, (.bool true)), (45, (.pointer (some ⟨p1, 0, none⟩))), (50, (.int .i64 ((pathL NN EE a b).getD (i - 1) 0))), (54, (.int .i64 ((pathL NN EE a b).getD i 0)))]) ⟨look_row rfl 2 rfl s2, look_row rfl 3 rfl s3, look_row rfl 8 rfl s8, look_row rfl 12 rfl s12, trivial⟩ ?_
          refine t_guard rfl rfl ?_
          refine tc rfl (en_fn Tryd.call24 rfl) (hasE_ok (N := NN) (es := EE) ((pathL NN EE a b).getD (i - 1) 0) ((pathL NN EE a b).getD i 0)) ?_
          rintro _ _ ⟨rfl, rfl⟩
          rw [show hasE EE ((pathL NN EE a b).getD (i - 1) 0, (pathL NN EE a b).getD i 0) = true from (path_has (by omega) (by omega))]
          exact d_closes ⟨look_row rfl 2 rfl s2, look_row rfl 3 rfl s3, look_row rfl 8 rfl s8, look_row rfl 12 rfl s12, trivial⟩ 13 rfl rfl rfl hS (AgreeR.refl _) (t_sat (fun _ h => h) (hK () trivial))
         · -- 14
          rintro _ S hF hS D hp K hK
          try dsimp only at hF ⊢
          have s2 := hp 2 rfl
          have s13 := hp 13 rfl
          refine d_need (small := [(44, (.bool true)), (55, (.bool true))]) ⟨look_row rfl 2 rfl s2, look_row rfl 13 rfl s13, trivial⟩ ?_
          refine t_guard rfl rfl ?_
          refine tp rfl (lv_not (c := false) rfl rfl) ?_
          exact d_closes ⟨look_row rfl 2 rfl s2, look_row rfl 13 rfl s13, trivial⟩ 14 rfl rfl rfl hS (AgreeR.refl _) (t_sat (fun _ h => h) (hK () trivial))
         · -- 15
          rintro _ S hF hS D hp K hK
          try dsimp only at hF ⊢
          have s2 := hp 2 rfl
          have s14 := hp 14 rfl
          refine d_need (small := [(44, (.bool true)), (56, (.bool false))]) ⟨look_row rfl 2 rfl s2, look_row rfl 14 rfl s14, trivial⟩ ?_
          refine tp rfl (lv_pick_t rfl rfl) ?_
          exact d_closes ⟨look_row rfl 2 rfl s2, look_row rfl 14 rfl s14, trivial⟩ 15 rfl rfl rfl hS (AgreeR.refl _) (t_sat (fun _ h => h) (hK () trivial))
        · -- behind
         rintro _ hF
         try dsimp only at hF ⊢
         refine t_weak (E' := [(0, (.int .i64 n)), (1, (.slice beb es.length ceb)), (2, (.int .i64 a)), (3, (.int .i64 b)), (9, (.bool true)), (10, (.pointer (some ⟨p1, 0, none⟩))), (11, (.slice bs2 ((pathL NN EE a b).length) cp3)), (12, (.int .i64 ((i : Nat) : Int))), (19, (.bool false)), (31, (.bool false)), (34, (.bool false)), (39, (.bool true)), (57, (.bool false))]) ⟨rfl, rfl, rfl, rfl, rfl, rfl, rfl, rfl, rfl, rfl, rfl, rfl, rfl, trivial⟩ ?_
         refine q_then_n (hK18 _ _ ?_)
         refine c_false rfl ?_
         refine c_skip ?_
         refine q_then_n (hK17 _ _ ?_)
         refine c_seq (fun K19 hK19 => ?_)
         refine c_region ?_
         refine tp rfl (lv_assign rfl) ?_
         refine t_done ?_
         refine q_then_n (hK19 _ _ ?_)
         refine c_block ?_
         refine c_loop (γ := (Nat)) (fun (k : Nat) => k ≤ i) (fun (k : Nat) => [(0, (.int .i64 n)), (1, (.slice beb es.length ceb)), (2, (.int .i64 a)), (3, (.int .i64 b)), (9, (.bool true)), (10, (.pointer (some ⟨p1, 0, none⟩))), (11, (.slice bs2 ((pathL NN EE a b).length) cp3)), (12, (.int .i64 ((i : Nat) : Int))), (13, (.int .i64 ((k : Nat) : Int))), (19, (.bool false)), (31, (.bool false)), (34, (.bool false)), (39, (.bool true)), (57, (.bool false))]) (fun (k : Nat) => (GraphO p1 NN EE) :: (SlV 3 1 (.slice bs2 ((pathL NN EE a b).length) cp3) ((pathL NN EE a b).length) (ints .i64 (pathL NN EE a b))) :: R) (fun (k : Nat) => i - k) (0) (by omega) ⟨rfl, rfl, rfl, rfl, rfl, rfl, rfl, rfl, rfl, rfl, rfl, rfl, rfl, rfl, trivial⟩ (fun _ h => h) ?_
         rintro k K20 hF hK20
         try dsimp only at hF hK20 ⊢
         refine c_seq (fun K21 hK21 => ?_)
         refine c_seq (fun K22 hK22 => ?_)
         refine c_region ?_
         refine tp rfl (lv_move rfl) ?_
         refine tp rfl (lv_move rfl) ?_
         by_cases h8 : ((k : Nat) : Int) < ((i : Nat) : Int)
         · -- yes
          refine tp rfl (lv_lss rfl rfl (decide_eq_true h8)) ?_
          refine t_done ?_
          refine q_then_n (hK22 _ _ ?_)
          refine c_true rfl ?_
          refine c_skip ?_
          refine q_then_n (hK21 _ _ ?_)
          refine c_seq (fun K23 hK23 => ?_)
          refine c_block ?_
          refine c_seq (fun K24 hK24 => ?_)
          refine c_draw (γ := Unit) (n := 9) Tryd.mixed rfl rfl (fun _ S => True) (fun _ => [(0, 63, (.slice bs2 ((pathL NN EE a b).length) cp3)), (1, 64, (.int .i64 ((k : Nat) : Int))), (2, 65, (.pointer (some (ad bs2 k)))), (3, 66, (.int .i64 ((pathL NN EE a b).getD k 0))), (4, 67, (.slice bs2 ((pathL NN EE a b).length) cp3)), (5, 68, (.int .i64 ((i : Nat) : Int))), (6, 69, (.pointer (some (ad bs2 i)))), (7, 70, (.int .i64 ((pathL NN EE a b).getD i 0))), (8, 71, (.bool false))]) (fun _ S => (GraphO p1 NN EE) :: (SlV 3 1 (.slice bs2 ((pathL NN EE a b).length) cp3) ((pathL NN EE a b).length) (ints .i64 (pathL NN EE a b))) :: R) (()) trivial (fun _ h => h) (fun _ _ h => h) ?_ ?_
          · -- steps
           refine ⟨?_, ?_, ?_, ?_, ?_, ?_, ?_, ?_, ?_, trivial⟩
           · -- 0
            rintro _ S hF hS D hp K hK
            try dsimp only at hF ⊢
            refine d_need (small := [(11, (.slice bs2 ((pathL NN EE a b).length) cp3))]) ⟨look_b rfl rfl, trivial⟩ ?_
            refine tp rfl (lv_move rfl) ?_
            exact d_closes ⟨look_b rfl rfl, trivial⟩ 0 rfl rfl rfl hS (AgreeR.refl _) (t_sat (fun _ h => h) (hK () trivial))
           · -- 1
            rintro _ S hF hS D hp K hK
            try dsimp only at hF ⊢
            refine d_need (small := [(13, (.int .i64 ((k : Nat) : Int)))]) ⟨look_b rfl rfl, trivial⟩ ?_
            refine tp rfl (lv_move rfl) ?_
            exact d_closes ⟨look_b rfl rfl, trivial⟩ 1 rfl rfl rfl hS (AgreeR.refl _) (t_sat (fun _ h => h) (hK () trivial))
           · -- 2
            rintro _ S hF hS D hp K hK
            try dsimp only at hF ⊢
            have s0 := hp 0 rfl
            have s1 := hp 1 rfl
            refine d_need (small := [(63, (.slice bs2 ((pathL NN EE a b).length) cp3)), (64, (.int .i64 ((k : Nat) : Int)))]) ⟨look_row rfl 0 rfl s0, look_row rfl 1 rfl s1, trivial⟩ ?_
            refine tp rfl (lv_indexAddr (k' := k) Tryd.underlying33 Tryd.sizeOf3 rfl rfl hok4 (by omega) (by omega) (by omega)) ?_
            exact d_closes ⟨look_row rfl 0 rfl s0, look_row rfl 1 rfl s1, trivial⟩ 2 rfl rfl rfl hS (AgreeR.refl _) (t_sat (fun _ h => h) (hK () trivial))
           · -- 3
            rintro _ S hF hS D hp K hK
            try dsimp only at hF ⊢
            have s2 := hp 2 rfl
            refine d_need (small := [(65, (.pointer (some (ad bs2 k))))]) ⟨look_row rfl 2 rfl s2, trivial⟩ ?_
            refine tp rfl (lv_load Tryd.isAgg3 rfl (gives_sl (.tail _ (.head _)) (ints_get (by omega)))) ?_
            exact d_closes ⟨look_row rfl 2 rfl s2, trivial⟩ 3 rfl rfl rfl hS (AgreeR.refl _) (t_sat (fun _ h => h) (hK () trivial))
           · -- 4
            rintro _ S hF hS D hp K hK
            try dsimp only at hF ⊢
            refine d_need (small := [(11, (.slice bs2 ((pathL NN EE a b).length) cp3))]) ⟨look_b rfl rfl, trivial⟩ ?_
            refine tp rfl (lv_move rfl) ?_
            exact d_closes ⟨look_b rfl rfl, trivial⟩ 4 rfl rfl rfl hS (AgreeR.refl _) (t_sat (fun _ h => h) (hK () trivial))
           · -- 5
            rintro _ S hF hS D hp K hK
            try dsimp only at hF ⊢
            refine d_need (small := [(12, (.int .i64 ((i : Nat) : Int)))]) ⟨look_b rfl rfl, trivial⟩ ?_
            refine tp rfl (lv_move rfl) ?_
            exact d_closes ⟨look_b rfl rfl, trivial⟩ 5 rfl rfl rfl hS (AgreeR.refl _) (t_sat (fun _ h => h) (hK () trivial))
           · -- 6
            rintro _ S hF hS D hp K hK
            try dsimp only at hF ⊢
            have s4 := hp 4 rfl
            have s5 := hp 5 rfl
            refine d_need (small := [(67, (.slice bs2 ((pathL NN EE a b).length) cp3)), (68, (.int .i64 ((i : Nat) : Int)))]) ⟨look_row rfl 4 rfl s4, look_row rfl 5 rfl s5, trivial⟩ ?_
            refine tp rfl (lv_indexAddr (k' := i) Tryd.underlying33 Tryd.sizeOf3 rfl rfl hok4 (by omega) (by omega) (by omega)) ?_
            exact d_closes ⟨look_row rfl 4 rfl s4, look_row rfl 5 rfl s5, trivial⟩ 6 rfl rfl rfl hS (AgreeR.refl _) (t_sat (fun _ h => h) (hK () trivial))
           · -- 7
            rintro _ S hF hS D hp K hK
            try dsimp only at hF ⊢
            have s6 := hp 6 rfl
            refine d_need (small := [(69, (.pointer (some (ad bs2 i))))]) ⟨look_row rfl 6 rfl s6, trivial⟩ ?_
            refine tp rfl (lv_load Tryd.isAgg3 rfl (gives_sl (.tail _ (.head _)) (ints_get (by omega)))) ?_
            exact d_closes ⟨look_row rfl 6 rfl s6, trivial⟩ 7 rfl rfl rfl hS (AgreeR.refl _) (t_sat (fun _ h => h) (hK () trivial))
           · -- 8
            rintro _ S hF hS D hp K hK
            try dsimp only at hF ⊢
            have s3 := hp 3 rfl
            have s7 := hp 7 rfl
            refine d_need (small := [(66, (.int .i64 ((pathL NN EE a b).getD k 0))), (70, (.int .i64 ((pathL NN EE a b).getD i 0)))]) ⟨look_row rfl 3 rfl s3, look_row rfl 7 rfl s7, trivial⟩ ?_
            refine tp rfl (lv_eql rfl rfl (beq_eq_false_iff_ne.2 (path_ne (by omega) (by omega)))) ?_
            exact d_closes ⟨look_row rfl 3 rfl s3, look_row rfl 7 rfl s7, trivial⟩ 8 rfl rfl rfl hS (AgreeR.refl _) (t_sat (fun _ h => h) (hK () trivial))
          · -- behind
           rintro _ hF
           try dsimp only at hF ⊢
           refine t_weak (E' := [(0, (.int .i64 n)), (1, (.slice beb es.length ceb)), (2, (.int .i64 a)), (3, (.int .i64 b)), (9, (.bool true)), (10, (.pointer (some ⟨p1, 0, none⟩))), (11, (.slice bs2 ((pathL NN EE a b).length) cp3)), (12, (.int .i64 ((i : Nat) : Int))), (13, (.int .i64 ((k : Nat) : Int))), (19, (.bool false)), (31, (.bool false)), (34, (.bool false)), (39, (.bool true)), (57, (.bool false)), (60, (.bool true)), (71, (.bool false))]) ⟨rfl, rfl, rfl, rfl, rfl, rfl, rfl, rfl, rfl, rfl, rfl, rfl, rfl, rfl, rfl, rfl, trivial⟩ ?_
           refine q_then_n (hK24 _ _ ?_)
           refine c_false rfl ?_
           refine c_skip ?_
           refine q_in_n ?_
           refine q_then_n (hK23 _ _ ?_)
           refine c_region ?_
           refine tp rfl (lv_move rfl) ?_
           refine tp rfl (lv_add (c := ((k + 1 : Nat) : Int)) rfl rfl (wr_i64_succ (by omega))) ?_
           refine tp rfl (lv_assign rfl) ?_
           refine t_done ?_
           refine q_then_n ?_
           exact t_weak (by exact ⟨rfl, rfl, rfl, rfl, rfl, rfl, rfl, rfl, rfl, rfl, rfl, rfl, rfl, rfl, trivial⟩) ((hK20 (k + 1) (by omega) (by omega)))
         · -- no
          refine tp rfl (lv_lss rfl rfl (decide_eq_false h8)) ?_
          refine t_done ?_
          refine q_then_n (hK22 _ _ ?_)
          refine c_false rfl ?_
          refine c_exit ?_
          refine q_then_x ?_
          refine q_then_x ?_
          refine q_in_x ?_
          refine q_in_n ?_
          refine q_then_n (hK16 _ _ ?_)
          refine c_region ?_
          refine tp rfl (lv_move rfl) ?_
          refine tp rfl (lv_add (c := ((i + 1 : Nat) : Int)) rfl rfl (wr_i64_succ (by omega))) ?_
          refine tp rfl (lv_assign rfl) ?_
          refine t_done ?_
          refine q_then_n ?_
          exact t_weak (by exact ⟨rfl, rfl, rfl, rfl, rfl, rfl, rfl, rfl, rfl, rfl, rfl, trivial⟩) ((hK13 (i + 1) (by omega) (by omega)))
      · -- no
        refine c_draw (γ := Unit) (n := 16) Tryd.mixed rfl rfl (fun _ S => True) (fun _ => [(0, 42, (.int .i64 ((i : Nat) : Int))), (1, 43, (.bool false)), (2, 44, (.bool false)), (3, 45, undef), (4, 46, undef), (5, 47, undef), (6, 48, undef), (7, 49, undef), (8, 50, undef), (9, 51, undef), (10, 52, undef), (11, 53, undef), (12, 54, undef), (13, 55, undef), (14, 56, undef), (15, 57, (.bool false))]) (fun _ S => (GraphO p1 NN EE) :: (SlV 3 1 (.slice bs2 ((pathL NN EE a b).length) cp3) ((pathL NN EE a b).length) (ints .i64 (pathL NN EE a b))) :: R) (()) trivial (fun _ h => h) (fun _ _ h => h) ?_ ?_
        · -- steps
         refine ⟨?_, ?_, ?_, ?_, ?_, ?_, ?_, ?_, ?_, ?_, ?_, ?_, ?_, ?_, ?_, ?_, trivial⟩
         · -- 0
          rintro _ S hF hS D hp K hK
          try dsimp only at hF ⊢
          refine d_need (small := [(12, (.int .i64 ((i : Nat) : Int)))]) ⟨look_b rfl rfl, trivial⟩ ?_
          refine tp rfl (lv_move rfl) ?_
          exact d_closes ⟨look_b rfl rfl, trivial⟩ 0 rfl rfl rfl hS (AgreeR.refl _) (t_sat (fun _ h => h) (hK () trivial))
         · -- 1
          rintro _ S hF hS D hp K hK
          try dsimp only at hF ⊢
          have s0 := hp 0 rfl
          refine d_need (small := [(42, (.int .i64 ((i : Nat) : Int)))]) ⟨look_row rfl 0 rfl s0, trivial⟩ ?_
          refine tp rfl (lv_gtr rfl rfl (decide_eq_false h7)) ?_
          exact d_closes ⟨look_row rfl 0 rfl s0, trivial⟩ 1 rfl rfl rfl hS (AgreeR.refl _) (t_sat (fun _ h => h) (hK () trivial))
         · -- 2
          rintro _ S hF hS D hp K hK
          try dsimp only at hF ⊢
          have s1 := hp 1 rfl
          refine d_need (small := [(43, (.bool false))]) ⟨look_row rfl 1 rfl s1, trivial⟩ ?_
          refine tp rfl (lv_move rfl) ?_
          exact d_closes ⟨look_row rfl 1 rfl s1, trivial⟩ 2 rfl rfl rfl hS (AgreeR.refl _) (t_sat (fun _ h => h) (hK () trivial))
         · -- 3
          rintro _ S hF hS D hp K hK
          try dsimp only at hF ⊢
          have s2 := hp 2 rfl
          refine d_need (small := [(10, (.pointer (some ⟨p1, 0, none⟩))), (44, (.bool false))]) ⟨look_b rfl rfl, look_row rfl 2 rfl s2, trivial⟩ ?_
          refine t_skip rfl rfl rfl ?_
          exact d_closes ⟨look_b rfl rfl, look_row rfl 2 rfl s2, trivial⟩ 3 rfl rfl rfl hS (AgreeR.refl _) (t_sat (fun _ h => h) (hK () trivial))
         · -- 4
          rintro _ S hF hS D hp K hK
          try dsimp only at hF ⊢
          have s2 := hp 2 rfl
          refine d_need (small := [(11, (.slice bs2 ((pathL NN EE a b).length) cp3)), (44, (.bool false))]) ⟨look_b rfl rfl, look_row rfl 2 rfl s2, trivial⟩ ?_
          refine t_skip rfl rfl rfl ?_
          exact d_closes ⟨look_b rfl rfl, look_row rfl 2 rfl s2, trivial⟩ 4 rfl rfl rfl hS (AgreeR.refl _) (t_sat (fun _ h => h) (hK () trivial))
         · -- 5
          rintro _ S hF hS D hp K hK
          try dsimp only at hF ⊢
          have s2 := hp 2 rfl
          refine d_need (small := [(12, (.int .i64 ((i : Nat) : Int))), (44, (.bool false))]) ⟨look_b rfl rfl, look_row rfl 2 rfl s2, trivial⟩ ?_
          refine t_skip rfl rfl rfl ?_
          exact d_closes ⟨look_b rfl rfl, look_row rfl 2 rfl s2, trivial⟩ 5 rfl rfl rfl hS (AgreeR.refl _) (t_sat (fun _ h => h) (hK () trivial))
         · -- 6
          rintro _ S hF hS D hp K hK
          try dsimp only at hF ⊢
          have s2 := hp 2 rfl
          have s5 := hp 5 rfl
          refine d_need (small := [(44, (.bool false)), (47, undef)]) ⟨look_row rfl 2 rfl s2, look_row rfl 5 rfl s5, trivial⟩ ?_
          refine t_skip rfl rfl rfl ?_
          exact d_closes ⟨look_row rfl 2 rfl s2, look_row rfl 5 rfl s5, trivial⟩ 6 rfl rfl rfl hS (AgreeR.refl _) (t_sat (fun _ h => h) (hK () trivial))
         · -- 7
          rintro _ S hF hS D hp K hK
          try dsimp only at hF ⊢
          have s2 := hp 2 rfl
          have s4 := hp 4 rfl
          have s6 := hp 6 rfl
          refine d_need (small := [(44, (.bool false)), (46, undef), (48, undef)]) ⟨look_row rfl 2 rfl s2, look_row rfl 4 rfl s4, look_row rfl 6 rfl s6, trivial⟩ ?_
          refine t_skip rfl rfl rfl ?_
          exact d_closes ⟨look_row rfl 2 rfl s2, look_row rfl 4 rfl s4, look_row rfl 6 rfl s6, trivial⟩ 7 rfl rfl rfl hS (AgreeR.refl _) (t_sat (fun _ h => h) (hK () trivial))
         · -- 8
          rintro _ S hF hS D hp K hK
          try dsimp only at hF ⊢
          have s2 := hp 2 rfl
          have s7 := hp 7 rfl
          refine d_need (small := [(44, (.bool false)), (49, undef)]) ⟨look_row rfl 2 rfl s2, look_row rfl 7 rfl s7, trivial⟩ ?_
          refine t_skip rfl rfl rfl ?_
          exact d_closes ⟨look_row rfl 2 rfl s2, look_row rfl 7 rfl s7, trivial⟩ 8 rfl rfl rfl hS (AgreeR.refl _) (t_sat (fun _ h => h) (hK () trivial))
         · -- 9
          rintro _ S hF hS D hp K hK
          try dsimp only at hF ⊢
          have s2 := hp 2 rfl
          refine d_need (small := [(11, (.slice bs2 ((pathL NN EE a b).length) cp3)), (44, (.bool false))]) ⟨look_b rfl rfl, look_row rfl 2 rfl s2, trivial⟩ ?_
          refine t_skip rfl rfl rfl ?_
          exact d_closes ⟨look_b rfl rfl, look_row rfl 2 rfl s2, trivial⟩ 9 rfl rfl rfl hS (AgreeR.refl _) (t_sat (fun _ h => h) (hK () trivial))
         · -- 10
          rintro _ S hF hS D hp K hK
          try dsimp only at hF ⊢
          have s2 := hp 2 rfl
          refine d_need (small := [(12, (.int .i64 ((i : Nat) : Int))), (44, (.bool false))]) ⟨look_b rfl rfl, look_row rfl 2 rfl s2, trivial⟩ ?_
          refine t_skip rfl rfl rfl ?_
          exact d_closes ⟨look_b rfl rfl, look_row rfl 2 rfl s2, trivial⟩ 10 rfl rfl rfl hS (AgreeR.refl _) (t_sat (fun _ h => h) (hK () trivial))
         · -- 11
          rintro _ S hF hS D hp K hK
          try dsimp only at hF ⊢
          have s2 := hp 2 rfl
          have s9 := hp 9 rfl
          have s10 := hp 10 rfl
          refine d_need (small := [(44, (.bool false)), (51, undef), (52, undef)]) ⟨look_row rfl 2 rfl s2, look_row rfl 9 rfl s9, look_row rfl 10 rfl s10, trivial⟩ ?_
          refine t_skip rfl rfl rfl ?_
          exact d_closes ⟨look_row rfl 2 rfl s2, look_row rfl 9 rfl s9, look_row rfl 10 rfl s10, trivial⟩ 11 rfl rfl rfl hS (AgreeR.refl _) (t_sat (fun _ h => h) (hK () trivial))
         · -- 12
          rintro _ S hF hS D hp K hK
          try dsimp only at hF ⊢
          have s2 := hp 2 rfl
          have s11 := hp 11 rfl
          refine d_need (small := [(44, (.bool false)), (53, undef)]) ⟨look_row rfl 2 rfl s2, look_row rfl 11 rfl s11, trivial⟩ ?_
          refine t_skip rfl rfl rfl ?_
          exact d_closes ⟨look_row rfl 2 rfl s2, look_row rfl 11 rfl s11, trivial⟩ 12 rfl rfl rfl hS (AgreeR.refl _) (t_sat (fun _ h => h) (hK () trivial))
         · -- 13
          rintro _ S hF hS D hp K hK
          try dsimp only at hF ⊢
          have s2 := hp 2 rfl
          have s3 := hp 3 rfl
          have s8 := hp 8 rfl
          have s12 := hp 12 rfl
          refine d_need (small := [(44, (.bool false)), (45, undef), (50, undef), (54, undef)]) ⟨look_row rfl 2 rfl s2, look_row rfl 3 rfl s3, look_row rfl 8 rfl s8, look_row rfl 12 rfl s12, trivial⟩ ?_
          refine t_skip rfl rfl rfl ?_
          exact d_closes ⟨look_row rfl 2 rfl s2, look_row rfl 3 rfl s3, look_row rfl 8 rfl s8, look_row rfl 12 rfl s12, trivial⟩ 13 rfl rfl rfl hS (AgreeR.refl _) (t_sat (fun _ h => h) (hK () trivial))
         · -- 14
          rintro _ S hF hS D hp K hK
          try dsimp only at hF ⊢
          have s2 := hp 2 rfl
          have s13 := hp 13 rfl
          refine d_need (small := [(44, (.bool false)), (55, undef)]) ⟨look_row rfl 2 rfl s2, look_row rfl 13 rfl s13, trivial⟩ ?_
          refine t_skip rfl rfl rfl ?_
          exact d_closes ⟨look_row rfl 2 rfl s2, look_row rfl 13 rfl s13, trivial⟩ 14 rfl rfl rfl hS (AgreeR.refl _) (t_sat (fun _ h => h) (hK () trivial))
         · -- 15
          rintro _ S hF hS D hp K hK
          try dsimp only at hF ⊢
          have s2 := hp 2 rfl
          have s14 := hp 14 rfl
          refine d_need (small := [(44, (.bool false)), (56, undef)]) ⟨look_row rfl 2 rfl s2, look_row rfl 14 rfl s14, trivial⟩ ?_
          refine tp rfl (lv_pick_f rfl rfl) ?_
          exact d_closes ⟨look_row rfl 2 rfl s2, look_row rfl 14 rfl s14, trivial⟩ 15 rfl rfl rfl hS (AgreeR.refl _) (t_sat (fun _ h => h) (hK () trivial))
        · -- behind
         rintro _ hF
         try dsimp only at hF ⊢
         refine t_weak (E' := [(0, (.int .i64 n)), (1, (.slice beb es.length ceb)), (2, (.int .i64 a)), (3, (.int .i64 b)), (9, (.bool true)), (10, (.pointer (some ⟨p1, 0, none⟩))), (11, (.slice bs2 ((pathL NN EE a b).length) cp3)), (12, (.int .i64 ((i : Nat) : Int))), (19, (.bool false)), (31, (.bool false)), (34, (.bool false)), (39, (.bool true)), (57, (.bool false))]) ⟨rfl, rfl, rfl, rfl, rfl, rfl, rfl, rfl, rfl, rfl, rfl, rfl, rfl, trivial⟩ ?_
         refine q_then_n (hK18 _ _ ?_)
         refine c_false rfl ?_
         refine c_skip ?_
         refine q_then_n (hK17 _ _ ?_)
         refine c_seq (fun K19 hK19 => ?_)
         refine c_region ?_
         refine tp rfl (lv_assign rfl) ?_
         refine t_done ?_
         refine q_then_n (hK19 _ _ ?_)
         refine c_block ?_
         refine c_loop (γ := (Nat)) (fun (k : Nat) => k ≤ i) (fun (k : Nat) => [(0, (.int .i64 n)), (1, (.slice beb es.length ceb)), (2, (.int .i64 a)), (3, (.int .i64 b)), (9, (.bool true)), (10, (.pointer (some ⟨p1, 0, none⟩))), (11, (.slice bs2 ((pathL NN EE a b).length) cp3)), (12, (.int .i64 ((i : Nat) : Int))), (13, (.int .i64 ((k : Nat) : Int))), (19, (.bool false)), (31, (.bool false)), (34, (.bool false)), (39, (.bool true)), (57, (.bool false))]) (fun (k : Nat) => (GraphO p1 NN EE) :: (SlV 3 1 (.slice bs2 ((pathL NN EE a b).length) cp3) ((pathL NN EE a b).length) (ints .i64 (pathL NN EE a b))) :: R) (fun (k : Nat) => i - k) (0) (by omega) ⟨rfl, rfl, rfl, rfl, rfl, rfl, rfl, rfl, rfl, rfl, rfl, rfl, rfl, rfl, trivial⟩ (fun _ h => h) ?_
         rintro k K20 hF hK20
         try dsimp only at hF hK20 ⊢
         refine c_seq (fun K21 hK21 => ?_)
         refine c_seq (fun K22 hK22 => ?_)
         refine c_region ?_
         refine tp rfl (lv_move rfl) ?_
         refine tp rfl (lv_move rfl) ?_
         by_cases h9 : ((k : Nat) : Int) < ((i : Nat) : Int)
         · -- yes
          refine tp rfl (lv_lss rfl rfl (decide_eq_true h9)) ?_
          refine t_done ?_
          refine q_then_n (hK22 _ _ ?_)
          refine c_true rfl ?_
          refine c_skip ?_
          refine q_then_n (hK21 _ _ ?_)
          refine c_seq (fun K23 hK23 => ?_)
          refine c_block ?_
          refine c_seq (fun K24 hK24 => ?_)
          refine c_draw (γ := Unit) (n := 9) Tryd.mixed rfl rfl (fun _ S => True) (fun _ => [(0, 63, (.slice bs2 ((pathL NN EE a b).length) cp3)), (1, 64, (.int .i64 ((k : Nat) : Int))), (2, 65, (.pointer (some (ad bs2 k)))), (3, 66, (.int .i64 ((pathL NN EE a b).getD k 0))), (4, 67, (.slice bs2 ((pathL NN EE a b).length) cp3)), (5, 68, (.int .i64 ((i : Nat) : Int))), (6, 69, (.pointer (some (ad bs2 i)))), (7, 70, (.int .i64 ((pathL NN EE a b).getD i 0))), (8, 71, (.bool false))]) (fun _ S => (GraphO p1 NN EE) :: (SlV 3 1 (.slice bs2 ((pathL NN EE a b).length) cp3) ((pathL NN EE a b).length) (ints .i64 (pathL NN EE a b))) :: R) (()) trivial (fun _ h => h) (fun _ _ h => h) ?_ ?_
          · -- steps
           refine ⟨?_, ?_, ?_, ?_, ?_, ?_, ?_, ?_, ?_, trivial⟩
           · -- 0
            rintro _ S hF hS D hp K hK
            try dsimp only at hF ⊢
            refine d_need (small := [(11, (.slice bs2 ((pathL NN EE a b).length) cp3))]) ⟨look_b rfl rfl, trivial⟩ ?_
            refine tp rfl (lv_move rfl) ?_
            exact d_closes ⟨look_b rfl rfl, trivial⟩ 0 rfl rfl rfl hS (AgreeR.refl _) (t_sat (fun _ h => h) (hK () trivial))
           · -- 1
            rintro _ S hF hS D hp K hK
            try dsimp only at hF ⊢
            refine d_need (small := [(13, (.int .i64 ((k : Nat) : Int)))]) ⟨look_b rfl rfl, trivial⟩ ?_
            refine tp rfl (lv_move rfl) ?_
            exact d_closes ⟨look_b rfl rfl, trivial⟩ 1 rfl rfl rfl hS (AgreeR.refl _) (t_sat (fun _ h => h) (hK () trivial))
           · -- 2
            rintro _ S hF hS D hp K hK
            try dsimp only at hF ⊢
            have s0 := hp 0 rfl
            have s1 := hp 1 rfl
            refine d_need (small := [(63, (.slice bs2 ((pathL NN EE a b).length) cp3)), (64, (.int .i64 ((k : Nat) : Int)))]) ⟨look_row rfl 0 rfl s0, look_row rfl 1 rfl s1, trivial⟩ ?_
            refine tp rfl (lv_indexAddr (k' := k) Tryd.underlying33 Tryd.sizeOf3 rfl rfl hok4 (by omega) (by omega) (by omega)) ?_
            exact d_closes ⟨look_row rfl 0 rfl s0, look_row rfl 1 rfl s1, trivial⟩ 2 rfl rfl rfl hS (AgreeR.refl _) (t_sat (fun _ h => h) (hK () trivial))
           · -- 3
            rintro _ S hF hS D hp K hK
            try dsimp only at hF ⊢
            have s2 := hp 2 rfl
            refine d_need (small := [(65, (.pointer (some (ad bs2 k))))]) ⟨look_row rfl 2 rfl s2, trivial⟩ ?_
            refine tp rfl (lv_load Tryd.isAgg3 rfl (gives_sl (.tail _ (.head _)) (ints_get (by omega)))) ?_
            exact d_closes ⟨look_row rfl 2 rfl s2, trivial⟩ 3 rfl rfl rfl hS (AgreeR.refl _) (t_sat (fun _ h => h) (hK () trivial))
           · -- 4
            rintro _ S hF hS D hp K hK
            try dsimp only at hF ⊢
            refine d_need (small := [(11, (.slice bs2 ((pathL NN EE a b).length) cp3))]) ⟨look_b rfl rfl, trivial⟩ ?_
            refine tp rfl (lv_move rfl) ?_
            exact d_closes ⟨look_b rfl rfl, trivial⟩ 4 rfl rfl rfl hS (AgreeR.refl _) (t_sat (fun _ h => h) (hK () trivial))
           · -- 5
            rintro _ S hF hS D hp K hK
            try dsimp only at hF ⊢
            refine d_need (small := [(12, (.int .i64 ((i : Nat) : Int)))]) ⟨look_b rfl rfl, trivial⟩ ?_
            refine tp rfl (lv_move rfl) ?_
            exact d_closes ⟨look_b rfl rfl, trivial⟩ 5 rfl rfl rfl hS (AgreeR.refl _) (t_sat (fun _ h => h) (hK () trivial))
           · -- 6
            rintro _ S hF hS D hp K hK
            try dsimp only at hF ⊢
            have s4 := hp 4 rfl
            have s5 := hp 5 rfl
            refine d_need (small := [(67, (.slice bs2 ((pathL NN EE a b).length) cp3)), (68, (.int .i64 ((i : Nat) : Int)))]) ⟨look_row rfl 4 rfl s4, look_row rfl 5 rfl s5, trivial⟩ ?_
            refine tp rfl (lv_indexAddr (k' := i) Tryd.underlying33 Tryd.sizeOf3 rfl rfl hok4 (by omega) (by omega) (by omega)) ?_
            exact d_closes ⟨look_row rfl 4 rfl s4, look_row rfl 5 rfl s5, trivial⟩ 6 rfl rfl rfl hS (AgreeR.refl _) (t_sat (fun _ h => h) (hK () trivial))
           · -- 7
            rintro _ S hF hS D hp K hK
            try dsimp only at hF ⊢
            have s6 := hp 6 rfl
            refine d_need (small := [(69, (.pointer (some (ad bs2 i))))]) ⟨look_row rfl 6 rfl s6, trivial⟩ ?_
            refine tp rfl (lv_load Tryd.isAgg3 rfl (gives_sl (.tail _ (.head _)) (ints_get (by omega)))) ?_
            exact d_closes ⟨look_row rfl 6 rfl s6, trivial⟩ 7 rfl rfl rfl hS (AgreeR.refl _) (t_sat (fun _ h => h) (hK () trivial))
           · -- 8
            rintro _ S hF hS D hp K hK
            try dsimp only at hF ⊢
            have s3 := hp 3 rfl
            have s7 := hp 7 rfl
            refine d_need (small := [(66, (.int .i64 ((pathL NN EE a b).getD k 0))), (70, (.int .i64 ((pathL NN EE a b).getD i 0)))]) ⟨look_row rfl 3 rfl s3, look_row rfl 7 rfl s7, trivial⟩ ?_
            refine tp rfl (lv_eql rfl rfl (beq_eq_false_iff_ne.2 (path_ne (by omega) (by omega)))) ?_
            exact d_closes ⟨look_row rfl 3 rfl s3, look_row rfl 7 rfl s7, trivial⟩ 8 rfl rfl rfl hS (AgreeR.refl _) (t_sat (fun _ h => h) (hK () trivial))
          · -- behind
           rintro _ hF
           try dsimp only at hF ⊢
           refine t_weak (E' := [(0, (.int .i64 n)), (1, (.slice beb es.length ceb)), (2, (.int .i64 a)), (3, (.int .i64 b)), (9, (.bool true)), (10, (.pointer (some ⟨p1, 0, none⟩))), (11, (.slice bs2 ((pathL NN EE a b).length) cp3)), (12, (.int .i64 ((i : Nat) : Int))), (13, (.int .i64 ((k : Nat) : Int))), (19, (.bool false)), (31, (.bool false)), (34, (.bool false)), (39, (.bool true)), (57, (.bool false)), (60, (.bool true)), (71, (.bool false))]) ⟨rfl, rfl, rfl, rfl, rfl, rfl, rfl, rfl, rfl, rfl, rfl, rfl, rfl, rfl, rfl, rfl, trivial⟩ ?_
           refine q_then_n (hK24 _ _ ?_)
           refine c_false rfl ?_
           refine c_skip ?_
           refine q_in_n ?_
           refine q_then_n (hK23 _ _ ?_)
           refine c_region ?_
           refine tp rfl (lv_move rfl) ?_
           refine tp rfl (lv_add (c := ((k + 1 : Nat) : Int)) rfl rfl (wr_i64_succ (by omega))) ?_
           refine tp rfl (lv_assign rfl) ?_
           refine t_done ?_
           refine q_then_n ?_
           exact t_weak (by exact ⟨rfl, rfl, rfl, rfl, rfl, rfl, rfl, rfl, rfl, rfl, rfl, rfl, rfl, rfl, trivial⟩) ((hK20 (k + 1) (by omega) (by omega)))
         · -- no
          refine tp rfl (lv_lss rfl rfl (decide_eq_false h9)) ?_
          refine t_done ?_
          refine q_then_n (hK22 _ _ ?_)
          refine c_false rfl ?_
          refine c_exit ?_
          refine q_then_x ?_
          refine q_then_x ?_
          refine q_in_x ?_
          refine q_in_n ?_
          refine q_then_n (hK16 _ _ ?_)
          refine c_region ?_
          refine tp rfl (lv_move rfl) ?_
          refine tp rfl (lv_add (c := ((i + 1 : Nat) : Int)) rfl rfl (wr_i64_succ (by omega))) ?_
          refine tp rfl (lv_assign rfl) ?_
          refine t_done ?_
          refine q_then_n ?_
          exact t_weak (by exact ⟨rfl, rfl, rfl, rfl, rfl, rfl, rfl, rfl, rfl, rfl, rfl, trivial⟩) ((hK13 (i + 1) (by omega) (by omega)))
    · -- no
      refine tp rfl (lv_lss rfl rfl (decide_eq_false h6)) ?_
      refine t_done ?_
      refine q_then_n (hK15 _ _ ?_)
      refine c_false rfl ?_
      refine c_exit ?_
      refine q_then_x ?_
      refine q_then_x ?_
      refine q_in_x ?_
      refine q_then_n (hK11 _ _ ?_)
      refine c_seq (fun K16 hK16 => ?_)
      refine c_region ?_
      refine tp rfl (lv_move rfl) ?_
      refine tp rfl (lv_move rfl) ?_
      refine t_guard rfl rfl ?_
      refine tp rfl (lv_move rfl) ?_
      refine t_guard rfl rfl ?_
      refine tp rfl (lv_indexAddr (k' := 0) Tryd.underlying33 Tryd.sizeOf3 rfl rfl hok4 (by omega) (by omega) (by omega)) ?_
      refine t_guard rfl rfl ?_
      refine tp rfl (lv_load Tryd.isAgg3 rfl (gives_sl (.tail _ (.head _)) (ints_get (by omega)))) ?_
      refine t_guard rfl rfl ?_
      refine tp rfl (lv_move rfl) ?_
      refine t_guard rfl rfl ?_
      refine tp rfl (lv_eql rfl rfl (beq_iff_eq.2 (path_first (by omega)))) ?_
      refine tp rfl (lv_pick_t rfl rfl) ?_
      refine tp rfl (lv_move rfl) ?_
      refine t_guard rfl rfl ?_
      refine tp rfl (lv_move rfl) ?_
      refine t_guard rfl rfl ?_
      refine tp rfl (lv_move rfl) ?_
      refine t_guard rfl rfl ?_
      refine tp rfl (lv_len Tryd.underlying33 rfl rfl) ?_
      refine t_guard rfl rfl ?_
      refine tp rfl (lv_sub (c := (((pathL NN EE a b).length - 1 : Nat) : Int)) rfl rfl ((wr_i64 (by omega) (by omega)).trans (by omega))) ?_
      refine t_guard rfl rfl ?_
      refine tp rfl (lv_indexAddr (k' := (pathL NN EE a b).length - 1) Tryd.underlying33 Tryd.sizeOf3 rfl rfl hok4 (by omega) (by omega) (by omega)) ?_
      refine t_guard rfl rfl ?_
      refine tp rfl (lv_load Tryd.isAgg3 rfl (gives_sl (.tail _ (.head _)) (ints_get (by omega)))) ?_
      refine t_guard rfl rfl ?_
      refine tp rfl (lv_move rfl) ?_
      refine t_guard rfl rfl ?_
      refine tp rfl (lv_eql rfl rfl (beq_iff_eq.2 (path_last (by omega)))) ?_
      refine tp rfl (lv_pick_t rfl rfl) ?_
      refine tp rfl (lv_move rfl) ?_
      refine t_guard rfl rfl ?_
      refine tp rfl (lv_move rfl) ?_
      refine t_guard rfl rfl ?_
      refine tp rfl (lv_move rfl) ?_
      refine t_guard rfl rfl ?_
      by_cases h10 : a = b
      · -- yes
        refine tp rfl (lv_neq rfl rfl (bne_eq_false_iff_eq.2 h10)) ?_
        refine t_guard rfl rfl ?_
        refine tp rfl (lv_move rfl) ?_
        refine t_guard rfl rfl ?_
        refine tp rfl (lv_move rfl) ?_
        refine t_guard rfl rfl ?_
        refine tp rfl (lv_len Tryd.underlying33 rfl rfl) ?_
        refine t_guard rfl rfl ?_
        refine tp rfl (lv_eql rfl rfl (beq_iff_eq.2 (by have := path_same (N := NN) (es := EE) (a := a) (to := b) (by omega) (by first | assumption | exact Classical.not_not.1 ‹_›); omega))) ?_
        refine t_guard rfl rfl ?_
        refine tp rfl (lv_pick_f rfl rfl) ?_
        refine tp rfl (lv_pick_t rfl rfl) ?_
        refine tp rfl (lv_assign rfl) ?_
        refine t_done ?_
        refine q_then_n (hK16 _ _ ?_)
        refine c_ret ?_
        refine t_drop ?_
        refine t_drop ?_
        refine q_ret rfl rfl ?_
        exact ⟨rfl, rfl⟩
      · -- no
        refine tp rfl (lv_neq rfl rfl (bne_iff_ne.2 h10)) ?_
        refine t_guard rfl rfl ?_
        refine tp rfl (lv_move rfl) ?_
        refine t_skip rfl rfl rfl ?_
        refine t_skip rfl rfl rfl ?_
        refine t_skip rfl rfl rfl ?_
        refine t_guard rfl rfl ?_
        refine tp rfl (lv_pick_t rfl rfl) ?_
        refine tp rfl (lv_pick_t rfl rfl) ?_
        refine tp rfl (lv_assign rfl) ?_
        refine t_done ?_
        refine q_then_n (hK16 _ _ ?_)
        refine c_ret ?_
        refine t_drop ?_
        refine t_drop ?_
        refine q_ret rfl rfl ?_
        exact ⟨rfl, rfl⟩
end Go.Proofs.YtppgccafgfpkdaaDoor
