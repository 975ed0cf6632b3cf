/- CycleDown: the law's walk. -/
import Derived.Test.YtppgccafgfpkdaaDoorLa
set_option maxRecDepth 100000
set_option linter.unusedVariables false
set_option linter.unusedSimpArgs false
namespace Go.Proofs.YtppgccafgfpkdaaDoor
open Go Go.Proofs Sp
set_option maxHeartbeats 20000000 in
theorem down_law {R : List HP} (n : Int) {beb : Option Addr} {ceb : Nat} (es : List (Int × Int)) (heb : Rd R beb (pairs es)) (okeb : SlOk beb es.length) (leb : es.length ≤ 9223372036854775807) (lceb : es.length ≤ ceb) (hT : Tab R) :
    Ok Tryd.prog 5 [(.int .i64 n), (.slice beb es.length ceb)] R
      (fun v M => v = .bool true ∧ M = R) := by
  have hgk : GOk (clampN (min n 30)) (madeE (clampN (min n 30)) ((dnL (es.take 100)).take 100)) := GOk.made (clampN_le _) _
  have hcn := clampN_le (min n 30)
  refine ok_of (N := 98) Tryd.func5 rfl rfl rfl (fun W => ?_)
  refine c_seq (fun K1 hK1 => ?_)
  refine c_region ?_
  refine tp rfl (lv_assign rfl) ?_
  refine t_done ?_
  refine q_then_n (hK1 _ _ ?_)
  refine c_seq (fun K2 hK2 => ?_)
  refine c_region ?_
  refine tc rfl (en_fn Tryd.call9 rfl) (shown_ok hT) ?_
  rintro _ _ ⟨rfl, hMR⟩
  rw [hMR]; clear hMR
  refine tp rfl (lv_assign rfl) ?_
  refine t_done ?_
  refine q_then_n (hK2 _ _ ?_)
  refine c_seq (fun K3 hK3 => ?_)
  refine c_region ?_
  refine tp rfl (lv_assign rfl) ?_
  refine t_done ?_
  refine q_then_n (hK3 _ _ ?_)
  refine c_seq (fun K4 hK4 => ?_)
  refine c_seq (fun K5 hK5 => ?_)
  refine c_region ?_
  refine tp rfl (lv_assign rfl) ?_
  refine t_done ?_
  refine q_then_n (hK5 _ _ ?_)
  refine c_block ?_
  refine t_sat (fun _ h => sat_nilsl 32 2 h) ?_
  refine c_loop (γ := (Nat) × (Option Addr) × (Nat)) (fun (i, bd, cd) => i ≤ es.length ∧ i ≤ 100 ∧ SlOk bd (dnL (es.take i)).length ∧ (dnL (es.take i)).length ≤ cd) (fun (i, bd, cd) => [(0, (.int .i64 n)), (1, (.slice beb es.length ceb)), (4, (.bool false)), (5, (.bool true)), (6, (.slice bd ((dnL (es.take i)).length) cd)), (7, (.int .i64 ((i : Nat) : Int)))]) (fun (i, bd, cd) => (SlV 32 2 (.slice bd ((dnL (es.take i)).length) cd) ((dnL (es.take i)).length) (pairs (dnL (es.take i)))) :: R) (fun (i, bd, cd) => es.length - i) (0, none, 0) ⟨by omega, by omega, slok_none, Nat.le_refl _⟩ ⟨rfl, rfl, rfl, rfl, rfl, rfl, trivial⟩ (fun _ h => h) ?_
  rintro ⟨i, bd, cd⟩ K6 hF hK6
  try dsimp only at hF hK6 ⊢
  obtain ⟨hi, hi2, hok, hle⟩ := hF
  have hdl := dnL_len (es.take i)
  have htl : (es.take i).length ≤ 100 := by rw [List.length_take]; omega
  refine c_seq (fun K7 hK7 => ?_)
  refine c_seq (fun K8 hK8 => ?_)
  refine c_region ?_
  by_cases hc1 : ((i : Nat) : Int) < ((es.length : Nat) : Int) ∧ ((i : Nat) : Int) < 100
  · -- both
    have hc1a := hc1.1
    have hc1b := hc1.2
    refine tp rfl (lv_move rfl) ?_
    refine tp rfl (lv_move rfl) ?_
    refine tp rfl (lv_len Tryd.underlying22 rfl rfl) ?_
    refine tp rfl (lv_lss rfl rfl (decide_eq_true hc1.1)) ?_
    refine tp rfl (lv_move rfl) ?_
    refine t_guard rfl rfl ?_
    refine tp rfl (lv_move rfl) ?_
    refine t_guard rfl rfl ?_
    refine tp rfl (lv_lss rfl rfl (decide_eq_true hc1.2)) ?_
    refine tp rfl (lv_pick_t rfl rfl) ?_
    refine t_done ?_
    refine q_then_n (hK8 _ _ ?_)
    refine c_true rfl ?_
    refine c_skip ?_
    refine q_then_n (hK7 _ _ ?_)
    refine c_seq (fun K9 hK9 => ?_)
    refine c_block ?_
    refine c_seq (fun K10 hK10 => ?_)
    by_cases h2 : (((es).getD i (0, 0)).1) = (((es).getD i (0, 0)).2)
    · -- yes
      refine c_draw (γ := Unit) (n := 11) Tryd.mixed rfl rfl (fun _ S => True) (fun _ => [(0, 23, (.slice beb es.length ceb)), (1, 24, (.int .i64 ((i : Nat) : Int))), (2, 25, (.pointer (some (ad beb (i * 2))))), (3, 26, (.pointer (some (ad beb (i * 2))))), (4, 27, (.int .i64 (((es).getD i (0, 0)).1))), (5, 28, (.slice beb es.length ceb)), (6, 29, (.int .i64 ((i : Nat) : Int))), (7, 30, (.pointer (some (ad beb (i * 2))))), (8, 31, (.pointer (some (ad beb (i * 2 + 1))))), (9, 32, (.int .i64 (((es).getD i (0, 0)).2))), (10, 33, (.bool false))]) (fun _ S => (SlV 32 2 (.slice bd ((dnL (es.take i)).length) cd) ((dnL (es.take i)).length) (pairs (dnL (es.take i)))) :: R) (()) trivial (fun _ h => h) (fun _ _ h => h) ?_ ?_
      · -- steps
        refine ⟨?_, ?_, ?_, ?_, ?_, ?_, ?_, ?_, ?_, ?_, ?_, trivial⟩
        · -- 0
         rintro _ S hF hS D hp K hK
         try dsimp only at hF ⊢
         refine d_need (small := [(1, (.slice beb es.length ceb))]) ⟨look_b rfl rfl, trivial⟩ ?_
         refine tp rfl (lv_move rfl) ?_
         exact d_closes ⟨look_b rfl rfl, trivial⟩ 0 rfl rfl rfl hS (AgreeR.refl _) (t_sat (fun _ h => h) (hK () trivial))
        · -- 1
         rintro _ S hF hS D hp K hK
         try dsimp only at hF ⊢
         refine d_need (small := [(7, (.int .i64 ((i : Nat) : Int)))]) ⟨look_b rfl rfl, trivial⟩ ?_
         refine tp rfl (lv_move rfl) ?_
         exact d_closes ⟨look_b rfl rfl, trivial⟩ 1 rfl rfl rfl hS (AgreeR.refl _) (t_sat (fun _ h => h) (hK () trivial))
        · -- 2
         rintro _ S hF hS D hp K hK
         try dsimp only at hF ⊢
         have s0 := hp 0 rfl
         have s1 := hp 1 rfl
         refine d_need (small := [(23, (.slice beb es.length ceb)), (24, (.int .i64 ((i : Nat) : Int)))]) ⟨look_row rfl 0 rfl s0, look_row rfl 1 rfl s1, trivial⟩ ?_
         refine tp rfl (lv_indexAddr (k' := i * 2) Tryd.underlying22 Tryd.sizeOf32 rfl rfl okeb (by omega) (by omega) (by omega)) ?_
         exact d_closes ⟨look_row rfl 0 rfl s0, look_row rfl 1 rfl s1, trivial⟩ 2 rfl rfl rfl hS (AgreeR.refl _) (t_sat (fun _ h => h) (hK () trivial))
        · -- 3
         rintro _ S hF hS D hp K hK
         try dsimp only at hF ⊢
         have s2 := hp 2 rfl
         refine d_need (small := [(25, (.pointer (some (ad beb (i * 2)))))]) ⟨look_row rfl 2 rfl s2, trivial⟩ ?_
         refine tp rfl (lv_fieldAddr_ad (o' := i * 2) Tryd.underlying32 rfl Tryd.sizeOf3 rfl rfl) ?_
         exact d_closes ⟨look_row rfl 2 rfl s2, trivial⟩ 3 rfl rfl rfl hS (AgreeR.refl _) (t_sat (fun _ h => h) (hK () trivial))
        · -- 4
         rintro _ S hF hS D hp K hK
         try dsimp only at hF ⊢
         have s3 := hp 3 rfl
         refine d_need (small := [(26, (.pointer (some (ad beb (i * 2)))))]) ⟨look_row rfl 3 rfl s3, trivial⟩ ?_
         refine tp rfl (lv_load Tryd.isAgg3 rfl (Rd.gives (Rd.cons heb) (pairs_get0 (by omega)))) ?_
         exact d_closes ⟨look_row rfl 3 rfl s3, trivial⟩ 4 rfl rfl rfl hS (AgreeR.refl _) (t_sat (fun _ h => h) (hK () trivial))
        · -- 5
         rintro _ S hF hS D hp K hK
         try dsimp only at hF ⊢
         refine d_need (small := [(1, (.slice beb es.length ceb))]) ⟨look_b rfl rfl, trivial⟩ ?_
         refine tp rfl (lv_move rfl) ?_
         exact d_closes ⟨look_b rfl rfl, trivial⟩ 5 rfl rfl rfl hS (AgreeR.refl _) (t_sat (fun _ h => h) (hK () trivial))
        · -- 6
         rintro _ S hF hS D hp K hK
         try dsimp only at hF ⊢
         refine d_need (small := [(7, (.int .i64 ((i : Nat) : Int)))]) ⟨look_b rfl rfl, trivial⟩ ?_
         refine tp rfl (lv_move rfl) ?_
         exact d_closes ⟨look_b rfl rfl, trivial⟩ 6 rfl rfl rfl hS (AgreeR.refl _) (t_sat (fun _ h => h) (hK () trivial))
        · -- 7
         rintro _ S hF hS D hp K hK
         try dsimp only at hF ⊢
         have s5 := hp 5 rfl
         have s6 := hp 6 rfl
         refine d_need (small := [(28, (.slice beb es.length ceb)), (29, (.int .i64 ((i : Nat) : Int)))]) ⟨look_row rfl 5 rfl s5, look_row rfl 6 rfl s6, trivial⟩ ?_
         refine tp rfl (lv_indexAddr (k' := i * 2) Tryd.underlying22 Tryd.sizeOf32 rfl rfl okeb (by omega) (by omega) (by omega)) ?_
         exact d_closes ⟨look_row rfl 5 rfl s5, look_row rfl 6 rfl s6, trivial⟩ 7 rfl rfl rfl hS (AgreeR.refl _) (t_sat (fun _ h => h) (hK () trivial))
        · -- 8
         rintro _ S hF hS D hp K hK
         try dsimp only at hF ⊢
         have s7 := hp 7 rfl
         refine d_need (small := [(30, (.pointer (some (ad beb (i * 2)))))]) ⟨look_row rfl 7 rfl s7, trivial⟩ ?_
         refine tp rfl (lv_fieldAddr_ad (o' := i * 2 + 1) Tryd.underlying32 rfl Tryd.sizeOf3 rfl rfl) ?_
         exact d_closes ⟨look_row rfl 7 rfl s7, trivial⟩ 8 rfl rfl rfl hS (AgreeR.refl _) (t_sat (fun _ h => h) (hK () trivial))
        · -- 9
         rintro _ S hF hS D hp K hK
         try dsimp only at hF ⊢
         have s8 := hp 8 rfl
         refine d_need (small := [(31, (.pointer (some (ad beb (i * 2 + 1)))))]) ⟨look_row rfl 8 rfl s8, trivial⟩ ?_
         refine tp rfl (lv_load Tryd.isAgg3 rfl (Rd.gives (Rd.cons heb) (pairs_get1 (by omega)))) ?_
         exact d_closes ⟨look_row rfl 8 rfl s8, trivial⟩ 9 rfl rfl rfl hS (AgreeR.refl _) (t_sat (fun _ h => h) (hK () trivial))
        · -- 10
         rintro _ S hF hS D hp K hK
         try dsimp only at hF ⊢
         have s4 := hp 4 rfl
         have s9 := hp 9 rfl
         refine d_need (small := [(27, (.int .i64 (((es).getD i (0, 0)).1))), (32, (.int .i64 (((es).getD i (0, 0)).2)))]) ⟨look_row rfl 4 rfl s4, look_row rfl 9 rfl s9, trivial⟩ ?_
         refine tp rfl (lv_neq rfl rfl (bne_eq_false_iff_eq.2 h2)) ?_
         exact d_closes ⟨look_row rfl 4 rfl s4, look_row rfl 9 rfl s9, trivial⟩ 10 rfl rfl rfl hS (AgreeR.refl _) (t_sat (fun _ h => h) (hK () trivial))
      · -- behind
        rintro _ hF
        try dsimp only at hF ⊢
        refine t_weak (E' := [(0, (.int .i64 n)), (1, (.slice beb es.length ceb)), (4, (.bool false)), (5, (.bool true)), (6, (.slice bd ((dnL (es.take i)).length) cd)), (7, (.int .i64 ((i : Nat) : Int))), (20, (.bool true)), (33, (.bool false))]) ⟨rfl, rfl, rfl, rfl, rfl, rfl, rfl, rfl, trivial⟩ ?_
        refine q_then_n (hK10 _ _ ?_)
        refine c_false rfl ?_
        refine c_skip ?_
        refine q_in_n ?_
        refine q_then_n (hK9 _ _ ?_)
        refine c_region ?_
        refine tp rfl (lv_move rfl) ?_
        refine tp rfl (lv_add (c := ((i + 1 : Nat) : Int)) rfl rfl (wr_i64_succ (by omega))) ?_
        refine tp rfl (lv_assign rfl) ?_
        refine t_done ?_
        refine q_then_n ?_
        rw [← dnL_no (show i < es.length by omega) (by first | exact h2 | exact Classical.not_not.1 h2)] at hok hle ⊢
        exact t_weak (by exact ⟨rfl, rfl, rfl, rfl, rfl, rfl, trivial⟩) ((hK6 (i + 1, bd, cd) ⟨by omega, by omega, hok, hle⟩ (by dsimp only; omega)))
    · -- no
      refine c_draw (γ := Unit) (n := 11) Tryd.mixed rfl rfl (fun _ S => True) (fun _ => [(0, 23, (.slice beb es.length ceb)), (1, 24, (.int .i64 ((i : Nat) : Int))), (2, 25, (.pointer (some (ad beb (i * 2))))), (3, 26, (.pointer (some (ad beb (i * 2))))), (4, 27, (.int .i64 (((es).getD i (0, 0)).1))), (5, 28, (.slice beb es.length ceb)), (6, 29, (.int .i64 ((i : Nat) : Int))), (7, 30, (.pointer (some (ad beb (i * 2))))), (8, 31, (.pointer (some (ad beb (i * 2 + 1))))), (9, 32, (.int .i64 (((es).getD i (0, 0)).2))), (10, 33, (.bool true))]) (fun _ S => (SlV 32 2 (.slice bd ((dnL (es.take i)).length) cd) ((dnL (es.take i)).length) (pairs (dnL (es.take i)))) :: R) (()) trivial (fun _ h => h) (fun _ _ h => h) ?_ ?_
      · -- steps
        refine ⟨?_, ?_, ?_, ?_, ?_, ?_, ?_, ?_, ?_, ?_, ?_, trivial⟩
        · -- 0
         rintro _ S hF hS D hp K hK
         try dsimp only at hF ⊢
         refine d_need (small := [(1, (.slice beb es.length ceb))]) ⟨look_b rfl rfl, trivial⟩ ?_
         refine tp rfl (lv_move rfl) ?_
         exact d_closes ⟨look_b rfl rfl, trivial⟩ 0 rfl rfl rfl hS (AgreeR.refl _) (t_sat (fun _ h => h) (hK () trivial))
        · -- 1
         rintro _ S hF hS D hp K hK
         try dsimp only at hF ⊢
         refine d_need (small := [(7, (.int .i64 ((i : Nat) : Int)))]) ⟨look_b rfl rfl, trivial⟩ ?_
         refine tp rfl (lv_move rfl) ?_
         exact d_closes ⟨look_b rfl rfl, trivial⟩ 1 rfl rfl rfl hS (AgreeR.refl _) (t_sat (fun _ h => h) (hK () trivial))
        · -- 2
         rintro _ S hF hS D hp K hK
         try dsimp only at hF ⊢
         have s0 := hp 0 rfl
         have s1 := hp 1 rfl
         refine d_need (small := [(23, (.slice beb es.length ceb)), (24, (.int .i64 ((i : Nat) : Int)))]) ⟨look_row rfl 0 rfl s0, look_row rfl 1 rfl s1, trivial⟩ ?_
         refine tp rfl (lv_indexAddr (k' := i * 2) Tryd.underlying22 Tryd.sizeOf32 rfl rfl okeb (by omega) (by omega) (by omega)) ?_
         exact d_closes ⟨look_row rfl 0 rfl s0, look_row rfl 1 rfl s1, trivial⟩ 2 rfl rfl rfl hS (AgreeR.refl _) (t_sat (fun _ h => h) (hK () trivial))
        · -- 3
         rintro _ S hF hS D hp K hK
         try dsimp only at hF ⊢
         have s2 := hp 2 rfl
         refine d_need (small := [(25, (.pointer (some (ad beb (i * 2)))))]) ⟨look_row rfl 2 rfl s2, trivial⟩ ?_
         refine tp rfl (lv_fieldAddr_ad (o' := i * 2) Tryd.underlying32 rfl Tryd.sizeOf3 rfl rfl) ?_
         exact d_closes ⟨look_row rfl 2 rfl s2, trivial⟩ 3 rfl rfl rfl hS (AgreeR.refl _) (t_sat (fun _ h => h) (hK () trivial))
        · -- 4
         rintro _ S hF hS D hp K hK
         try dsimp only at hF ⊢
         have s3 := hp 3 rfl
         refine d_need (small := [(26, (.pointer (some (ad beb (i * 2)))))]) ⟨look_row rfl 3 rfl s3, trivial⟩ ?_
         refine tp rfl (lv_load Tryd.isAgg3 rfl (Rd.gives (Rd.cons heb) (pairs_get0 (by omega)))) ?_
         exact d_closes ⟨look_row rfl 3 rfl s3, trivial⟩ 4 rfl rfl rfl hS (AgreeR.refl _) (t_sat (fun _ h => h) (hK () trivial))
        · -- 5
         rintro _ S hF hS D hp K hK
         try dsimp only at hF ⊢
         refine d_need (small := [(1, (.slice beb es.length ceb))]) ⟨look_b rfl rfl, trivial⟩ ?_
         refine tp rfl (lv_move rfl) ?_
         exact d_closes ⟨look_b rfl rfl, trivial⟩ 5 rfl rfl rfl hS (AgreeR.refl _) (t_sat (fun _ h => h) (hK () trivial))
        · -- 6
         rintro _ S hF hS D hp K hK
         try dsimp only at hF ⊢
         refine d_need (small := [(7, (.int .i64 ((i : Nat) : Int)))]) ⟨look_b rfl rfl, trivial⟩ ?_
         refine tp rfl (lv_move rfl) ?_
         exact d_closes ⟨look_b rfl rfl, trivial⟩ 6 rfl rfl rfl hS (AgreeR.refl _) (t_sat (fun _ h => h) (hK () trivial))
        · -- 7
         rintro _ S hF hS D hp K hK
         try dsimp only at hF ⊢
         have s5 := hp 5 rfl
         have s6 := hp 6 rfl
         refine d_need (small := [(28, (.slice beb es.length ceb)), (29, (.int .i64 ((i : Nat) : Int)))]) ⟨look_row rfl 5 rfl s5, look_row rfl 6 rfl s6, trivial⟩ ?_
         refine tp rfl (lv_indexAddr (k' := i * 2) Tryd.underlying22 Tryd.sizeOf32 rfl rfl okeb (by omega) (by omega) (by omega)) ?_
         exact d_closes ⟨look_row rfl 5 rfl s5, look_row rfl 6 rfl s6, trivial⟩ 7 rfl rfl rfl hS (AgreeR.refl _) (t_sat (fun _ h => h) (hK () trivial))
        · -- 8
         rintro _ S hF hS D hp K hK
         try dsimp only at hF ⊢
         have s7 := hp 7 rfl
         refine d_need (small := [(30, (.pointer (some (ad beb (i * 2)))))]) ⟨look_row rfl 7 rfl s7, trivial⟩ ?_
         refine tp rfl (lv_fieldAddr_ad (o' := i * 2 + 1) Tryd.underlying32 rfl Tryd.sizeOf3 rfl rfl) ?_
         exact d_closes ⟨look_row rfl 7 rfl s7, trivial⟩ 8 rfl rfl rfl hS (AgreeR.refl _) (t_sat (fun _ h => h) (hK () trivial))
        · -- 9
         rintro _ S hF hS D hp K hK
         try dsimp only at hF ⊢
         have s8 := hp 8 rfl
         refine d_need (small := [(31, (.pointer (some (ad beb (i * 2 + 1)))))]) ⟨look_row rfl 8 rfl s8, trivial⟩ ?_
         refine tp rfl (lv_load Tryd.isAgg3 rfl (Rd.gives (Rd.cons heb) (pairs_get1 (by omega)))) ?_
         exact d_closes ⟨look_row rfl 8 rfl s8, trivial⟩ 9 rfl rfl rfl hS (AgreeR.refl _) (t_sat (fun _ h => h) (hK () trivial))
        · -- 10
         rintro _ S hF hS D hp K hK
         try dsimp only at hF ⊢
         have s4 := hp 4 rfl
         have s9 := hp 9 rfl
         refine d_need (small := [(27, (.int .i64 (((es).getD i (0, 0)).1))), (32, (.int .i64 (((es).getD i (0, 0)).2)))]) ⟨look_row rfl 4 rfl s4, look_row rfl 9 rfl s9, trivial⟩ ?_
         refine tp rfl (lv_neq rfl rfl (bne_iff_ne.2 h2)) ?_
         exact d_closes ⟨look_row rfl 4 rfl s4, look_row rfl 9 rfl s9, trivial⟩ 10 rfl rfl rfl hS (AgreeR.refl _) (t_sat (fun _ h => h) (hK () trivial))
      · -- behind
        rintro _ hF
        try dsimp only at hF ⊢
        refine t_weak (E' := [(0, (.int .i64 n)), (1, (.slice beb es.length ceb)), (4, (.bool false)), (5, (.bool true)), (6, (.slice bd ((dnL (es.take i)).length) cd)), (7, (.int .i64 ((i : Nat) : Int))), (20, (.bool true)), (33, (.bool true))]) ⟨rfl, rfl, rfl, rfl, rfl, rfl, rfl, rfl, trivial⟩ ?_
        refine q_then_n (hK10 _ _ ?_)
        refine c_true rfl ?_
        refine c_draw (γ := Option Addr × Nat × Option Addr × Nat) (n := 27) Tryd.mixed rfl rfl (fun (bs3, cp4, bs7, cp8) S => (S 24 = true → SlOk bs3 1) ∧ (S 24 = true → 1 ≤ cp4) ∧ (S 25 = true → SlOk bs7 ((dnL (es.take i) ++ [(max (es.getD i (0, 0)).1 (es.getD i (0, 0)).2, min (es.getD i (0, 0)).1 (es.getD i (0, 0)).2)]).length)) ∧ (S 25 = true → (dnL (es.take i) ++ [(max (es.getD i (0, 0)).1 (es.getD i (0, 0)).2, min (es.getD i (0, 0)).1 (es.getD i (0, 0)).2)]).length ≤ cp8)) (fun (bs3, cp4, bs7, cp8) => [(0, 34, (.slice bd ((dnL (es.take i)).length) cd)), (1, 35, (.slice beb es.length ceb)), (2, 36, (.int .i64 ((i : Nat) : Int))), (3, 37, (.pointer (some (ad beb (i * 2))))), (4, 38, (.pointer (some (ad beb (i * 2))))), (5, 39, (.int .i64 (((es).getD i (0, 0)).1))), (6, 40, (.slice beb es.length ceb)), (7, 41, (.int .i64 ((i : Nat) : Int))), (8, 42, (.pointer (some (ad beb (i * 2))))), (9, 43, (.pointer (some (ad beb (i * 2 + 1))))), (10, 44, (.int .i64 (((es).getD i (0, 0)).2))), (11, 45, (.int .i64 (max (((es).getD i (0, 0)).1) (((es).getD i (0, 0)).2)))), (12, 46, (.slice beb es.length ceb)), (13, 47, (.int .i64 ((i : Nat) : Int))), (14, 48, (.pointer (some (ad beb (i * 2))))), (15, 49, (.pointer (some (ad beb (i * 2))))), (16, 50, (.int .i64 (((es).getD i (0, 0)).1))), (17, 51, (.slice beb es.length ceb)), (18, 52, (.int .i64 ((i : Nat) : Int))), (19, 53, (.pointer (some (ad beb (i * 2))))), (20, 54, (.pointer (some (ad beb (i * 2 + 1))))), (21, 55, (.int .i64 (((es).getD i (0, 0)).2))), (22, 56, (.int .i64 (min (((es).getD i (0, 0)).1) (((es).getD i (0, 0)).2)))), (23, 57, (.agg #[(.int .i64 (max (((es).getD i (0, 0)).1) (((es).getD i (0, 0)).2))), (.int .i64 (min (((es).getD i (0, 0)).1) (((es).getD i (0, 0)).2)))])), (24, 58, (.slice bs3 1 cp4)), (25, 59, (.slice bs7 ((dnL (es.take i) ++ [(max (es.getD i (0, 0)).1 (es.getD i (0, 0)).2, min (es.getD i (0, 0)).1 (es.getD i (0, 0)).2)]).length) cp8)), (26, 6, (.slice bs7 ((dnL (es.take i) ++ [(max (es.getD i (0, 0)).1 (es.getD i (0, 0)).2, min (es.getD i (0, 0)).1 (es.getD i (0, 0)).2)]).length) cp8))]) (fun (bs3, cp4, bs7, cp8) S => (bif S 25 then (SlV 32 2 (.slice bs7 ((dnL (es.take i) ++ [(max (es.getD i (0, 0)).1 (es.getD i (0, 0)).2, min (es.getD i (0, 0)).1 (es.getD i (0, 0)).2)]).length) cp8) ((dnL (es.take i) ++ [(max (es.getD i (0, 0)).1 (es.getD i (0, 0)).2, min (es.getD i (0, 0)).1 (es.getD i (0, 0)).2)]).length) (pairs ((dnL (es.take i)) ++ [(max (((es).getD i (0, 0)).1) (((es).getD i (0, 0)).2), min (((es).getD i (0, 0)).1) (((es).getD i (0, 0)).2))]))) else (SlV 32 2 (.slice bd ((dnL (es.take i)).length) cd) ((dnL (es.take i)).length) (pairs (dnL (es.take i))))) :: (bif S 24 then (SlV 32 2 (.slice bs3 1 cp4) 1 [(.int .i64 (max (((es).getD i (0, 0)).1) (((es).getD i (0, 0)).2))), (.int .i64 (min (((es).getD i (0, 0)).1) (((es).getD i (0, 0)).2)))]) else Emp) :: R) (none, 0, none, 0) (by simp [Nat.ble]) (fun _ h => sat_emps [_] 1 h) (fun _ _ h => h) ?_ ?_
        · -- steps
         refine ⟨?_, ?_, ?_, ?_, ?_, ?_, ?_, ?_, ?_, ?_, ?_, ?_, ?_, ?_, ?_, ?_, ?_, ?_, ?_, ?_, ?_, ?_, ?_, ?_, ?_, ?_, ?_, trivial⟩
         · -- 0
          rintro ⟨bs3, cp4, bs7, cp8⟩ S hF hS D hp K hK
          try dsimp only at hF ⊢
          obtain ⟨hf0, hf1, hf2, hf3⟩ := hF
          refine d_need (small := [(6, (.slice bd ((dnL (es.take i)).length) cd))]) ⟨look_b1 26 (nf hS D (k := 26) (i := 0) rfl) rfl rfl, trivial⟩ ?_
          refine tp rfl (lv_move rfl) ?_
          exact d_closes ⟨look_b1 26 (nf hS D (k := 26) (i := 0) rfl) rfl rfl, trivial⟩ 0 rfl rfl rfl hS (AgreeR.refl _) (t_sat (fun _ h => h) (hK (bs3, cp4, bs7, cp8) ⟨hf0, hf1, hf2, hf3⟩))
         · -- 1
          rintro ⟨bs3, cp4, bs7, cp8⟩ S hF hS D hp K hK
          try dsimp only at hF ⊢
          obtain ⟨hf0, hf1, hf2, hf3⟩ := hF
          refine d_need (small := [(1, (.slice beb es.length ceb))]) ⟨look_b rfl rfl, trivial⟩ ?_
          refine tp rfl (lv_move rfl) ?_
          exact d_closes ⟨look_b rfl rfl, trivial⟩ 1 rfl rfl rfl hS (AgreeR.refl _) (t_sat (fun _ h => h) (hK (bs3, cp4, bs7, cp8) ⟨hf0, hf1, hf2, hf3⟩))
         · -- 2
          rintro ⟨bs3, cp4, bs7, cp8⟩ S hF hS D hp K hK
          try dsimp only at hF ⊢
          obtain ⟨hf0, hf1, hf2, hf3⟩ := hF
          refine d_need (small := [(7, (.int .i64 ((i : Nat) : Int)))]) ⟨look_b rfl rfl, trivial⟩ ?_
          refine tp rfl (lv_move rfl) ?_
          exact d_closes ⟨look_b rfl rfl, trivial⟩ 2 rfl rfl rfl hS (AgreeR.refl _) (t_sat (fun _ h => h) (hK (bs3, cp4, bs7, cp8) ⟨hf0, hf1, hf2, hf3⟩))
         · -- 3
          rintro ⟨bs3, cp4, bs7, cp8⟩ S hF hS D hp K hK
          try dsimp only at hF ⊢
          obtain ⟨hf0, hf1, hf2, hf3⟩ := hF
          have s1 := hp 1 rfl
          have s2 := hp 2 rfl
          refine d_need (small := [(35, (.slice beb es.length ceb)), (36, (.int .i64 ((i : Nat) : Int)))]) ⟨look_row rfl 1 rfl s1, look_row rfl 2 rfl s2, trivial⟩ ?_
          refine tp rfl (lv_indexAddr (k' := i * 2) Tryd.underlying22 Tryd.sizeOf32 rfl rfl okeb (by omega) (by omega) (by omega)) ?_
          exact d_closes ⟨look_row rfl 1 rfl s1, look_row rfl 2 rfl s2, trivial⟩ 3 rfl rfl rfl hS (AgreeR.refl _) (t_sat (fun _ h => h) (hK (bs3, cp4, bs7, cp8) ⟨hf0, hf1, hf2, hf3⟩))
         · -- 4
          rintro ⟨bs3, cp4, bs7, cp8⟩ S hF hS D hp K hK
          try dsimp only at hF ⊢
          obtain ⟨hf0, hf1, hf2, hf3⟩ := hF
          have s3 := hp 3 rfl
          refine d_need (small := [(37, (.pointer (some (ad beb (i * 2)))))]) ⟨look_row rfl 3 rfl s3, trivial⟩ ?_
          refine tp rfl (lv_fieldAddr_ad (o' := i * 2) Tryd.underlying32 rfl Tryd.sizeOf3 rfl rfl) ?_
          exact d_closes ⟨look_row rfl 3 rfl s3, trivial⟩ 4 rfl rfl rfl hS (AgreeR.refl _) (t_sat (fun _ h => h) (hK (bs3, cp4, bs7, cp8) ⟨hf0, hf1, hf2, hf3⟩))
         · -- 5
          rintro ⟨bs3, cp4, bs7, cp8⟩ S hF hS D hp K hK
          try dsimp only at hF ⊢
          obtain ⟨hf0, hf1, hf2, hf3⟩ := hF
          have s4 := hp 4 rfl
          refine d_need (small := [(38, (.pointer (some (ad beb (i * 2)))))]) ⟨look_row rfl 4 rfl s4, trivial⟩ ?_
          refine tp rfl (lv_load Tryd.isAgg3 rfl (Rd.gives (Rd.cons (Rd.cons heb)) (pairs_get0 (by omega)))) ?_
          exact d_closes ⟨look_row rfl 4 rfl s4, trivial⟩ 5 rfl rfl rfl hS (AgreeR.refl _) (t_sat (fun _ h => h) (hK (bs3, cp4, bs7, cp8) ⟨hf0, hf1, hf2, hf3⟩))
         · -- 6
          rintro ⟨bs3, cp4, bs7, cp8⟩ S hF hS D hp K hK
          try dsimp only at hF ⊢
          obtain ⟨hf0, hf1, hf2, hf3⟩ := hF
          refine d_need (small := [(1, (.slice beb es.length ceb))]) ⟨look_b rfl rfl, trivial⟩ ?_
          refine tp rfl (lv_move rfl) ?_
          exact d_closes ⟨look_b rfl rfl, trivial⟩ 6 rfl rfl rfl hS (AgreeR.refl _) (t_sat (fun _ h => h) (hK (bs3, cp4, bs7, cp8) ⟨hf0, hf1, hf2, hf3⟩))
         · -- 7
          rintro ⟨bs3, cp4, bs7, cp8⟩ S hF hS D hp K hK
          try dsimp only at hF ⊢
          obtain ⟨hf0, hf1, hf2, hf3⟩ := hF
          refine d_need (small := [(7, (.int .i64 ((i : Nat) : Int)))]) ⟨look_b rfl rfl, trivial⟩ ?_
          refine tp rfl (lv_move rfl) ?_
          exact d_closes ⟨look_b rfl rfl, trivial⟩ 7 rfl rfl rfl hS (AgreeR.refl _) (t_sat (fun _ h => h) (hK (bs3, cp4, bs7, cp8) ⟨hf0, hf1, hf2, hf3⟩))
         · -- 8
          rintro ⟨bs3, cp4, bs7, cp8⟩ S hF hS D hp K hK
          try dsimp only at hF ⊢
          obtain ⟨hf0, hf1, hf2, hf3⟩ := hF
          have s6 := hp 6 rfl
          have s7 := hp 7 rfl
          refine d_need (small := [(40, (.slice beb es.length ceb)), (41, (.int .i64 ((i : Nat) : Int)))]) ⟨look_row rfl 6 rfl s6, look_row rfl 7 rfl s7, trivial⟩ ?_
          refine tp rfl (lv_indexAddr (k' := i * 2) Tryd.underlying22 Tryd.sizeOf32 rfl rfl okeb (by omega) (by omega) (by omega)) ?_
          exact d_closes ⟨look_row rfl 6 rfl s6, look_row rfl 7 rfl s7, trivial⟩ 8 rfl rfl rfl hS (AgreeR.refl _) (t_sat (fun _ h => h) (hK (bs3, cp4, bs7, cp8) ⟨hf0, hf1, hf2, hf3⟩))
         · -- 9
          rintro ⟨bs3, cp4, bs7, cp8⟩ S hF hS D hp K hK
          try dsimp only at hF ⊢
          obtain ⟨hf0, hf1, hf2, hf3⟩ := hF
          have s8 := hp 8 rfl
          refine d_need (small := [(42, (.pointer (some (ad beb (i * 2)))))]) ⟨look_row rfl 8 rfl s8, trivial⟩ ?_
          refine tp rfl (lv_fieldAddr_ad (o' := i * 2 + 1) Tryd.underlying32 rfl Tryd.sizeOf3 rfl rfl) ?_
          exact d_closes ⟨look_row rfl 8 rfl s8, trivial⟩ 9 rfl rfl rfl hS (AgreeR.refl _) (t_sat (fun _ h => h) (hK (bs3, cp4, bs7, cp8) ⟨hf0, hf1, hf2, hf3⟩))
         · -- 10
          rintro ⟨bs3, cp4, bs7, cp8⟩ S hF hS D hp K hK
          try dsimp only at hF ⊢
          obtain ⟨hf0, hf1, hf2, hf3⟩ := hF
          have s9 := hp 9 rfl
          refine d_need (small := [(43, (.pointer (some (ad beb (i * 2 + 1)))))]) ⟨look_row rfl 9 rfl s9, trivial⟩ ?_
          refine tp rfl (lv_load Tryd.isAgg3 rfl (Rd.gives (Rd.cons (Rd.cons heb)) (pairs_get1 (by omega)))) ?_
          exact d_closes ⟨look_row rfl 9 rfl s9, trivial⟩ 10 rfl rfl rfl hS (AgreeR.refl _) (t_sat (fun _ h => h) (hK (bs3, cp4, bs7, cp8) ⟨hf0, hf1, hf2, hf3⟩))
         · -- 11
          rintro ⟨bs3, cp4, bs7, cp8⟩ S hF hS D hp K hK
          try dsimp only at hF ⊢
          obtain ⟨hf0, hf1, hf2, hf3⟩ := hF
          have s5 := hp 5 rfl
          have s10 := hp 10 rfl
          refine d_need (small := [(39, (.int .i64 (((es).getD i (0, 0)).1))), (44, (.int .i64 (((es).getD i (0, 0)).2)))]) ⟨look_row rfl 5 rfl s5, look_row rfl 10 rfl s10, trivial⟩ ?_
          refine tp rfl (lv_max (c := max (((es).getD i (0, 0)).1) (((es).getD i (0, 0)).2)) rfl rfl rfl) ?_
          exact d_closes ⟨look_row rfl 5 rfl s5, look_row rfl 10 rfl s10, trivial⟩ 11 rfl rfl rfl hS (AgreeR.refl _) (t_sat (fun _ h => h) (hK (bs3, cp4, bs7, cp8) ⟨hf0, hf1, hf2, hf3⟩))
         · -- 12
          rintro ⟨bs3, cp4, bs7, cp8⟩ S hF hS D hp K hK
          try dsimp only at hF ⊢
          obtain ⟨hf0, hf1, hf2, hf3⟩ := hF
          refine d_need (small := [(1, (.slice beb es.length ceb))]) ⟨look_b rfl rfl, trivial⟩ ?_
          refine tp rfl (lv_move rfl) ?_
          exact d_closes ⟨look_b rfl rfl, trivial⟩ 12 rfl rfl rfl hS (AgreeR.refl _) (t_sat (fun _ h => h) (hK (bs3, cp4, bs7, cp8) ⟨hf0, hf1, hf2, hf3⟩))
         · -- 13
          rintro ⟨bs3, cp4, bs7, cp8⟩ S hF hS D hp K hK
          try dsimp only at hF ⊢
          obtain ⟨hf0, hf1, hf2, hf3⟩ := hF
          refine d_need (small := [(7, (.int .i64 ((i : Nat) : Int)))]) ⟨look_b rfl rfl, trivial⟩ ?_
          refine tp rfl (lv_move rfl) ?_
          exact d_closes ⟨look_b rfl rfl, trivial⟩ 13 rfl rfl rfl hS (AgreeR.refl _) (t_sat (fun _ h => h) (hK (bs3, cp4, bs7, cp8) ⟨hf0, hf1, hf2, hf3⟩))
         · -- 14
          rintro ⟨bs3, cp4, bs7, cp8⟩ S hF hS D hp K hK
          try dsimp only at hF ⊢
          obtain ⟨hf0, hf1, hf2, hf3⟩ := hF
          have s12 := hp 12 rfl
          have s13 := hp 13 rfl
          refine d_need (small := [(46, (.slice beb es.length ceb)), (47, (.int .i64 ((i : Nat) : Int)))]) ⟨look_row rfl 12 rfl s12, look_row rfl 13 rfl s13, trivial⟩ ?_
          refine tp rfl (lv_indexAddr (k' := i * 2) Tryd.underlying22 Tryd.sizeOf32 rfl rfl okeb (by omega) (by omega) (by omega)) ?_
          exact d_closes ⟨look_row rfl 12 rfl s12, look_row rfl 13 rfl s13, trivial⟩ 14 rfl rfl rfl hS (AgreeR.refl _) (t_sat (fun _ h => h) (hK (bs3, cp4, bs7, cp8) ⟨hf0, hf1, hf2, hf3⟩))
         · -- 15
          rintro ⟨bs3, cp4, bs7, cp8⟩ S hF hS D hp K hK
          try dsimp only at hF ⊢
          obtain ⟨hf0, hf1, hf2, hf3⟩ := hF
          have s14 := hp 14 rfl
          refine d_need (small := [(48, (.pointer (some (ad beb (i * 2)))))]) ⟨look_row rfl 14 rfl s14, trivial⟩ ?_
          refine tp rfl (lv_fieldAddr_ad (o' := i * 2) Tryd.underlying32 rfl Tryd.sizeOf3 rfl rfl) ?_
          exact d_closes ⟨look_row rfl 14 rfl s14, trivial⟩ 15 rfl rfl rfl hS (AgreeR.refl _) (t_sat (fun _ h => h) (hK (bs3, cp4, bs7, cp8) ⟨hf0, hf1, hf2, hf3⟩))
         · -- 16
          rintro ⟨bs3, cp4, bs7, cp8⟩ S hF hS D hp K hK
          try dsimp only at hF ⊢
          obtain ⟨hf0, hf1, hf2, hf3⟩ := hF
          have s15 := hp 15 rfl
          refine d_need (small := [(49, (.pointer (some (ad beb (i * 2)))))]) ⟨look_row rfl 15 rfl s15, trivial⟩ ?_
          refine tp rfl (lv_load Tryd.isAgg3 rfl (Rd.gives (Rd.cons (Rd.cons heb)) (pairs_get0 (by omega)))) ?_
          exact d_closes ⟨look_row rfl 15 rfl s15, trivial⟩ 16 rfl rfl rfl hS (AgreeR.refl _) (t_sat (fun _ h => h) (hK (bs3, cp4, bs7, cp8) ⟨hf0, hf1, hf2, hf3⟩))
         · -- 17
          rintro ⟨bs3, cp4, bs7, cp8⟩ S hF hS D hp K hK
          try dsimp only at hF ⊢
          obtain ⟨hf0, hf1, hf2, hf3⟩ := hF
          refine d_need (small := [(1, (.slice beb es.length ceb))]) ⟨look_b rfl rfl, trivial⟩ ?_
          refine tp rfl (lv_move rfl) ?_
          exact d_closes ⟨look_b rfl rfl, trivial⟩ 17 rfl rfl rfl hS (AgreeR.refl _) (t_sat (fun _ h => h) (hK (bs3, cp4, bs7, cp8) ⟨hf0, hf1, hf2, hf3⟩))
         · -- 18
          rintro ⟨bs3, cp4, bs7, cp8⟩ S hF hS D hp K hK
          try dsimp only at hF ⊢
          obtain ⟨hf0, hf1, hf2, hf3⟩ := hF
          refine d_need (small := [(7, (.int .i64 ((i : Nat) : Int)))]) ⟨look_b rfl rfl, trivial⟩ ?_
          refine tp rfl (lv_move rfl) ?_
          exact d_closes ⟨look_b rfl rfl, trivial⟩ 18 rfl rfl rfl hS (AgreeR.refl _) (t_sat (fun _ h => h) (hK (bs3, cp4, bs7, cp8) ⟨hf0, hf1, hf2, hf3⟩))
         · -- 19
          rintro ⟨bs3, cp4, bs7, cp8⟩ S hF hS D hp K hK
          try dsimp only at hF ⊢
          obtain ⟨hf0, hf1, hf2, hf3⟩ := hF
          have s17 := hp 17 rfl
          have s18 := hp 18 rfl
          refine d_need (small := [(51, (.slice beb es.length ceb)), (52, (.int .i64 ((i : Nat) : Int)))]) ⟨look_row rfl 17 rfl s17, look_row rfl 18 rfl s18, trivial⟩ ?_
          refine tp rfl (lv_indexAddr (k' := i * 2) Tryd.underlying22 Tryd.sizeOf32 rfl rfl okeb (by omega) (by omega) (by omega)) ?_
          exact d_closes ⟨look_row rfl 17 rfl s17, look_row rfl 18 rfl s18, trivial⟩ 19 rfl rfl rfl hS (AgreeR.refl _) (t_sat (fun _ h => h) (hK (bs3, cp4, bs7, cp8) ⟨hf0, hf1, hf2, hf3⟩))
         · -- 20
          rintro ⟨bs3, cp4, bs7, cp8⟩ S hF hS D hp K hK
          try dsimp only at hF ⊢
          obtain ⟨hf0, hf1, hf2, hf3⟩ := hF
          have s19 := hp 19 rfl
          refine d_need (small := [(53, (.pointer (some (ad beb (i * 2)))))]) ⟨look_row rfl 19 rfl s19, trivial⟩ ?_
          refine tp rfl (lv_fieldAddr_ad (o' := i * 2 + 1) Tryd.underlying32 rfl Tryd.sizeOf3 rfl rfl) ?_
          exact d_closes ⟨look_row rfl 19 rfl s19, trivial⟩ 20 rfl rfl rfl hS (AgreeR.refl _) (t_sat (fun _ h => h) (hK (bs3, cp4, bs7, cp8) ⟨hf0, hf1, hf2, hf3⟩))
         · -- 21
          rintro ⟨bs3, cp4, bs7, cp8⟩ S hF hS D hp K hK
          try dsimp only at hF ⊢
          obtain ⟨hf0, hf1, hf2, hf3⟩ := hF
          have s20 := hp 20 rfl
          refine d_need (small := [(54, (.pointer (some (ad beb (i * 2 + 1)))))]) ⟨look_row rfl 20 rfl s20, trivial⟩ ?_
          refine tp rfl (lv_load Tryd.isAgg3 rfl (Rd.gives (Rd.cons (Rd.cons heb)) (pairs_get1 (by omega)))) ?_
          exact d_closes ⟨look_row rfl 20 rfl s20, trivial⟩ 21 rfl rfl rfl hS (AgreeR.refl _) (t_sat (fun _ h => h) (hK (bs3, cp4, bs7, cp8) ⟨hf0, hf1, hf2, hf3⟩))
         · -- 22
          rintro ⟨bs3, cp4, bs7, cp8⟩ S hF hS D hp K hK
          try dsimp only at hF ⊢
          obtain ⟨hf0, hf1, hf2, hf3⟩ := hF
          have s16 := hp 16 rfl
          have s21 := hp 21 rfl
          refine d_need (small := [(50, (.int .i64 (((es).getD i (0, 0)).1))), (55, (.int .i64 (((es).getD i (0, 0)).2)))]) ⟨look_row rfl 16 rfl s16, look_row rfl 21 rfl s21, trivial⟩ ?_
          refine tp rfl (lv_min (c := min (((es).getD i (0, 0)).1) (((es).getD i (0, 0)).2)) rfl rfl rfl) ?_
          exact d_closes ⟨look_row rfl 16 rfl s16, look_row rfl 21 rfl s21, trivial⟩ 22 rfl rfl rfl hS (AgreeR.refl _) (t_sat (fun _ h => h) (hK (bs3, cp4, bs7, cp8) ⟨hf0, hf1, hf2, hf3⟩))
         · -- 23
          rintro ⟨bs3, cp4, bs7, cp8⟩ S hF hS D hp K hK
          try dsimp only at hF ⊢
          obtain ⟨hf0, hf1, hf2, hf3⟩ := hF
          have s11 := hp 11 rfl
          have s22 := hp 22 rfl
          refine d_need (small := [(45, (.int .i64 (max (((es).getD i (0, 0)).1) (((es).getD i (0, 0)).2)))), (56, (.int .i64 (min (((es).getD i (0, 0)).1) (((es).getD i (0, 0)).2))))]) ⟨look_row rfl 11 rfl s11, look_row rfl 22 rfl s22, trivial⟩ ?_
          refine tp rfl (lv_build (cs := [(.int .i64 (max (((es).getD i (0, 0)).1) (((es).getD i (0, 0)).2))), (.int .i64 (min (((es).getD i (0, 0)).1) (((es).getD i (0, 0)).2)))]) (pl := [(0, 1), (1, 1)]) Tryd.underlying32 Tryd.zeroValue32 (fun _ => by simp) rfl rfl) ?_
          exact d_closes ⟨look_row rfl 11 rfl s11, look_row rfl 22 rfl s22, trivial⟩ 23 rfl rfl rfl hS (AgreeR.refl _) (t_sat (fun _ h => h) (hK (bs3, cp4, bs7, cp8) ⟨hf0, hf1, hf2, hf3⟩))
         · -- 24
          rintro ⟨bs3, cp4, bs7, cp8⟩ S hF hS D hp K hK
          try dsimp only at hF ⊢
          obtain ⟨hf0, hf1, hf2, hf3⟩ := hF
          have s23 := hp 23 rfl
          refine d_need (small := [(57, (.agg #[(.int .i64 (max (((es).getD i (0, 0)).1) (((es).getD i (0, 0)).2))), (.int .i64 (min (((es).getD i (0, 0)).1) (((es).getD i (0, 0)).2)))]))]) ⟨look_row rfl 23 rfl s23, trivial⟩ ?_
          refine tm rfl (mv_buildSlice (cs := [(.int .i64 (max (((es).getD i (0, 0)).1) (((es).getD i (0, 0)).2))), (.int .i64 (min (((es).getD i (0, 0)).1) (((es).getD i (0, 0)).2)))]) Tryd.underlying22 Tryd.sizeOf32 Tryd.zeroValue32 (by decide) rfl rfl rfl rfl) ?_
          rintro _ _ ⟨bs3, cp4, hok5, hle6, rfl, rfl⟩
          refine t_sat (fun _ h => sat_put [_] h) ?_
          exact d_closes ⟨look_row rfl 23 rfl s23, trivial⟩ 24 rfl rfl rfl hS (by exact ⟨.inl rfl, .inl rfl, .inl rfl, .inl rfl, .inl rfl, .inl rfl, .inl rfl, .inl rfl, .inl rfl, .inl rfl, .inl rfl, .inl rfl, .inl rfl, .inl rfl, .inl rfl, .inl rfl, .inl rfl, .inl rfl, .inl rfl, .inl rfl, .inl rfl, .inl rfl, .inl rfl, .inl rfl, .inr ⟨rfl, rfl, hS⟩, .inl rfl, .inl rfl, trivial⟩) (t_sat (fun _ h => h) (hK (bs3, cp4, bs7, cp8) ⟨(fun _ => hok5), (fun _ => hle6), hf2, hf3⟩))
         · -- 25
          rintro ⟨bs3, cp4, bs7, cp8⟩ S hF hS D hp K hK
          try dsimp only at hF ⊢
          obtain ⟨hf0, hf1, hf2, hf3⟩ := hF
          have s24 := hp 24 rfl
          have hok5 := hf0 s24
          have hle6 := hf1 s24
          have s0 := hp 0 rfl
          refine d_need (small := [(34, (.slice bd ((dnL (es.take i)).length) cd)), (58, (.slice bs3 1 cp4))]) ⟨look_row rfl 0 rfl s0, look_row rfl 24 rfl s24, trivial⟩ ?_
          refine t_cF hS ?_
          refine t_f1 ?_
          refine t_cT s24 ?_
          refine t_f1 ?_
          refine tm rfl (mv_append (i := Tryd.t32) Tryd.underlying22 Tryd.type32 rfl rfl rfl (by decide) rfl rfl hok5 (by first | (simp; done) | (simp; omega)) (rd_sl (.tail _ (.head _))) (by simp [Value.oneCell']) (by rw [show Tryd.t32.bytes = 16 from rfl]; omega)) ?_
          rintro _ _ ⟨bs7, cp8, hok9, hle10, rfl, rfl⟩
          rw [show pairs (dnL (es.take i)) ++ [(.int .i64 (max (((es).getD i (0, 0)).1) (((es).getD i (0, 0)).2))), (.int .i64 (min (((es).getD i (0, 0)).1) (((es).getD i (0, 0)).2)))] = pairs ((dnL (es.take i)) ++ [(max (((es).getD i (0, 0)).1) (((es).getD i (0, 0)).2), min (((es).getD i (0, 0)).1) (((es).getD i (0, 0)).2))]) from pairs_snoc _ _ _]
          rw [show ((dnL (es.take i)).length) + 1 = (dnL (es.take i) ++ [(max (es.getD i (0, 0)).1 (es.getD i (0, 0)).2, min (es.getD i (0, 0)).1 (es.getD i (0, 0)).2)]).length from by simp] at hok9 hle10 ⊢
          refine t_f1 ?_
          refine t_wT (B := Emp) s24 ?_
          refine t_f1 ?_
          exact d_closes ⟨look_row rfl 0 rfl s0, look_row rfl 24 rfl s24, trivial⟩ 25 rfl rfl rfl hS (by exact ⟨.inl rfl, .inl rfl, .inl rfl, .inl rfl, .inl rfl, .inl rfl, .inl rfl, .inl rfl, .inl rfl, .inl rfl, .inl rfl, .inl rfl, .inl rfl, .inl rfl, .inl rfl, .inl rfl, .inl rfl, .inl rfl, .inl rfl, .inl rfl, .inl rfl, .inl rfl, .inl rfl, .inl rfl, .inl rfl, .inr ⟨rfl, rfl, hS⟩, .inr ⟨rfl, rfl, (nf hS D (k := 26) (i := 25) rfl)⟩, trivial⟩) (t_sat (fun _ h => h) (hK (bs3, cp4, bs7, cp8) ⟨hf0, hf1, (fun _ => hok9), (fun _ => hle10)⟩))
         · -- 26
          rintro ⟨bs3, cp4, bs7, cp8⟩ S hF hS D hp K hK
          try dsimp only at hF ⊢
          obtain ⟨hf0, hf1, hf2, hf3⟩ := hF
          have s25 := hp 25 rfl
          refine d_need (small := [(59, (.slice bs7 ((dnL (es.take i) ++ [(max (es.getD i (0, 0)).1 (es.getD i (0, 0)).2, min (es.getD i (0, 0)).1 (es.getD i (0, 0)).2)]).length) cp8))]) ⟨look_row rfl 25 rfl s25, trivial⟩ ?_
          refine tp rfl (lv_assign rfl) ?_
          exact d_closes ⟨look_row rfl 25 rfl s25, trivial⟩ 26 rfl rfl rfl hS (AgreeR.refl _) (t_sat (fun _ h => h) (hK (bs3, cp4, bs7, cp8) ⟨hf0, hf1, hf2, hf3⟩))
        · -- behind
         rintro ⟨bs3, cp4, bs7, cp8⟩ hF
         try dsimp only at hF ⊢
         obtain ⟨hf0, hf1, hf2, hf3⟩ := hF
         have hok5 := hf0 rfl
         have hle6 := hf1 rfl
         have hok9 := hf2 rfl
         have hle10 := hf3 rfl
         refine t_weak (E' := [(0, (.int .i64 n)), (1, (.slice beb es.length ceb)), (4, (.bool false)), (5, (.bool true)), (6, (.slice bs7 ((dnL (es.take i) ++ [(max (es.getD i (0, 0)).1 (es.getD i (0, 0)).2, min (es.getD i (0, 0)).1 (es.getD i (0, 0)).2)]).length) cp8)), (7, (.int .i64 ((i : Nat) : Int))), (20, (.bool true)), (33, (.bool true))]) ⟨rfl, rfl, rfl, rfl, rfl, rfl, rfl, rfl, trivial⟩ ?_
         refine q_in_n ?_
         refine q_then_n (hK9 _ _ ?_)
         refine c_region ?_
         refine tp rfl (lv_move rfl) ?_
         refine tp rfl (lv_add (c := ((i + 1 : Nat) : Int)) rfl rfl (wr_i64_succ (by omega))) ?_
         refine tp rfl (lv_assign rfl) ?_
         refine t_done ?_
         refine q_then_n ?_
         refine t_f1 ?_
         refine t_drop ?_
         rw [← dnL_yes (show i < es.length by omega) h2] at hok9 hle10 ⊢
         exact t_weak (by exact ⟨rfl, rfl, rfl, rfl, rfl, rfl, trivial⟩) ((hK6 (i + 1, bs7, cp8) ⟨by omega, by omega, hok9, hle10⟩ (by dsimp only; omega)))
  · -- not both
    refine t_cut0 (E' := [(0, (.int .i64 n)), (1, (.slice beb es.length ceb)), (4, (.bool false)), (5, (.bool true)), (6, (.slice bd ((dnL (es.take i)).length) cd)), (7, (.int .i64 ((i : Nat) : Int))), (20, (.bool false))]) ?_ (fun KK hKK => ?_)
    ·
      refine q_then_n (hK8 _ _ ?_)
      refine c_false rfl ?_
      refine c_exit ?_
      refine q_then_x ?_
      refine q_then_x ?_
      refine q_in_x ?_
      refine q_then_n (hK4 _ _ ?_)
      refine c_seq (fun K9 hK9 => ?_)
      refine c_region ?_
      rw [show es.take i = es.take 100 from take_end (by omega)] at hok hle hdl htl ⊢
      refine tp rfl (lv_move rfl) ?_
      refine tp rfl (lv_move rfl) ?_
      refine tc rfl (en_fn Tryd.call10 rfl) (made_ok n (dnL (es.take 100)) (rd_sl (.head _)) (fun hz => hok (by first | exact hz | omega)) (by omega)) ?_
      rintro _ _ ⟨p11, rfl, rfl⟩
      refine tp rfl (lv_assign rfl) ?_
      refine t_done ?_
      refine q_then_n (hK9 _ _ ?_)
      refine c_seq (fun K10 hK10 => ?_)
      refine c_seq (fun K11 hK11 => ?_)
      refine c_region ?_
      refine tp rfl (lv_move rfl) ?_
      refine tp rfl (lv_eqnil Tryd.underlying24 rfl rfl) ?_
      refine t_done ?_
      refine q_then_n (hK11 _ _ ?_)
      refine c_false rfl ?_
      refine c_skip ?_
      refine q_then_n (hK10 _ _ ?_)
      refine c_seq (fun K12 hK12 => ?_)
      refine c_region ?_
      have hB := down_B (l := es.take 100) hcn (k := 100)
      have hO := down_on (l := es.take 100) hcn (k := 100)
      have hA := fun i hi => down_at (l := es.take 100) hcn (k := 100) (i := i) hi
      have hT_ := ordR_t hB
      obtain ⟨EE, hEE⟩ : ∃ x, madeE (clampN (min n 30)) ((dnL (es.take 100)).take 100) = x := ⟨_, rfl⟩
      rw [hEE] at hgk hB hO hA hT_ ⊢
      obtain ⟨NN, hNN⟩ : ∃ x, clampN (min n 30) = x := ⟨_, rfl⟩
      rw [hNN] at hgk hcn hB hO hA hT_ ⊢
      refine tp rfl (lv_move rfl) ?_
      refine tc rfl (en_fn Tryd.call13 rfl) (order_ok (N := NN) (E := EE)) ?_
      rintro _ _ ⟨bs12, cp13, hok14, hle15, rfl, rfl⟩
      try rw [show ordB NN EE = true from hB] at hok14
      try rw [show ordB NN EE = true from hB] at hle15
      rw [show ordB NN EE = true from hB]
      refine tp rfl (lv_move rfl) ?_
      refine tp rfl (lv_extract rfl rfl) ?_
      refine tp rfl (lv_extract rfl rfl) ?_
      refine tp rfl (lv_assign rfl) ?_
      refine tp rfl (lv_assign rfl) ?_
      refine t_done ?_
      refine q_then_n (hK12 _ _ ?_)
      refine c_seq (fun K13 hK13 => ?_)
      refine c_seq (fun K14 hK14 => ?_)
      refine c_region ?_
      refine tp rfl (lv_move rfl) ?_
      refine tp rfl (lv_not (c := false) rfl rfl) ?_
      refine tp rfl (lv_move rfl) ?_
      refine t_guard rfl rfl ?_
      refine tp rfl (lv_move rfl) ?_
      refine t_guard rfl rfl ?_
      refine tp rfl (lv_len Tryd.underlying33 rfl rfl) ?_
      refine t_guard rfl rfl ?_
      refine tp rfl (lv_move rfl) ?_
      refine t_guard rfl rfl ?_
      refine t_f1 ?_
      refine tc rfl (en_fn Tryd.call21 rfl) (n_ok) ?_
      rintro _ _ ⟨rfl, rfl⟩
      refine t_guard rfl rfl ?_
      refine tp rfl (lv_neq rfl rfl (bne_eq_false_iff_eq.2 (by omega))) ?_
      refine tp rfl (lv_pick_f rfl rfl) ?_
      refine tp rfl (lv_move rfl) ?_
      refine t_guard rfl rfl ?_
      refine tp rfl (lv_move rfl) ?_
      refine t_guard rfl rfl ?_
      refine tc rfl (en_fn Tryd.call19 rfl) (on_ok (N := NN) (E := EE)  (Tab.cons (Tab.cons hT))) ?_
      rintro _ _ ⟨bs16, cp17, hok18, hle19, rfl, rfl⟩
      try rw [show onL NN EE = [] from hO] at hok18
      try rw [show onL NN EE = [] from hO] at hle19
      rw [show onL NN EE = [] from hO]
      refine t_guard rfl rfl ?_
      refine tp rfl (lv_len Tryd.underlying33 rfl rfl) ?_
      refine t_guard rfl rfl ?_
      refine tp rfl (lv_neq rfl rfl (bne_eq_false_iff_eq.2 rfl)) ?_
      refine tp rfl (lv_pick_f rfl rfl) ?_
      refine t_done ?_
      refine q_then_n (hK14 _ _ ?_)
      refine c_false rfl ?_
      refine c_skip ?_
      refine q_then_n (hK13 _ _ ?_)
      refine c_seq (fun K15 hK15 => ?_)
      refine c_seq (fun K16 hK16 => ?_)
      refine c_region ?_
      refine tp rfl (lv_assign rfl) ?_
      refine t_done ?_
      refine q_then_n (hK16 _ _ ?_)
      refine c_block ?_
      refine t_drop ?_
      refine c_loop (γ := (Nat)) (fun (j : Nat) => j ≤ (ordR NN EE).length) (fun (j : Nat) => [(0, (.int .i64 n)), (1, (.slice beb es.length ceb)), (5, (.bool true)), (6, (.slice bd ((dnL (es.take 100)).length) cd)), (7, (.int .i64 ((i : Nat) : Int))), (8, (.pointer (some ⟨p11, 0, none⟩))), (9, (.slice bs12 ((ordR NN EE).length) cp13)), (10, (.bool true)), (11, (.int .i64 ((j : Nat) : Int))), (20, (.bool false)), (64, (.bool false)), (84, (.bool false))]) (fun (j : Nat) => (GraphO p11 NN EE) :: (SlV 3 1 (.slice bs12 ((ordR NN EE).length) cp13) ((ordR NN EE).length) (ints .i64 (ordR NN EE))) :: (SlV 32 2 (.slice bd ((dnL (es.take 100)).length) cd) ((dnL (es.take 100)).length) (pairs (dnL (es.take 100)))) :: R) (fun (j : Nat) => (ordR NN EE).length - j) (0) (by omega) ⟨rfl, rfl, rfl, rfl, rfl, rfl, rfl, rfl, rfl, rfl, rfl, rfl, trivial⟩ (fun _ h => h) ?_
      rintro j K17 hF hK17
      try dsimp only at hF hK17 ⊢
      refine c_seq (fun K18 hK18 => ?_)
      refine c_seq (fun K19 hK19 => ?_)
      refine c_region ?_
      refine tp rfl (lv_move rfl) ?_
      refine tp rfl (lv_move rfl) ?_
      refine tp rfl (lv_len Tryd.underlying33 rfl rfl) ?_
      by_cases h20 : ((j : Nat) : Int) < (((ordR NN EE).length : Nat) : Int)
      · -- yes
        refine tp rfl (lv_lss rfl rfl (decide_eq_true h20)) ?_
        refine t_done ?_
        refine q_then_n (hK19 _ _ ?_)
        refine c_true rfl ?_
        refine c_skip ?_
        refine q_then_n (hK18 _ _ ?_)
        refine c_seq (fun K20 hK20 => ?_)
        refine c_block ?_
        refine c_seq (fun K21 hK21 => ?_)
        refine c_region ?_
        refine tp rfl (lv_move rfl) ?_
        refine tp rfl (lv_move rfl) ?_
        refine tp rfl (lv_indexAddr (k' := j) Tryd.underlying33 Tryd.sizeOf3 rfl rfl hok14 (by omega) (by omega) (by omega)) ?_
        refine tp rfl (lv_load Tryd.isAgg3 rfl (gives_sl (.tail _ (.head _)) (ints_get (by omega)))) ?_
        refine tp rfl (lv_move rfl) ?_
        refine tp rfl (lv_neq rfl rfl (bne_eq_false_iff_eq.2 (hA j (by omega)))) ?_
        refine t_done ?_
        refine q_then_n (hK21 _ _ ?_)
        refine c_false rfl ?_
        refine c_skip ?_
        refine q_in_n ?_
        refine q_then_n (hK20 _ _ ?_)
        refine c_region ?_
        refine tp rfl (lv_move rfl) ?_
        refine tp rfl (lv_add (c := ((j + 1 : Nat) : Int)) rfl rfl (wr_i64_succ (by omega))) ?_
        refine tp rfl (lv_assign rfl) ?_
        refine t_done ?_
        refine q_then_n ?_
        exact t_weak (by exact ⟨rfl, rfl, rfl, rfl, rfl, rfl, rfl, rfl, rfl, rfl, rfl, rfl, trivial⟩) ((hK17 (j + 1) (by omega) (by omega)))
      · -- no
        refine tp rfl (lv_lss rfl rfl (decide_eq_false h20)) ?_
        refine t_done ?_
        refine q_then_n (hK19 _ _ ?_)
        refine c_false rfl ?_
        refine c_exit ?_
        refine q_then_x ?_
        refine q_then_x ?_
        refine q_in_x ?_
        refine q_then_n (hK15 _ _ ?_)
        refine c_seq (fun K20 hK20 => ?_)
        refine c_region ?_
        refine tp rfl (lv_move rfl) ?_
        refine tp rfl (lv_assign rfl) ?_
        refine t_done ?_
        refine q_then_n (hK20 _ _ ?_)
        refine c_ret ?_
        refine t_drop ?_
        refine t_drop ?_
        refine t_drop ?_
        refine q_ret rfl rfl ?_
        exact ⟨rfl, rfl⟩
    · -- which
      by_cases hc1A : ((i : Nat) : Int) < ((es.length : Nat) : Int)
      ·
        have hc1B : ¬ (((i : Nat) : Int) < 100) := fun hh => hc1 ⟨hc1A, hh⟩
        refine tp rfl (lv_move rfl) ?_
        refine tp rfl (lv_move rfl) ?_
        refine tp rfl (lv_len Tryd.underlying22 rfl rfl) ?_
        refine tp rfl (lv_lss rfl rfl (decide_eq_true hc1A)) ?_
        refine tp rfl (lv_move rfl) ?_
        refine t_guard rfl rfl ?_
        refine tp rfl (lv_move rfl) ?_
        refine t_guard rfl rfl ?_
        refine tp rfl (lv_lss rfl rfl (decide_eq_false hc1B)) ?_
        refine tp rfl (lv_pick_t rfl rfl) ?_
        exact t_done (t_weak (by exact ⟨rfl, rfl, rfl, rfl, rfl, rfl, rfl, trivial⟩) hKK)
      ·
        refine tp rfl (lv_move rfl) ?_
        refine tp rfl (lv_move rfl) ?_
        refine tp rfl (lv_len Tryd.underlying22 rfl rfl) ?_
        refine tp rfl (lv_lss rfl rfl (decide_eq_false hc1A)) ?_
        refine tp rfl (lv_move rfl) ?_
        refine t_skip rfl rfl rfl ?_
        refine t_skip rfl rfl rfl ?_
        refine tp rfl (lv_pick_f rfl rfl) ?_
        exact t_done (t_weak (by exact ⟨rfl, rfl, rfl, rfl, rfl, rfl, rfl, trivial⟩) hKK)
end Go.Proofs.YtppgccafgfpkdaaDoor
