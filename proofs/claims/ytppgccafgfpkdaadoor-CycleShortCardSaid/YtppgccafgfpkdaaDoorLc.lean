/- CycleShort: the law's walk. -/
import Derived.Test.YtppgccafgfpkdaaDoorLa
set_option maxRecDepth 100000
set_option linter.unusedVariables false
set_option linter.unusedSimpArgs false
namespace Go.Proofs.YtppgccafgfpkdaaDoor
open Go Go.Proofs Sp
set_option maxHeartbeats 20000000 in
theorem short_law {R : List HP} (n : Int) {beb : Option Addr} {ceb : Nat} (es : List (Int × Int)) (heb : Rd R beb (pairs es)) (okeb : SlOk beb es.length) (leb : es.length ≤ 9223372036854775807) (lceb : es.length ≤ ceb) (a b : Int) (hT : Tab R) :
    Ok Tryd.prog 8 [(.int .i64 n), (.slice beb es.length ceb), (.int .i64 a), (.int .i64 b)] R
      (fun v M => v = .bool true ∧ M = R) := by
  have hgk : GOk (clampN (min n 30)) (madeE (clampN (min n 30)) (es.take 100)) := GOk.made (clampN_le _) _
  have hcn := clampN_le (min n 30)
  refine ok_of (N := 57) Tryd.func8 rfl rfl rfl (fun W => ?_)
  refine c_seq (fun K1 hK1 => ?_)
  refine c_region ?_
  refine tp rfl (lv_assign rfl) ?_
  refine t_done ?_
  refine q_then_n (hK1 _ _ ?_)
  refine c_seq (fun K2 hK2 => ?_)
  refine c_region ?_
  refine tc rfl (en_fn Tryd.call9 rfl) (shown_ok hT) ?_
  rintro _ _ ⟨rfl, hMR⟩
  rw [hMR]; clear hMR
  refine tp rfl (lv_assign rfl) ?_
  refine t_done ?_
  refine q_then_n (hK2 _ _ ?_)
  refine c_seq (fun K3 hK3 => ?_)
  refine c_region ?_
  refine tp rfl (lv_move rfl) ?_
  refine tp rfl (lv_move rfl) ?_
  refine tc rfl (en_fn Tryd.call10 rfl) (made_ok n es heb (fun hz => okeb (by first | exact hz | omega)) (by first | omega | decide)) ?_
  rintro _ _ ⟨p1, rfl, rfl⟩
  refine tp rfl (lv_assign rfl) ?_
  refine t_done ?_
  refine q_then_n (hK3 _ _ ?_)
  refine c_seq (fun K4 hK4 => ?_)
  refine c_seq (fun K5 hK5 => ?_)
  refine c_region ?_
  refine tp rfl (lv_move rfl) ?_
  refine tp rfl (lv_eqnil Tryd.underlying24 rfl rfl) ?_
  refine t_done ?_
  refine q_then_n (hK5 _ _ ?_)
  refine c_false rfl ?_
  refine c_skip ?_
  refine q_then_n (hK4 _ _ ?_)
  refine c_seq (fun K6 hK6 => ?_)
  refine c_region ?_
  obtain ⟨EE, hEE⟩ : ∃ x, madeE (clampN (min n 30)) (es.take 100) = x := ⟨_, rfl⟩
  rw [hEE] at hgk ⊢
  obtain ⟨NN, hNN⟩ : ∃ x, clampN (min n 30) = x := ⟨_, rfl⟩
  rw [hNN] at hgk hcn ⊢
  refine tp rfl (lv_move rfl) ?_
  refine tp rfl (lv_move rfl) ?_
  refine tp rfl (lv_move rfl) ?_
  refine tc rfl (en_fn Tryd.call16 rfl) (path_ok (N := NN) (E := EE) a b) ?_
  rintro _ _ ⟨bs2, cp3, hok4, hle5, rfl, rfl⟩
  refine tp rfl (lv_assign rfl) ?_
  refine t_done ?_
  refine q_then_n (hK6 _ _ ?_)
  refine c_seq (fun K7 hK7 => ?_)
  refine c_seq (fun K8 hK8 => ?_)
  refine c_region ?_
  refine tp rfl (lv_assign rfl) ?_
  refine t_done ?_
  refine q_then_n (hK8 _ _ ?_)
  refine c_block ?_
  refine c_loop (γ := (Nat)) (fun (i : Nat) => i ≤ (pathL NN EE a b).length) (fun (i : Nat) => [(0, (.int .i64 n)), (1, (.slice beb es.length ceb)), (2, (.int .i64 a)), (3, (.int .i64 b)), (9, (.bool true)), (10, (.pointer (some ⟨p1, 0, none⟩))), (11, (.slice bs2 ((pathL NN EE a b).length) cp3)), (12, (.int .i64 ((i : Nat) : Int))), (19, (.bool false))]) (fun (i : Nat) => (SlV 3 1 (.slice bs2 ((pathL NN EE a b).length) cp3) ((pathL NN EE a b).length) (ints .i64 (pathL NN EE a b))) :: (GraphO p1 NN EE) :: R) (fun (i : Nat) => (pathL NN EE a b).length - i) (0) (by omega) ⟨rfl, rfl, rfl, rfl, rfl, rfl, rfl, rfl, rfl, trivial⟩ (fun _ h => h) ?_
  rintro i K9 hF hK9
  try dsimp only at hF hK9 ⊢
  have hpl := path_le hgk (a := a) (to := b)
  refine c_seq (fun K10 hK10 => ?_)
  refine c_seq (fun K11 hK11 => ?_)
  refine c_region ?_
  refine tp rfl (lv_move rfl) ?_
  refine tp rfl (lv_move rfl) ?_
  refine tp rfl (lv_len Tryd.underlying33 rfl rfl) ?_
  by_cases h6 : ((i : Nat) : Int) < (((pathL NN EE a b).length : Nat) : Int)
  · -- yes
    refine tp rfl (lv_lss rfl rfl (decide_eq_true h6)) ?_
    refine t_done ?_
    refine q_then_n (hK11 _ _ ?_)
    refine c_true rfl ?_
    refine c_skip ?_
    refine q_then_n (hK10 _ _ ?_)
    refine c_seq (fun K12 hK12 => ?_)
    refine c_block ?_
    refine c_seq (fun K13 hK13 => ?_)
    refine c_region ?_
    refine tp rfl (lv_move rfl) ?_
    refine tp rfl (lv_add (c := ((i + 2 : Nat) : Int)) rfl rfl ((wr_i64 (by omega) (by omega)).trans (by omega))) ?_
    refine tp rfl (lv_assign rfl) ?_
    refine t_done ?_
    refine q_then_n (hK13 _ _ ?_)
    refine c_block ?_
    refine c_loop (γ := (Nat)) (fun (k : Nat) => i + 2 ≤ k ∧ k ≤ (pathL NN EE a b).length + 2) (fun (k : Nat) => [(0, (.int .i64 n)), (1, (.slice beb es.length ceb)), (2, (.int .i64 a)), (3, (.int .i64 b)), (9, (.bool true)), (10, (.pointer (some ⟨p1, 0, none⟩))), (11, (.slice bs2 ((pathL NN EE a b).length) cp3)), (12, (.int .i64 ((i : Nat) : Int))), (13, (.int .i64 ((k : Nat) : Int))), (19, (.bool false)), (27, (.bool true))]) (fun (k : Nat) => (SlV 3 1 (.slice bs2 ((pathL NN EE a b).length) cp3) ((pathL NN EE a b).length) (ints .i64 (pathL NN EE a b))) :: (GraphO p1 NN EE) :: R) (fun (k : Nat) => (pathL NN EE a b).length + 2 - k) (i + 2) ⟨by omega, by omega⟩ ⟨rfl, rfl, rfl, rfl, rfl, rfl, rfl, rfl, rfl, rfl, rfl, trivial⟩ (fun _ h => h) ?_
    rintro k K14 hF hK14
    try dsimp only at hF hK14 ⊢
    obtain ⟨hk1, hk2⟩ := hF
    refine c_seq (fun K15 hK15 => ?_)
    refine c_seq (fun K16 hK16 => ?_)
    refine c_region ?_
    refine tp rfl (lv_move rfl) ?_
    refine tp rfl (lv_move rfl) ?_
    refine tp rfl (lv_len Tryd.underlying33 rfl rfl) ?_
    by_cases h7 : ((k : Nat) : Int) < (((pathL NN EE a b).length : Nat) : Int)
    · -- yes
      refine tp rfl (lv_lss rfl rfl (decide_eq_true h7)) ?_
      refine t_done ?_
      refine q_then_n (hK16 _ _ ?_)
      refine c_true rfl ?_
      refine c_skip ?_
      refine q_then_n (hK15 _ _ ?_)
      refine c_seq (fun K17 hK17 => ?_)
      refine c_block ?_
      refine c_seq (fun K18 hK18 => ?_)
      refine c_draw (γ := Unit) (n := 10) Tryd.mixed rfl rfl (fun _ S => True) (fun _ => [(0, 38, (.pointer (some ⟨p1, 0, none⟩))), (1, 39, (.slice bs2 ((pathL NN EE a b).length) cp3)), (2, 40, (.int .i64 ((i : Nat) : Int))), (3, 41, (.pointer (some (ad bs2 i)))), (4, 42, (.int .i64 ((pathL NN EE a b).getD i 0))), (5, 43, (.slice bs2 ((pathL NN EE a b).length) cp3)), (6, 44, (.int .i64 ((k : Nat) : Int))), (7, 45, (.pointer (some (ad bs2 k)))), (8, 46, (.int .i64 ((pathL NN EE a b).getD k 0))), (9, 47, (.bool false))]) (fun _ S => (SlV 3 1 (.slice bs2 ((pathL NN EE a b).length) cp3) ((pathL NN EE a b).length) (ints .i64 (pathL NN EE a b))) :: (GraphO p1 NN EE) :: R) (()) trivial (fun _ h => h) (fun _ _ h => h) ?_ ?_
      · -- steps
        refine ⟨?_, ?_, ?_, ?_, ?_, ?_, ?_, ?_, ?_, ?_, trivial⟩
        · -- 0
         rintro _ S hF hS D hp K hK
         try dsimp only at hF ⊢
         refine d_need (small := [(10, (.pointer (some ⟨p1, 0, none⟩)))]) ⟨look_b rfl rfl, trivial⟩ ?_
         refine tp rfl (lv_move rfl) ?_
         exact d_closes ⟨look_b rfl rfl, trivial⟩ 0 rfl rfl rfl hS (AgreeR.refl _) (t_sat (fun _ h => h) (hK () trivial))
        · -- 1
         rintro _ S hF hS D hp K hK
         try dsimp only at hF ⊢
         refine d_need (small := [(11, (.slice bs2 ((pathL NN EE a b).length) cp3))]) ⟨look_b rfl rfl, trivial⟩ ?_
         refine tp rfl (lv_move rfl) ?_
         exact d_closes ⟨look_b rfl rfl, trivial⟩ 1 rfl rfl rfl hS (AgreeR.refl _) (t_sat (fun _ h => h) (hK () trivial))
        · -- 2
         rintro _ S hF hS D hp K hK
         try dsimp only at hF ⊢
         refine d_need (small := [(12, (.int .i64 ((i : Nat) : Int)))]) ⟨look_b rfl rfl, trivial⟩ ?_
         refine tp rfl (lv_move rfl) ?_
         exact d_closes ⟨look_b rfl rfl, trivial⟩ 2 rfl rfl rfl hS (AgreeR.refl _) (t_sat (fun _ h => h) (hK () trivial))
        · -- 3
         rintro _ S hF hS D hp K hK
         try dsimp only at hF ⊢
         have s1 := hp 1 rfl
         have s2 := hp 2 rfl
         refine d_need (small := [(39, (.slice bs2 ((pathL NN EE a b).length) cp3)), (40, (.int .i64 ((i : Nat) : Int)))]) ⟨look_row rfl 1 rfl s1, look_row rfl 2 rfl s2, trivial⟩ ?_
         refine tp rfl (lv_indexAddr (k' := i) Tryd.underlying33 Tryd.sizeOf3 rfl rfl hok4 (by omega) (by omega) (by omega)) ?_
         exact d_closes ⟨look_row rfl 1 rfl s1, look_row rfl 2 rfl s2, trivial⟩ 3 rfl rfl rfl hS (AgreeR.refl _) (t_sat (fun _ h => h) (hK () trivial))
        · -- 4
         rintro _ S hF hS D hp K hK
         try dsimp only at hF ⊢
         have s3 := hp 3 rfl
         refine d_need (small := [(41, (.pointer (some (ad bs2 i))))]) ⟨look_row rfl 3 rfl s3, trivial⟩ ?_
         refine tp rfl (lv_load Tryd.isAgg3 rfl (gives_sl (.head _) (ints_get (by omega)))) ?_
         exact d_closes ⟨look_row rfl 3 rfl s3, trivial⟩ 4 rfl rfl rfl hS (AgreeR.refl _) (t_sat (fun _ h => h) (hK () trivial))
        · -- 5
         rintro _ S hF hS D hp K hK
         try dsimp only at hF ⊢
         refine d_need (small := [(11, (.slice bs2 ((pathL NN EE a b).length) cp3))]) ⟨look_b rfl rfl, trivial⟩ ?_
         refine tp rfl (lv_move rfl) ?_
         exact d_closes ⟨look_b rfl rfl, trivial⟩ 5 rfl rfl rfl hS (AgreeR.refl _) (t_sat (fun _ h => h) (hK () trivial))
        · -- 6
         rintro _ S hF hS D hp K hK
         try dsimp only at hF ⊢
         refine d_need (small := [(13, (.int .i64 ((k : Nat) : Int)))]) ⟨look_b rfl rfl, trivial⟩ ?_
         refine tp rfl (lv_move rfl) ?_
         exact d_closes ⟨look_b rfl rfl, trivial⟩ 6 rfl rfl rfl hS (AgreeR.refl _) (t_sat (fun _ h => h) (hK () trivial))
        · -- 7
         rintro _ S hF hS D hp K hK
         try dsimp only at hF ⊢
         have s5 := hp 5 rfl
         have s6 := hp 6 rfl
         refine d_need (small := [(43, (.slice bs2 ((pathL NN EE a b).length) cp3)), (44, (.int .i64 ((k : Nat) : Int)))]) ⟨look_row rfl 5 rfl s5, look_row rfl 6 rfl s6, trivial⟩ ?_
         refine tp rfl (lv_indexAddr (k' := k) Tryd.underlying33 Tryd.sizeOf3 rfl rfl hok4 (by omega) (by omega) (by omega)) ?_
         exact d_closes ⟨look_row rfl 5 rfl s5, look_row rfl 6 rfl s6, trivial⟩ 7 rfl rfl rfl hS (AgreeR.refl _) (t_sat (fun _ h => h) (hK () trivial))
        · -- 8
         rintro _ S hF hS D hp K hK
         try dsimp only at hF ⊢
         have s7 := hp 7 rfl
         refine d_need (small := [(45, (.pointer (some (ad bs2 k))))]) ⟨look_row rfl 7 rfl s7, trivial⟩ ?_
         refine tp rfl (lv_load Tryd.isAgg3 rfl (gives_sl (.head _) (ints_get (by omega)))) ?_
         exact d_closes ⟨look_row rfl 7 rfl s7, trivial⟩ 8 rfl rfl rfl hS (AgreeR.refl _) (t_sat (fun _ h => h) (hK () trivial))
        · -- 9
         rintro _ S hF hS D hp K hK
         try dsimp only at hF ⊢
         have s0 := hp 0 rfl
         have s4 := hp 4 rfl
         have s8 := hp 8 rfl
         refine d_need (small := [(38, (.pointer (some ⟨p1, 0, none⟩))), (42, (.int .i64 ((pathL NN EE a b).getD i 0))), (46, (.int .i64 ((pathL NN EE a b).getD k 0)))]) ⟨look_row rfl 0 rfl s0, look_row rfl 4 rfl s4, look_row rfl 8 rfl s8, trivial⟩ ?_
         refine t_f1 ?_
         refine tc rfl (en_fn Tryd.call24 rfl) (hasE_ok (N := NN) (es := EE) ((pathL NN EE a b).getD i 0) ((pathL NN EE a b).getD k 0)) ?_
         rintro _ _ ⟨rfl, rfl⟩
         rw [show hasE EE ((pathL NN EE a b).getD i 0, (pathL NN EE a b).getD k 0) = false from (path_short (by omega) (by omega))]
         refine t_f1 ?_
         exact d_closes ⟨look_row rfl 0 rfl s0, look_row rfl 4 rfl s4, look_row rfl 8 rfl s8, trivial⟩ 9 rfl rfl rfl hS (AgreeR.refl _) (t_sat (fun _ h => h) (hK () trivial))
      · -- behind
        rintro _ hF
        try dsimp only at hF ⊢
        refine t_weak (E' := [(0, (.int .i64 n)), (1, (.slice beb es.length ceb)), (2, (.int .i64 a)), (3, (.int .i64 b)), (9, (.bool true)), (10, (.pointer (some ⟨p1, 0, none⟩))), (11, (.slice bs2 ((pathL NN EE a b).length) cp3)), (12, (.int .i64 ((i : Nat) : Int))), (13, (.int .i64 ((k : Nat) : Int))), (19, (.bool false)), (27, (.bool true)), (35, (.bool true)), (47, (.bool false))]) ⟨rfl, rfl, rfl, rfl, rfl, rfl, rfl, rfl, rfl, rfl, rfl, rfl, rfl, trivial⟩ ?_
        refine q_then_n (hK18 _ _ ?_)
        refine c_false rfl ?_
        refine c_skip ?_
        refine q_in_n ?_
        refine q_then_n (hK17 _ _ ?_)
        refine c_region ?_
        refine tp rfl (lv_move rfl) ?_
        refine tp rfl (lv_add (c := ((k + 1 : Nat) : Int)) rfl rfl (wr_i64_succ (by omega))) ?_
        refine tp rfl (lv_assign rfl) ?_
        refine t_done ?_
        refine q_then_n ?_
        exact t_weak (by exact ⟨rfl, rfl, rfl, rfl, rfl, rfl, rfl, rfl, rfl, rfl, rfl, trivial⟩) ((hK14 (k + 1) ⟨by omega, by omega⟩ (by omega)))
    · -- no
      refine tp rfl (lv_lss rfl rfl (decide_eq_false h7)) ?_
      refine t_done ?_
      refine q_then_n (hK16 _ _ ?_)
      refine c_false rfl ?_
      refine c_exit ?_
      refine q_then_x ?_
      refine q_then_x ?_
      refine q_in_x ?_
      refine q_in_n ?_
      refine q_then_n (hK12 _ _ ?_)
      refine c_region ?_
      refine tp rfl (lv_move rfl) ?_
      refine tp rfl (lv_add (c := ((i + 1 : Nat) : Int)) rfl rfl (wr_i64_succ (by omega))) ?_
      refine tp rfl (lv_assign rfl) ?_
      refine t_done ?_
      refine q_then_n ?_
      exact t_weak (by exact ⟨rfl, rfl, rfl, rfl, rfl, rfl, rfl, rfl, rfl, trivial⟩) ((hK9 (i + 1) (by omega) (by omega)))
  · -- no
    refine tp rfl (lv_lss rfl rfl (decide_eq_false h6)) ?_
    refine t_done ?_
    refine q_then_n (hK11 _ _ ?_)
    refine c_false rfl ?_
    refine c_exit ?_
    refine q_then_x ?_
    refine q_then_x ?_
    refine q_in_x ?_
    refine q_then_n (hK7 _ _ ?_)
    refine c_seq (fun K12 hK12 => ?_)
    refine c_region ?_
    refine tp rfl (lv_move rfl) ?_
    refine tp rfl (lv_move rfl) ?_
    refine t_guard rfl rfl ?_
    refine tp rfl (lv_move rfl) ?_
    refine t_guard rfl rfl ?_
    refine tp rfl (lv_len Tryd.underlying33 rfl rfl) ?_
    refine t_guard rfl rfl ?_
    refine tp rfl (lv_move rfl) ?_
    refine t_guard rfl rfl ?_
    refine t_f1 ?_
    refine tc rfl (en_fn Tryd.call21 rfl) (n_ok) ?_
    rintro _ _ ⟨rfl, rfl⟩
    refine t_guard rfl rfl ?_
    refine tp rfl (lv_max (c := ((NN : Nat) : Int)) rfl rfl (by omega)) ?_
    refine t_guard rfl rfl ?_
    refine tp rfl (lv_leq rfl rfl (decide_eq_true (by have hpl := path_le hgk (a := a) (to := b); omega))) ?_
    refine tp rfl (lv_pick_t rfl rfl) ?_
    refine tp rfl (lv_assign rfl) ?_
    refine t_done ?_
    refine q_then_n (hK12 _ _ ?_)
    refine c_ret ?_
    refine t_drop ?_
    refine t_drop ?_
    refine q_ret rfl rfl ?_
    exact ⟨rfl, rfl⟩
end Go.Proofs.YtppgccafgfpkdaaDoor
