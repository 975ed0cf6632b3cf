/- CycleTells: the law's walk. -/
import Derived.Test.YtppgccafgfpkdaaDoorRt
import Derived.Test.YtppgccafgfpkdaaDoorRu
import Derived.Test.YtppgccafgfpkdaaDoorRv
set_option maxRecDepth 100000
set_option linter.unusedVariables false
set_option linter.unusedSimpArgs false
namespace Go.Proofs.YtppgccafgfpkdaaDoor
open Go Go.Proofs Sp
set_option maxHeartbeats 20000000 in
theorem tells_law {R : List HP} (n : Int) {beb : Option Addr} {ceb : Nat} (es : List (Int × Int)) (heb : Rd R beb (pairs es)) (okeb : SlOk beb es.length) (leb : es.length ≤ 9223372036854775807) (lceb : es.length ≤ ceb) (a b : Int) (hT : Tab R) :
    Ok Tryd.prog 3 [(.int .i64 n), (.slice beb es.length ceb), (.int .i64 a), (.int .i64 b)] R
      (fun v M => v = .bool true ∧ M = R) := by
  refine ok_of (N := 98) Tryd.func3 rfl rfl rfl (fun W => ?_)
  refine c_seq (fun K1 hK1 => ?_)
  refine c_region ?_
  refine tp rfl (lv_assign rfl) ?_
  refine t_done ?_
  refine q_then_n (hK1 _ _ ?_)
  refine c_seq (fun K2 hK2 => ?_)
  refine c_region ?_
  refine tc rfl (en_fn Tryd.call9 rfl) (shown_ok hT) ?_
  rintro _ _ ⟨rfl, hMR⟩
  rw [hMR]; clear hMR
  refine tp rfl (lv_assign rfl) ?_
  refine t_done ?_
  refine q_then_n (hK2 _ _ ?_)
  refine c_seq (fun K3 hK3 => ?_)
  refine c_region ?_
  refine tp rfl (lv_move rfl) ?_
  refine tp rfl (lv_move rfl) ?_
  refine tc rfl (en_fn Tryd.call10 rfl) (made_ok n es heb (fun hz => okeb (by first | exact hz | omega)) (by first | omega | decide)) ?_
  rintro _ _ ⟨p1, rfl, rfl⟩
  refine tp rfl (lv_assign rfl) ?_
  refine t_done ?_
  refine q_then_n (hK3 _ _ ?_)
  refine c_seq (fun K4 hK4 => ?_)
  refine c_region ?_
  refine tp rfl (lv_move rfl) ?_
  refine tp rfl (lv_min (c := min n 30) rfl rfl rfl) ?_
  refine tc rfl (en_fn Tryd.call11 rfl) (rnew_ok (min n 30)) ?_
  rintro _ _ ⟨p2, rfl, rfl⟩
  refine tp rfl (lv_assign rfl) ?_
  refine t_done ?_
  refine q_then_n (hK4 _ _ ?_)
  refine c_seq (fun K5 hK5 => ?_)
  refine c_seq (fun K6 hK6 => ?_)
  refine c_region ?_
  refine tp rfl (lv_move rfl) ?_
  refine tp rfl (lv_eqnil Tryd.underlying24 rfl rfl) ?_
  refine t_done ?_
  refine q_then_n (hK6 _ _ ?_)
  refine c_false rfl ?_
  refine c_skip ?_
  refine q_then_n (hK5 _ _ ?_)
  refine c_seq (fun K7 hK7 => ?_)
  refine c_seq (fun K8 hK8 => ?_)
  refine c_region ?_
  refine tp rfl (lv_assign rfl) ?_
  refine t_done ?_
  refine q_then_n (hK8 _ _ ?_)
  refine c_block ?_
  refine c_loop (γ := (Nat)) (fun (k : Nat) => k ≤ es.length ∧ k ≤ 100) (fun (k : Nat) => [(0, (.int .i64 n)), (1, (.slice beb es.length ceb)), (2, (.int .i64 a)), (3, (.int .i64 b)), (8, (.bool false)), (9, (.bool true)), (10, (.pointer (some ⟨p1, 0, none⟩))), (11, (.pointer (some ⟨p2, 0, none⟩))), (12, (.int .i64 ((k : Nat) : Int))), (25, (.bool false))]) (fun (k : Nat) => (RefO p2 (clampN (min n 30)) (madeE (clampN (min n 30)) (es.take k))) :: (GraphO p1 (clampN (min n 30)) (madeE (clampN (min n 30)) (es.take 100))) :: R) (fun (k : Nat) => es.length - k) (0) ⟨by omega, by omega⟩ ⟨rfl, rfl, rfl, rfl, rfl, rfl, rfl, rfl, rfl, rfl, trivial⟩ (fun _ h => h) ?_
  rintro k K9 hF hK9
  try dsimp only at hF hK9 ⊢
  obtain ⟨hk, hk2⟩ := hF
  have hE : (madeE (clampN (min n 30)) (es.take k)).length ≤ 1000 := by have := madeE_len (clampN (min n 30)) (es.take k); have h2 : (es.take k).length ≤ k := (by rw [List.length_take]; omega); omega
  have hg : GOk (clampN (min n 30)) (madeE (clampN (min n 30)) (es.take k)) := GOk.made (clampN_le _) _
  refine c_seq (fun K10 hK10 => ?_)
  refine c_seq (fun K11 hK11 => ?_)
  refine c_region ?_
  by_cases hc3 : ((k : Nat) : Int) < ((es.length : Nat) : Int) ∧ ((k : Nat) : Int) < 100
  · -- both
    have hc3a := hc3.1
    have hc3b := hc3.2
    refine tp rfl (lv_move rfl) ?_
    refine tp rfl (lv_move rfl) ?_
    refine tp rfl (lv_len Tryd.underlying22 rfl rfl) ?_
    refine tp rfl (lv_lss rfl rfl (decide_eq_true hc3.1)) ?_
    refine tp rfl (lv_move rfl) ?_
    refine t_guard rfl rfl ?_
    refine tp rfl (lv_move rfl) ?_
    refine t_guard rfl rfl ?_
    refine tp rfl (lv_lss rfl rfl (decide_eq_true hc3.2)) ?_
    refine tp rfl (lv_pick_t rfl rfl) ?_
    refine t_done ?_
    refine q_then_n (hK11 _ _ ?_)
    refine c_true rfl ?_
    refine c_skip ?_
    refine q_then_n (hK10 _ _ ?_)
    refine c_seq (fun K12 hK12 => ?_)
    refine c_block ?_
    refine c_draw (γ := Unit) (n := 12) Tryd.mixed rfl rfl (fun _ S => True) (fun _ => [(0, 36, (.pointer (some ⟨p2, 0, none⟩))), (1, 37, (.slice beb es.length ceb)), (2, 38, (.int .i64 ((k : Nat) : Int))), (3, 39, (.pointer (some (ad beb (k * 2))))), (4, 40, (.pointer (some (ad beb (k * 2))))), (5, 41, (.int .i64 (((es).getD k (0, 0)).1))), (6, 42, (.slice beb es.length ceb)), (7, 43, (.int .i64 ((k : Nat) : Int))), (8, 44, (.pointer (some (ad beb (k * 2))))), (9, 45, (.pointer (some (ad beb (k * 2 + 1))))), (10, 46, (.int .i64 (((es).getD k (0, 0)).2))), (11, 47, (.tuple #[(.bool (isNew (clampN (min n 30)) (madeE (clampN (min n 30)) (es.take k)) (((es).getD k (0, 0)).1) (((es).getD k (0, 0)).2))), (.int .i64 (addErr (clampN (min n 30)) (((es).getD k (0, 0)).1) (((es).getD k (0, 0)).2)))]))]) (fun _ S => (bif S 11 then (RefO p2 (clampN (min n 30)) (addE (clampN (min n 30)) (madeE (clampN (min n 30)) (es.take k)) (((es).getD k (0, 0)).1) (((es).getD k (0, 0)).2))) else (RefO p2 (clampN (min n 30)) (madeE (clampN (min n 30)) (es.take k)))) :: (GraphO p1 (clampN (min n 30)) (madeE (clampN (min n 30)) (es.take 100))) :: R) (()) trivial (fun _ h => h) (fun _ _ h => h) ?_ ?_
    · -- steps
      refine ⟨?_, ?_, ?_, ?_, ?_, ?_, ?_, ?_, ?_, ?_, ?_, ?_, trivial⟩
      · -- 0
        rintro _ S hF hS D hp K hK
        try dsimp only at hF ⊢
        refine d_need (small := [(11, (.pointer (some ⟨p2, 0, none⟩)))]) ⟨look_b rfl rfl, trivial⟩ ?_
        refine tp rfl (lv_move rfl) ?_
        exact d_closes ⟨look_b rfl rfl, trivial⟩ 0 rfl rfl rfl hS (AgreeR.refl _) (t_sat (fun _ h => h) (hK () trivial))
      · -- 1
        rintro _ S hF hS D hp K hK
        try dsimp only at hF ⊢
        refine d_need (small := [(1, (.slice beb es.length ceb))]) ⟨look_b rfl rfl, trivial⟩ ?_
        refine tp rfl (lv_move rfl) ?_
        exact d_closes ⟨look_b rfl rfl, trivial⟩ 1 rfl rfl rfl hS (AgreeR.refl _) (t_sat (fun _ h => h) (hK () trivial))
      · -- 2
        rintro _ S hF hS D hp K hK
        try dsimp only at hF ⊢
        refine d_need (small := [(12, (.int .i64 ((k : Nat) : Int)))]) ⟨look_b rfl rfl, trivial⟩ ?_
        refine tp rfl (lv_move rfl) ?_
        exact d_closes ⟨look_b rfl rfl, trivial⟩ 2 rfl rfl rfl hS (AgreeR.refl _) (t_sat (fun _ h => h) (hK () trivial))
      · -- 3
        rintro _ S hF hS D hp K hK
        try dsimp only at hF ⊢
        have s1 := hp 1 rfl
        have s2 := hp 2 rfl
        refine d_need (small := [(37, (.slice beb es.length ceb)), (38, (.int .i64 ((k : Nat) : Int)))]) ⟨look_row rfl 1 rfl s1, look_row rfl 2 rfl s2, trivial⟩ ?_
        refine tp rfl (lv_indexAddr (k' := k * 2) Tryd.underlying22 Tryd.sizeOf32 rfl rfl okeb (by omega) (by omega) (by omega)) ?_
        exact d_closes ⟨look_row rfl 1 rfl s1, look_row rfl 2 rfl s2, trivial⟩ 3 rfl rfl rfl hS (AgreeR.refl _) (t_sat (fun _ h => h) (hK () trivial))
      · -- 4
        rintro _ S hF hS D hp K hK
        try dsimp only at hF ⊢
        have s3 := hp 3 rfl
        refine d_need (small := [(39, (.pointer (some (ad beb (k * 2)))))]) ⟨look_row rfl 3 rfl s3, trivial⟩ ?_
        refine tp rfl (lv_fieldAddr_ad (o' := k * 2) Tryd.underlying32 rfl Tryd.sizeOf3 rfl rfl) ?_
        exact d_closes ⟨look_row rfl 3 rfl s3, trivial⟩ 4 rfl rfl rfl hS (AgreeR.refl _) (t_sat (fun _ h => h) (hK () trivial))
      · -- 5
        rintro _ S hF hS D hp K hK
        try dsimp only at hF ⊢
        have s4 := hp 4 rfl
        refine d_need (small := [(40, (.pointer (some (ad beb (k * 2)))))]) ⟨look_row rfl 4 rfl s4, trivial⟩ ?_
        refine tp rfl (lv_load Tryd.isAgg3 rfl (Rd.gives (Rd.cons (Rd.cons heb)) (pairs_get0 (by omega)))) ?_
        exact d_closes ⟨look_row rfl 4 rfl s4, trivial⟩ 5 rfl rfl rfl hS (AgreeR.refl _) (t_sat (fun _ h => h) (hK () trivial))
      · -- 6
        rintro _ S hF hS D hp K hK
        try dsimp only at hF ⊢
        refine d_need (small := [(1, (.slice beb es.length ceb))]) ⟨look_b rfl rfl, trivial⟩ ?_
        refine tp rfl (lv_move rfl) ?_
        exact d_closes ⟨look_b rfl rfl, trivial⟩ 6 rfl rfl rfl hS (AgreeR.refl _) (t_sat (fun _ h => h) (hK () trivial))
      · -- 7
        rintro _ S hF hS D hp K hK
        try dsimp only at hF ⊢
        refine d_need (small := [(12, (.int .i64 ((k : Nat) : Int)))]) ⟨look_b rfl rfl, trivial⟩ ?_
        refine tp rfl (lv_move rfl) ?_
        exact d_closes ⟨look_b rfl rfl, trivial⟩ 7 rfl rfl rfl hS (AgreeR.refl _) (t_sat (fun _ h => h) (hK () trivial))
      · -- 8
        rintro _ S hF hS D hp K hK
        try dsimp only at hF ⊢
        have s6 := hp 6 rfl
        have s7 := hp 7 rfl
        refine d_need (small := [(42, (.slice beb es.length ceb)), (43, (.int .i64 ((k : Nat) : Int)))]) ⟨look_row rfl 6 rfl s6, look_row rfl 7 rfl s7, trivial⟩ ?_
        refine tp rfl (lv_indexAddr (k' := k * 2) Tryd.underlying22 Tryd.sizeOf32 rfl rfl okeb (by omega) (by omega) (by omega)) ?_
        exact d_closes ⟨look_row rfl 6 rfl s6, look_row rfl 7 rfl s7, trivial⟩ 8 rfl rfl rfl hS (AgreeR.refl _) (t_sat (fun _ h => h) (hK () trivial))
      · -- 9
        rintro _ S hF hS D hp K hK
        try dsimp only at hF ⊢
        have s8 := hp 8 rfl
        refine d_need (small := [(44, (.pointer (some (ad beb (k * 2)))))]) ⟨look_row rfl 8 rfl s8, trivial⟩ ?_
        refine tp rfl (lv_fieldAddr_ad (o' := k * 2 + 1) Tryd.underlying32 rfl Tryd.sizeOf3 rfl rfl) ?_
        exact d_closes ⟨look_row rfl 8 rfl s8, trivial⟩ 9 rfl rfl rfl hS (AgreeR.refl _) (t_sat (fun _ h => h) (hK () trivial))
      · -- 10
        rintro _ S hF hS D hp K hK
        try dsimp only at hF ⊢
        have s9 := hp 9 rfl
        refine d_need (small := [(45, (.pointer (some (ad beb (k * 2 + 1)))))]) ⟨look_row rfl 9 rfl s9, trivial⟩ ?_
        refine tp rfl (lv_load Tryd.isAgg3 rfl (Rd.gives (Rd.cons (Rd.cons heb)) (pairs_get1 (by omega)))) ?_
        exact d_closes ⟨look_row rfl 9 rfl s9, trivial⟩ 10 rfl rfl rfl hS (AgreeR.refl _) (t_sat (fun _ h => h) (hK () trivial))
      · -- 11
        rintro _ S hF hS D hp K hK
        try dsimp only at hF ⊢
        have s0 := hp 0 rfl
        have s5 := hp 5 rfl
        have s10 := hp 10 rfl
        refine d_need (small := [(36, (.pointer (some ⟨p2, 0, none⟩))), (41, (.int .i64 (((es).getD k (0, 0)).1))), (46, (.int .i64 (((es).getD k (0, 0)).2)))]) ⟨look_row rfl 0 rfl s0, look_row rfl 5 rfl s5, look_row rfl 10 rfl s10, trivial⟩ ?_
        refine t_cF hS ?_
        refine tc rfl (en_fn Tryd.call12 rfl) (radd_ok (N := clampN (min n 30)) (es := madeE (clampN (min n 30)) (es.take k)) (((es).getD k (0, 0)).1) (((es).getD k (0, 0)).2) (by omega)) ?_
        rintro _ _ ⟨rfl, rfl⟩
        exact d_closes ⟨look_row rfl 0 rfl s0, look_row rfl 5 rfl s5, look_row rfl 10 rfl s10, trivial⟩ 11 rfl rfl rfl hS (AgreeR.refl _) (t_sat (fun _ h => h) (hK () trivial))
    · -- behind
      rintro _ hF
      try dsimp only at hF ⊢
      refine t_weak (E' := [(0, (.int .i64 n)), (1, (.slice beb es.length ceb)), (2, (.int .i64 a)), (3, (.int .i64 b)), (8, (.bool false)), (9, (.bool true)), (10, (.pointer (some ⟨p1, 0, none⟩))), (11, (.pointer (some ⟨p2, 0, none⟩))), (12, (.int .i64 ((k : Nat) : Int))), (25, (.bool false)), (33, (.bool true))]) ⟨rfl, rfl, rfl, rfl, rfl, rfl, rfl, rfl, rfl, rfl, rfl, trivial⟩ ?_
      refine q_in_n ?_
      refine q_then_n (hK12 _ _ ?_)
      refine c_region ?_
      refine tp rfl (lv_move rfl) ?_
      refine tp rfl (lv_add (c := ((k + 1 : Nat) : Int)) rfl rfl (wr_i64_succ (by omega))) ?_
      refine tp rfl (lv_assign rfl) ?_
      refine t_done ?_
      refine q_then_n ?_
      rw [show addE (clampN (min n 30)) (madeE (clampN (min n 30)) (es.take k)) (((es).getD k (0, 0)).1) (((es).getD k (0, 0)).2) = madeE (clampN (min n 30)) (es.take (k + 1)) from (madeE_succ (by omega)).symm]
      exact t_weak (by exact ⟨rfl, rfl, rfl, rfl, rfl, rfl, rfl, rfl, rfl, rfl, trivial⟩) ((hK9 (k + 1) ⟨by omega, by omega⟩ (by omega)))
  · -- not both
    refine t_cut0 (E' := [(0, (.int .i64 n)), (1, (.slice beb es.length ceb)), (2, (.int .i64 a)), (3, (.int .i64 b)), (8, (.bool false)), (9, (.bool true)), (10, (.pointer (some ⟨p1, 0, none⟩))), (11, (.pointer (some ⟨p2, 0, none⟩))), (12, (.int .i64 ((k : Nat) : Int))), (25, (.bool false)), (33, (.bool false))]) ?_ (fun KK hKK => ?_)
    ·
      refine q_then_n (hK11 _ _ ?_)
      refine c_false rfl ?_
      refine c_exit ?_
      refine q_then_x ?_
      refine q_then_x ?_
      refine q_in_x ?_
      refine q_then_n (hK7 _ _ ?_)
      refine c_seq (fun K12 hK12 => ?_)
      refine c_region ?_
      rw [show es.take k = es.take 100 from take_end (by omega)] at hE hg ⊢
      obtain ⟨EE, hEE⟩ : ∃ x, madeE (clampN (min n 30)) (es.take 100) = x := ⟨_, rfl⟩
      rw [hEE] at hE hg ⊢
      obtain ⟨NN, hNN⟩ : ∃ x, clampN (min n 30) = x := ⟨_, rfl⟩
      rw [hNN] at hg ⊢
      have hcn : NN ≤ 64 := hg.small
      refine t_openR (fun bs4 cp5 hok6 hle7 => ?_)
      have h1 := path_le hg (a := a) (to := b)
      have h2 := path_le hg (a := b) (to := a)
      have h3 := onL_le NN EE
      have h4 := (ordR_ok NN EE).le
      refine tp rfl (lv_move rfl) ?_
      refine t_f2 ?_
      refine tc rfl (en_fn Tryd.call13 rfl) (order_ok (N := NN) (E := EE)) ?_
      rintro _ _ ⟨bs8, cp9, hok10, hle11, rfl, rfl⟩
      refine tp rfl (lv_move rfl) ?_
      refine tp rfl (lv_extract rfl rfl) ?_
      refine tp rfl (lv_extract rfl rfl) ?_
      refine tp rfl (lv_assign rfl) ?_
      refine tp rfl (lv_assign rfl) ?_
      refine t_done ?_
      refine q_then_n (hK12 _ _ ?_)
      refine c_seq (fun K13 hK13 => ?_)
      refine c_region ?_
      refine tp rfl (lv_move rfl) ?_
      refine t_f3 ?_
      refine t_f3 ?_
      refine tc rfl (en_fn Tryd.call14 rfl) (rorder_ok (N := NN) (es := EE) hok6 hE hg) ?_
      rintro _ _ ⟨bs12, cp13, hok14, hle15, rfl, rfl⟩
      refine tp rfl (lv_move rfl) ?_
      refine tp rfl (lv_extract rfl rfl) ?_
      refine tp rfl (lv_extract rfl rfl) ?_
      refine tp rfl (lv_assign rfl) ?_
      refine tp rfl (lv_assign rfl) ?_
      refine t_done ?_
      refine q_then_n (hK13 _ _ ?_)
      refine c_seq (fun K14 hK14 => ?_)
      refine c_region ?_
      refine tp rfl (lv_move rfl) ?_
      refine tp rfl (lv_move rfl) ?_
      refine t_guard rfl rfl ?_
      refine tp rfl (lv_move rfl) ?_
      refine t_guard rfl rfl ?_
      refine tp rfl (lv_move rfl) ?_
      refine t_guard rfl rfl ?_
      refine tp rfl (lv_move rfl) ?_
      refine t_guard rfl rfl ?_
      refine t_f4 ?_
      refine tc rfl (en_fn Tryd.call16 rfl) (path_ok (N := NN) (E := EE) a b) ?_
      rintro _ _ ⟨bs16, cp17, hok18, hle19, rfl, rfl⟩
      refine t_guard rfl rfl ?_
      refine tp rfl (lv_move rfl) ?_
      refine t_guard rfl rfl ?_
      refine tp rfl (lv_move rfl) ?_
      refine t_guard rfl rfl ?_
      refine tp rfl (lv_move rfl) ?_
      refine t_guard rfl rfl ?_
      refine t_f4 ?_
      refine t_f4 ?_
      refine tc rfl (en_fn Tryd.call17 rfl) (rpath_ok (N := NN) (es := EE) a b hok6 hE hg) ?_
      rintro _ _ ⟨bs20, cp21, hok22, hle23, rfl, rfl⟩
      refine t_guard rfl rfl ?_
      refine tc rfl (en_fn Tryd.call15 rfl) (ints_ok (pathL NN EE a b) (pathL NN EE a b) (rd_sl (.tail _ (.tail _ (.tail _ (.head _))))) (rd_sl (.head _)) hok18 hok22 (by first | omega | (simp; omega) | (simp; done)) (by first | omega | (simp; omega) | (simp; done))) ?_
      rintro _ _ ⟨rfl, rfl⟩
      rw [eqI_refl]
      refine tp rfl (lv_pick_t rfl rfl) ?_
      refine tp rfl (lv_move rfl) ?_
      refine t_guard rfl rfl ?_
      refine tp rfl (lv_move rfl) ?_
      refine t_guard rfl rfl ?_
      refine tp rfl (lv_move rfl) ?_
      refine t_guard rfl rfl ?_
      refine tp rfl (lv_move rfl) ?_
      refine t_guard rfl rfl ?_
      refine t_f4 ?_
      refine tc rfl (en_fn Tryd.call18 rfl) (closes_ok (N := NN) (E := EE) a b) ?_
      rintro _ _ ⟨bs24, cp25, hok26, hle27, rfl, rfl⟩
      refine t_guard rfl rfl ?_
      refine tp rfl (lv_move rfl) ?_
      refine t_guard rfl rfl ?_
      refine tp rfl (lv_move rfl) ?_
      refine t_guard rfl rfl ?_
      refine tp rfl (lv_move rfl) ?_
      refine t_guard rfl rfl ?_
      refine t_f4 ?_
      refine t_f4 ?_
      refine tc rfl (en_fn Tryd.call17 rfl) (rpath_ok (N := NN) (es := EE) b a hok6 hE hg) ?_
      rintro _ _ ⟨bs28, cp29, hok30, hle31, rfl, rfl⟩
      refine t_guard rfl rfl ?_
      refine tc rfl (en_fn Tryd.call15 rfl) (ints_ok (pathL NN EE b a) (pathL NN EE b a) (rd_sl (.tail _ (.tail _ (.tail _ (.head _))))) (rd_sl (.head _)) hok26 hok30 (by first | omega | (simp; omega) | (simp; done)) (by first | omega | (simp; omega) | (simp; done))) ?_
      rintro _ _ ⟨rfl, rfl⟩
      rw [eqI_refl]
      refine tp rfl (lv_pick_t rfl rfl) ?_
      refine tp rfl (lv_move rfl) ?_
      refine t_guard rfl rfl ?_
      refine tp rfl (lv_move rfl) ?_
      refine t_guard rfl rfl ?_
      refine t_f4 ?_
      refine tc rfl (en_fn Tryd.call19 rfl) (on_ok (N := NN) (E := EE)  (Tab.cons (Tab.cons (Tab.cons (Tab.cons (Tab.cons (Tab.cons (Tab.cons (Tab.cons hT))))))))) ?_
      rintro _ _ ⟨bs32, cp33, hok34, hle35, rfl, rfl⟩
      refine t_guard rfl rfl ?_
      refine tp rfl (lv_move rfl) ?_
      refine t_guard rfl rfl ?_
      refine t_f4 ?_
      refine t_f4 ?_
      refine tc rfl (en_fn Tryd.call20 rfl) (ron_ok (N := NN) (es := EE) hok6 hE hg) ?_
      rintro _ _ ⟨bs36, cp37, hok38, hle39, rfl, rfl⟩
      refine t_guard rfl rfl ?_
      refine tc rfl (en_fn Tryd.call15 rfl) (ints_ok (onL NN EE) (onL NN EE) (rd_sl (.tail _ (.tail _ (.tail _ (.head _))))) (rd_sl (.head _)) hok34 hok38 (by first | omega | (simp; omega) | (simp; done)) (by first | omega | (simp; omega) | (simp; done))) ?_
      rintro _ _ ⟨rfl, rfl⟩
      rw [eqI_refl]
      refine tp rfl (lv_pick_t rfl rfl) ?_
      refine tp rfl (lv_move rfl) ?_
      refine t_guard rfl rfl ?_
      refine tp rfl (lv_move rfl) ?_
      refine t_guard rfl rfl ?_
      refine tp rfl (lv_move rfl) ?_
      refine t_guard rfl rfl ?_
      refine tc rfl (en_fn Tryd.call15 rfl) (ints_ok (ordR NN EE) (ordR NN EE) (rd_sl (.tail _ (.tail _ (.tail _ (.tail _ (.tail _ (.tail _ (.tail _ (.tail _ (.tail _ (.tail _ (.head _)))))))))))) (rd_sl (.tail _ (.tail _ (.tail _ (.tail _ (.tail _ (.tail _ (.tail _ (.tail _ (.tail _ (.head _))))))))))) hok10 hok14 (by first | omega | (simp; omega) | (simp; done)) (by first | omega | (simp; omega) | (simp; done))) ?_
      rintro _ _ ⟨rfl, rfl⟩
      rw [eqI_refl]
      refine tp rfl (lv_pick_t rfl rfl) ?_
      refine tp rfl (lv_move rfl) ?_
      refine t_guard rfl rfl ?_
      refine tp rfl (lv_move rfl) ?_
      refine t_guard rfl rfl ?_
      refine tp rfl (lv_move rfl) ?_
      refine t_guard rfl rfl ?_
      refine tp rfl (lv_eqb Tryd.underlying4 rfl rfl (show (_ == _) = true from by simp)) ?_
      refine tp rfl (lv_pick_t rfl rfl) ?_
      refine tp rfl (lv_assign rfl) ?_
      refine t_done ?_
      refine q_then_n (hK14 _ _ ?_)
      refine c_ret ?_
      refine t_drop ?_
      refine t_drop ?_
      refine t_drop ?_
      refine t_drop ?_
      refine t_drop ?_
      refine t_drop ?_
      refine t_drop ?_
      refine t_drop ?_
      refine t_drop ?_
      refine t_drop ?_
      refine t_drop ?_
      refine q_ret rfl rfl ?_
      exact ⟨rfl, rfl⟩
    · -- which
      by_cases hc3A : ((k : Nat) : Int) < ((es.length : Nat) : Int)
      ·
        have hc3B : ¬ (((k : Nat) : Int) < 100) := fun hh => hc3 ⟨hc3A, hh⟩
        refine tp rfl (lv_move rfl) ?_
        refine tp rfl (lv_move rfl) ?_
        refine tp rfl (lv_len Tryd.underlying22 rfl rfl) ?_
        refine tp rfl (lv_lss rfl rfl (decide_eq_true hc3A)) ?_
        refine tp rfl (lv_move rfl) ?_
        refine t_guard rfl rfl ?_
        refine tp rfl (lv_move rfl) ?_
        refine t_guard rfl rfl ?_
        refine tp rfl (lv_lss rfl rfl (decide_eq_false hc3B)) ?_
        refine tp rfl (lv_pick_t rfl rfl) ?_
        exact t_done (t_weak (by exact ⟨rfl, rfl, rfl, rfl, rfl, rfl, rfl, rfl, rfl, rfl, rfl, trivial⟩) hKK)
      ·
        refine tp rfl (lv_move rfl) ?_
        refine tp rfl (lv_move rfl) ?_
        refine tp rfl (lv_len Tryd.underlying22 rfl rfl) ?_
        refine tp rfl (lv_lss rfl rfl (decide_eq_false hc3A)) ?_
        refine tp rfl (lv_move rfl) ?_
        refine t_skip rfl rfl rfl ?_
        refine t_skip rfl rfl rfl ?_
        refine tp rfl (lv_pick_f rfl rfl) ?_
        exact t_done (t_weak (by exact ⟨rfl, rfl, rfl, rfl, rfl, rfl, rfl, rfl, rfl, rfl, rfl, trivial⟩) hKK)
end Go.Proofs.YtppgccafgfpkdaaDoor
