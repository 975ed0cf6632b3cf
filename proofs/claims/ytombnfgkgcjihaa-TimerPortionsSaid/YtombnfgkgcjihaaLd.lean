/- TimerPortions: the law's walk. -/
import Derived.Test.YtombnfgkgcjihaaLa
import Derived.Test.YtombnfgkgcjihaaTm2
set_option maxRecDepth 100000
set_option linter.unusedVariables false
set_option linter.unusedSimpArgs false
namespace Go.Proofs.Ytombnfgkgcjihaa
open Go Go.Proofs Sp
set_option maxHeartbeats 4000000 in
theorem portions_law {R : List HP} {btb : Option Addr} {ctb : Nat} (times : List Int) (htb : Rd R btb (ints .i64 times)) (oktb : SlOk btb times.length) (ltb : times.length ≤ 9223372036854775807) (wftb : ∀ x ∈ times, (Lit.int .i64 x).wf = true) (a b : Int) :
    Ok Try.prog 5 [(.slice btb times.length ctb), (.int .i64 a), (.int .i64 b)] R
      (fun v M => v = .bool true ∧ M = R) := by
  obtain ⟨n, hn⟩ : ∃ n, n = min times.length 50 := ⟨_, rfl⟩
  have hcm : hclamp ((n : Nat) : Int) = n := by unfold hclamp; omega
  refine ok_of (N := 102) Try.func5 rfl rfl rfl (fun W => ?_)
  refine c_seq (fun K1 hK1 => ?_)
  refine c_region ?_
  refine tp rfl (lv_assign rfl) ?_
  refine t_done ?_
  refine q_then_n (hK1 _ _ ?_)
  refine c_seq (fun K2 hK2 => ?_)
  refine c_region ?_
  refine tc rfl (en_fn Try.call10 rfl) (shown_ok) ?_
  rintro _ _ ⟨rfl, hMR⟩
  rw [hMR]; clear hMR
  refine tp rfl (lv_assign rfl) ?_
  refine t_done ?_
  refine q_then_n (hK2 _ _ ?_)
  refine c_seq (fun K3 hK3 => ?_)
  refine c_region ?_
  refine tp rfl (lv_move rfl) ?_
  refine tp rfl (lv_len Try.underlying30 rfl rfl) ?_
  refine tp rfl (lv_min (c := ((n : Nat) : Int)) rfl rfl (by omega)) ?_
  refine tp rfl (lv_assign rfl) ?_
  refine t_done ?_
  refine q_then_n (hK3 _ _ ?_)
  refine c_seq (fun K4 hK4 => ?_)
  refine c_region ?_
  refine tp rfl (lv_move rfl) ?_
  refine tc rfl (en_fn Try.call11 rfl) (tnew_ok ((n : Nat) : Int)) ?_
  rintro _ _ ⟨p1, q2, rfl, rfl⟩
  rw [show hclamp ((n : Nat) : Int) = n from hcm]
  refine tp rfl (lv_assign rfl) ?_
  refine t_done ?_
  refine q_then_n (hK4 _ _ ?_)
  refine c_seq (fun K5 hK5 => ?_)
  refine c_region ?_
  refine tp rfl (lv_move rfl) ?_
  refine tc rfl (en_fn Try.call11 rfl) (tnew_ok ((n : Nat) : Int)) ?_
  rintro _ _ ⟨p3, q4, rfl, rfl⟩
  rw [show hclamp ((n : Nat) : Int) = n from hcm]
  refine tp rfl (lv_assign rfl) ?_
  refine t_done ?_
  refine q_then_n (hK5 _ _ ?_)
  refine c_seq (fun K6 hK6 => ?_)
  refine c_seq (fun K7 hK7 => ?_)
  refine c_region ?_
  refine tp rfl (lv_move rfl) ?_
  refine tp rfl (lv_eqnil Try.underlying25 rfl rfl) ?_
  refine tp rfl (lv_move rfl) ?_
  refine t_guard rfl rfl ?_
  refine tp rfl (lv_move rfl) ?_
  refine t_guard rfl rfl ?_
  refine tp rfl (lv_eqnil Try.underlying25 rfl rfl) ?_
  refine tp rfl (lv_pick_f rfl rfl) ?_
  refine t_done ?_
  refine q_then_n (hK7 _ _ ?_)
  refine c_false rfl ?_
  refine c_skip ?_
  refine q_then_n (hK6 _ _ ?_)
  refine c_seq (fun K8 hK8 => ?_)
  refine c_seq (fun K9 hK9 => ?_)
  refine c_region ?_
  refine tp rfl (lv_assign rfl) ?_
  refine t_done ?_
  refine q_then_n (hK9 _ _ ?_)
  refine c_block ?_
  rw [show List.replicate (n) none = prtK times n 0 from (prtK_zero ..).symm]
  refine c_loop (γ := (Nat)) (fun (i : Nat) => i ≤ n) (fun (i : Nat) => [(0, (.slice btb times.length ctb)), (1, (.int .i64 a)), (2, (.int .i64 b)), (7, (.bool true)), (8, (.int .i64 ((n : Nat) : Int))), (9, (.pointer (some ⟨p1, 0, none⟩))), (10, (.pointer (some ⟨p3, 0, none⟩))), (11, (.int .i64 ((i : Nat) : Int))), (26, (.bool false))]) (fun (i : Nat) => (Blk p3 [(.pointer (some ⟨q4, 0, none⟩))] 37) :: (HeapO q4 n (prtK times n i)) :: (Blk p1 [(.pointer (some ⟨q2, 0, none⟩))] 37) :: (HeapO q2 n (prtK times n i)) :: R) (fun (i : Nat) => n - i) (0) (by omega) ⟨rfl, rfl, rfl, rfl, rfl, rfl, rfl, rfl, rfl, trivial⟩ (fun _ h => h) ?_
  rintro i K10 hF hK10
  try dsimp only at hF hK10 ⊢
  obtain hi := hF
  refine c_seq (fun K11 hK11 => ?_)
  refine c_seq (fun K12 hK12 => ?_)
  refine c_region ?_
  refine tp rfl (lv_move rfl) ?_
  refine tp rfl (lv_move rfl) ?_
  by_cases h5 : ((i : Nat) : Int) < ((n : Nat) : Int)
  · -- yes
    refine tp rfl (lv_lss rfl rfl (decide_eq_true h5)) ?_
    refine t_done ?_
    refine q_then_n (hK12 _ _ ?_)
    refine c_true rfl ?_
    refine c_skip ?_
    refine q_then_n (hK11 _ _ ?_)
    refine c_seq (fun K13 hK13 => ?_)
    refine c_block ?_
    refine c_seq (fun K14 hK14 => ?_)
    refine c_region ?_
    have hps := prt_tset (keys := times) (n := n) (i := i) (by omega) (by omega)
    refine tp rfl (lv_move rfl) ?_
    refine tp rfl (lv_move rfl) ?_
    refine tp rfl (lv_move rfl) ?_
    refine tp rfl (lv_move rfl) ?_
    refine tp rfl (lv_indexAddr (k' := i) Try.underlying30 Try.sizeOf3 rfl rfl oktb (by omega) (by omega) (by omega)) ?_
    refine tp rfl (lv_load Try.isAgg3 rfl (Rd.gives (Rd.cons (Rd.cons (Rd.cons (Rd.cons htb)))) (ints_get (by omega)))) ?_
    refine t_f3 ?_
    refine t_f3 ?_
    refine tc rfl (en_fn Try.call12 rfl) (tset_ok (n := n) (ks := prtK times n i) ((i : Nat) : Int) ((times).getD i 0)) ?_
    rintro _ _ ⟨rfl, rfl⟩
    rw [show pushE (remK (prtK times n i) ((i : Nat) : Int)) ((i : Nat) : Int) = 0 from hps.1]
    rw [show pushK (remK (prtK times n i) ((i : Nat) : Int)) ((i : Nat) : Int) (times.getD i 0) = prtK times n (i + 1) from hps.2]
    refine tp rfl (lv_neq (r := false) rfl rfl (by decide)) ?_
    refine tp rfl (lv_move rfl) ?_
    refine t_guard rfl rfl ?_
    refine tp rfl (lv_move rfl) ?_
    refine t_guard rfl rfl ?_
    refine tp rfl (lv_move rfl) ?_
    refine t_guard rfl rfl ?_
    refine tp rfl (lv_move rfl) ?_
    refine t_guard rfl rfl ?_
    refine tp rfl (lv_move rfl) ?_
    refine t_guard rfl rfl ?_
    refine tp rfl (lv_indexAddr (k' := i) Try.underlying30 Try.sizeOf3 rfl rfl oktb (by omega) (by omega) (by omega)) ?_
    refine t_guard rfl rfl ?_
    refine tp rfl (lv_load Try.isAgg3 rfl (Rd.gives (Rd.cons (Rd.cons (Rd.cons (Rd.cons htb)))) (ints_get (by omega)))) ?_
    refine t_guard rfl rfl ?_
    refine t_f3 ?_
    refine t_f3 ?_
    refine tc rfl (en_fn Try.call12 rfl) (tset_ok (n := n) (ks := prtK times n i) ((i : Nat) : Int) ((times).getD i 0)) ?_
    rintro _ _ ⟨rfl, rfl⟩
    rw [show pushE (remK (prtK times n i) ((i : Nat) : Int)) ((i : Nat) : Int) = 0 from hps.1]
    rw [show pushK (remK (prtK times n i) ((i : Nat) : Int)) ((i : Nat) : Int) (times.getD i 0) = prtK times n (i + 1) from hps.2]
    refine t_guard rfl rfl ?_
    refine tp rfl (lv_neq (r := false) rfl rfl (by decide)) ?_
    refine tp rfl (lv_pick_f rfl rfl) ?_
    refine t_done ?_
    refine q_then_n (hK14 _ _ ?_)
    refine c_false rfl ?_
    refine c_skip ?_
    refine q_in_n ?_
    refine q_then_n (hK13 _ _ ?_)
    refine c_region ?_
    refine tp rfl (lv_move rfl) ?_
    refine tp rfl (lv_add (c := ((i + 1 : Nat) : Int)) rfl rfl (wr_i64_succ (by omega))) ?_
    refine tp rfl (lv_assign rfl) ?_
    refine t_done ?_
    refine q_then_n ?_
    exact t_weak (by exact ⟨rfl, rfl, rfl, rfl, rfl, rfl, rfl, rfl, rfl, trivial⟩) ((hK10 (i + 1) (by omega) (by omega)))
  · -- no
    refine tp rfl (lv_lss rfl rfl (decide_eq_false h5)) ?_
    refine t_done ?_
    refine q_then_n (hK12 _ _ ?_)
    refine c_false rfl ?_
    refine c_exit ?_
    refine q_then_x ?_
    refine q_then_x ?_
    refine q_in_x ?_
    refine q_then_n (hK8 _ _ ?_)
    refine c_seq (fun K13 hK13 => ?_)
    refine c_region ?_
    rw [show prtK times n i = prtK times n n from by rw [show i = n by omega]]
    have hpc := prt_cnt (keys := times) (n := n) (by omega)
    have hdd := due_due (t1 := min a b) (t2 := max a b) (by omega) (prtK times n n)
    have hc1 := due_cnt (prtK times n n) (min a b)
    have hc2 := due_cnt (duR (prtK times n n) (min a b)) (max a b)
    have hc3 := due_cnt (prtK times n n) (max a b)
    have hc4 : (dueL (prtK times n n) (min a b)).length + (dueL (duR (prtK times n n) (min a b)) (max a b)).length = (dueL (prtK times n n) (max a b)).length := by rw [← hdd.1, List.length_append]
    have hla : (dueL (prtK times n n) (min a b) ++ dueL (duR (prtK times n n) (min a b)) (max a b)).length = (dueL (prtK times n n) (min a b)).length + (dueL (duR (prtK times n n) (min a b)) (max a b)).length := List.length_append
    refine tp rfl (lv_move rfl) ?_
    refine tp rfl (lv_move rfl) ?_
    refine tp rfl (lv_move rfl) ?_
    refine tp rfl (lv_min (c := (min a b)) rfl rfl rfl) ?_
    refine t_f3 ?_
    refine t_f3 ?_
    refine tc rfl (en_fn Try.call14 rfl) (tdue_ok (n := n) (ks := prtK times n n) (min a b)) ?_
    rintro _ _ ⟨bs6, cp7, hok8, hle9, rfl, rfl⟩
    refine tp rfl (lv_assign rfl) ?_
    refine t_done ?_
    refine q_then_n (hK13 _ _ ?_)
    refine c_seq (fun K14 hK14 => ?_)
    refine c_region ?_
    refine tm rfl (mv_buildSlice (cs := []) Try.underlying30 Try.sizeOf3 Try.zeroValue3 (by decide) rfl rfl rfl rfl) ?_
    rintro _ _ ⟨bs10, cp11, hok12, hle13, rfl, rfl⟩
    refine tp rfl (lv_move rfl) ?_
    refine tm rfl (mv_append (i := Try.t3) Try.underlying30 Try.type3 rfl rfl rfl (by decide) rfl rfl hok8 (by first | (simp; done) | (simp; omega)) (rd_sl (.tail _ (.head _))) ints_one (by rw [show Try.t3.bytes = 8 from rfl]; omega)) ?_
    rintro _ _ ⟨bs14, cp15, hok16, hle17, rfl, rfl⟩
    simp only [Nat.zero_add] at hok16 hle17 ⊢
    rw [List.nil_append]
    refine tp rfl (lv_move rfl) ?_
    refine tp rfl (lv_move rfl) ?_
    refine tp rfl (lv_move rfl) ?_
    refine tp rfl (lv_max (c := (max a b)) rfl rfl rfl) ?_
    refine t_f3 ?_
    refine t_f3 ?_
    refine tc rfl (en_fn Try.call14 rfl) (tdue_ok (n := n) (ks := duR (prtK times n n) (min a b)) (max a b)) ?_
    rintro _ _ ⟨bs18, cp19, hok20, hle21, rfl, rfl⟩
    refine t_f3 ?_
    refine tm rfl (mv_append (i := Try.t3) Try.underlying30 Try.type3 rfl rfl rfl (by decide) rfl rfl hok20 (by first | (simp; done) | (simp; omega)) (rd_sl (.tail _ (.head _))) ints_one (by rw [show Try.t3.bytes = 8 from rfl]; omega)) ?_
    rintro _ _ ⟨bs22, cp23, hok24, hle25, rfl, rfl⟩
    rw [← ints_append]
    refine tp rfl (lv_assign rfl) ?_
    refine t_done ?_
    refine q_then_n (hK14 _ _ ?_)
    refine c_seq (fun K15 hK15 => ?_)
    refine c_draw (γ := Option Addr × Nat) (n := 39) Try.mixed rfl rfl (fun (bs26, cp27) S => (S 7 = true → SlOk bs26 ((dueL (prtK times n n) (max a b)).length)) ∧ (S 7 = true → (dueL (prtK times n n) (max a b)).length ≤ cp27)) (fun (bs26, cp27) => [(0, 64, (.bool true)), (1, 65, (.bool true)), (2, 66, (.slice bs22 (((dueL (prtK times n n) (min a b)).length) + ((dueL (duR (prtK times n n) (min a b)) (max a b)).length)) cp23)), (3, 67, (.pointer (some ⟨p3, 0, none⟩))), (4, 68, (.int .i64 a)), (5, 69, (.int .i64 b)), (6, 70, (.int .i64 (max a b))), (7, 71, (.slice bs26 ((dueL (prtK times n n) (max a b)).length) cp27)), (8, 72, (.bool true)), (9, 73, (.bool true)), (10, 74, (.bool true)), (11, 75, (.pointer (some ⟨p1, 0, none⟩))), (12, 76, (.pointer (some ⟨p1, 0, none⟩))), (13, 77, (.pointer (some ⟨p1, 0, none⟩))), (14, 78, (.pointer (some ⟨p1, 0, none⟩))), (15, 79, (.pointer (some ⟨q2, 0, none⟩))), (16, 80, (.int .i64 ((cntK (duR (duR (prtK times n n) (min a b)) (max a b)) : Nat) : Int))), (17, 81, (.pointer (some ⟨p3, 0, none⟩))), (18, 82, (.pointer (some ⟨p3, 0, none⟩))), (19, 83, (.pointer (some ⟨p3, 0, none⟩))), (20, 84, (.pointer (some ⟨p3, 0, none⟩))), (21, 85, (.pointer (some ⟨q4, 0, none⟩))), (22, 86, (.int .i64 ((cntK (duR (prtK times n n) (max a b)) : Nat) : Int))), (23, 87, (.bool true)), (24, 88, (.bool true)), (25, 89, (.bool true)), (26, 90, (.pointer (some ⟨p1, 0, none⟩))), (27, 91, (.pointer (some ⟨p1, 0, none⟩))), (28, 92, (.pointer (some ⟨p1, 0, none⟩))), (29, 93, (.pointer (some ⟨p1, 0, none⟩))), (30, 94, (.pointer (some ⟨q2, 0, none⟩))), (31, 95, (.int .i64 ((cntK (duR (duR (prtK times n n) (min a b)) (max a b)) : Nat) : Int))), (32, 96, (.int .i64 ((n : Nat) : Int))), (33, 97, (.slice bs22 (((dueL (prtK times n n) (min a b)).length) + ((dueL (duR (prtK times n n) (min a b)) (max a b)).length)) cp23)), (34, 98, (.int .i64 ((((dueL (prtK times n n) (min a b)).length) + ((dueL (duR (prtK times n n) (min a b)) (max a b)).length) : Nat) : Int))), (35, 99, (.int .i64 (((n : Nat) : Int) - ((((dueL (prtK times n n) (min a b)).length) + ((dueL (duR (prtK times n n) (min a b)) (max a b)).length) : Nat) : Int)))), (36, 100, (.bool true)), (37, 101, (.bool true)), (38, 6, (.bool true))]) (fun (bs26, cp27) S => (SlV 3 1 (.slice bs22 (((dueL (prtK times n n) (min a b)).length) + ((dueL (duR (prtK times n n) (min a b)) (max a b)).length)) cp23) (((dueL (prtK times n n) (min a b)).length) + ((dueL (duR (prtK times n n) (min a b)) (max a b)).length)) (ints .i64 ((dueL (prtK times n n) (min a b)) ++ (dueL (duR (prtK times n n) (min a b)) (max a b))))) :: (SlV 3 1 (.slice bs18 ((dueL (duR (prtK times n n) (min a b)) (max a b)).length) cp19) ((dueL (duR (prtK times n n) (min a b)) (max a b)).length) (ints .i64 (dueL (duR (prtK times n n) (min a b)) (max a b)))) :: (Blk p1 [(.pointer (some ⟨q2, 0, none⟩))] 37) :: (HeapO q2 n (duR (duR (prtK times n n) (min a b)) (max a b))) :: (SlV 3 1 (.slice bs6 ((dueL (prtK times n n) (min a b)).length) cp7) ((dueL (prtK times n n) (min a b)).length) (ints .i64 (dueL (prtK times n n) (min a b)))) :: (Blk p3 [(.pointer (some ⟨q4, 0, none⟩))] 37) :: (bif S 7 then (HeapO q4 n (duR (prtK times n n) (max a b))) else (HeapO q4 n (prtK times n n))) :: (bif S 7 then (SlV 3 1 (.slice bs26 ((dueL (prtK times n n) (max a b)).length) cp27) ((dueL (prtK times n n) (max a b)).length) (ints .i64 (dueL (prtK times n n) (max a b)))) else Emp) :: R) (none, 0) (by simp [Nat.ble]) (fun _ h => sat_emps [_, _, _, _, _, _, _] 1 h) (fun _ _ h => h) ?_ ?_
    · -- steps
      refine ⟨?_, ?_, ?_, ?_, ?_, ?_, ?_, ?_, ?_, ?_, ?_, ?_, ?_, ?_, ?_, ?_, ?_, ?_, ?_, ?_, ?_, ?_, ?_, ?_, ?_, ?_, ?_, ?_, ?_, ?_, ?_, ?_, ?_, ?_, ?_, ?_, ?_, ?_, ?_, trivial⟩
      · -- 0
        rintro ⟨bs26, cp27⟩ S hF hS D hp K hK
        try dsimp only at hF ⊢
        obtain ⟨hf0, hf1⟩ := hF
        refine d_need (small := [(7, (.bool true))]) ⟨look_b rfl rfl, trivial⟩ ?_
        refine tp rfl (lv_move rfl) ?_
        exact d_closes ⟨look_b rfl rfl, trivial⟩ 0 rfl rfl rfl hS (AgreeR.refl _) (t_sat (fun _ h => h) (hK (bs26, cp27) ⟨hf0, hf1⟩))
      · -- 1
        rintro ⟨bs26, cp27⟩ S hF hS D hp K hK
        try dsimp only at hF ⊢
        obtain ⟨hf0, hf1⟩ := hF
        have s0 := hp 0 rfl
        refine d_need (small := [(64, (.bool true))]) ⟨look_row rfl 0 rfl s0, trivial⟩ ?_
        refine tp rfl (lv_move rfl) ?_
        exact d_closes ⟨look_row rfl 0 rfl s0, trivial⟩ 1 rfl rfl rfl hS (AgreeR.refl _) (t_sat (fun _ h => h) (hK (bs26, cp27) ⟨hf0, hf1⟩))
      · -- 2
        rintro ⟨bs26, cp27⟩ S hF hS D hp K hK
        try dsimp only at hF ⊢
        obtain ⟨hf0, hf1⟩ := hF
        have s1 := hp 1 rfl
        refine d_need (small := [(12, (.slice bs22 (((dueL (prtK times n n) (min a b)).length) + ((dueL (duR (prtK times n n) (min a b)) (max a b)).length)) cp23)), (65, (.bool true))]) ⟨look_b rfl rfl, look_row rfl 1 rfl s1, trivial⟩ ?_
        refine t_guard rfl rfl ?_
        refine tp rfl (lv_move rfl) ?_
        exact d_closes ⟨look_b rfl rfl, look_row rfl 1 rfl s1, trivial⟩ 2 rfl rfl rfl hS (AgreeR.refl _) (t_sat (fun _ h => h) (hK (bs26, cp27) ⟨hf0, hf1⟩))
      · -- 3
        rintro ⟨bs26, cp27⟩ S hF hS D hp K hK
        try dsimp only at hF ⊢
        obtain ⟨hf0, hf1⟩ := hF
        have s1 := hp 1 rfl
        refine d_need (small := [(10, (.pointer (some ⟨p3, 0, none⟩))), (65, (.bool true))]) ⟨look_b rfl rfl, look_row rfl 1 rfl s1, trivial⟩ ?_
        refine t_guard rfl rfl ?_
        refine tp rfl (lv_move rfl) ?_
        exact d_closes ⟨look_b rfl rfl, look_row rfl 1 rfl s1, trivial⟩ 3 rfl rfl rfl hS (AgreeR.refl _) (t_sat (fun _ h => h) (hK (bs26, cp27) ⟨hf0, hf1⟩))
      · -- 4
        rintro ⟨bs26, cp27⟩ S hF hS D hp K hK
        try dsimp only at hF ⊢
        obtain ⟨hf0, hf1⟩ := hF
        have s1 := hp 1 rfl
        refine d_need (small := [(1, (.int .i64 a)), (65, (.bool true))]) ⟨look_b rfl rfl, look_row rfl 1 rfl s1, trivial⟩ ?_
        refine t_guard rfl rfl ?_
        refine tp rfl (lv_move rfl) ?_
        exact d_closes ⟨look_b rfl rfl, look_row rfl 1 rfl s1, trivial⟩ 4 rfl rfl rfl hS (AgreeR.refl _) (t_sat (fun _ h => h) (hK (bs26, cp27) ⟨hf0, hf1⟩))
      · -- 5
        rintro ⟨bs26, cp27⟩ S hF hS D hp K hK
        try dsimp only at hF ⊢
        obtain ⟨hf0, hf1⟩ := hF
        have s1 := hp 1 rfl
        refine d_need (small := [(2, (.int .i64 b)), (65, (.bool true))]) ⟨look_b rfl rfl, look_row rfl 1 rfl s1, trivial⟩ ?_
        refine t_guard rfl rfl ?_
        refine tp rfl (lv_move rfl) ?_
        exact d_closes ⟨look_b rfl rfl, look_row rfl 1 rfl s1, trivial⟩ 5 rfl rfl rfl hS (AgreeR.refl _) (t_sat (fun _ h => h) (hK (bs26, cp27) ⟨hf0, hf1⟩))
      · -- 6
        rintro ⟨bs26, cp27⟩ S hF hS D hp K hK
        try dsimp only at hF ⊢
        obtain ⟨hf0, hf1⟩ := hF
        have s1 := hp 1 rfl
        have s4 := hp 4 rfl
        have s5 := hp 5 rfl
        refine d_need (small := [(65, (.bool true)), (68, (.int .i64 a)), (69, (.int .i64 b))]) ⟨look_row rfl 1 rfl s1, look_row rfl 4 rfl s4, look_row rfl 5 rfl s5, trivial⟩ ?_
        refine t_guard rfl rfl ?_
        refine tp rfl (lv_max (c := max a b) rfl rfl rfl) ?_
        exact d_closes ⟨look_row rfl 1 rfl s1, look_row rfl 4 rfl s4, look_row rfl 5 rfl s5, trivial⟩ 6 rfl rfl rfl hS (AgreeR.refl _) (t_sat (fun _ h => h) (hK (bs26, cp27) ⟨hf0, hf1⟩))
      · -- 7
        rintro ⟨bs26, cp27⟩ S hF hS D hp K hK
        try dsimp only at hF ⊢
        obtain ⟨hf0, hf1⟩ := hF
        have s1 := hp 1 rfl
        have s3 := hp 3 rfl
        have s6 := hp 6 rfl
        refine d_need (small := [(65, (.bool true)), (67, (.pointer (some ⟨p3, 0, none⟩))), (70, (.int .i64 (max a b)))]) ⟨look_row rfl 1 rfl s1, look_row rfl 3 rfl s3, look_row rfl 6 rfl s6, trivial⟩ ?_
        refine t_f6 ?_
        refine t_cF hS ?_
        refine t_guard rfl rfl ?_
        refine t_f6 ?_
        refine tc rfl (en_fn Try.call14 rfl) (tdue_ok (n := n) (ks := prtK times n n) (max a b)) ?_
        rintro _ _ ⟨bs26, cp27, hok28, hle29, rfl, rfl⟩
        refine t_f2 ?_
        refine t_f2 ?_
        refine t_f7 ?_
        refine t_f7 ?_
        refine t_f7 ?_
        refine t_f7 ?_
        refine t_f7 ?_
        refine t_f7 ?_
        refine t_sat (fun _ h => sat_put [_, _, _, _, _, _, _] h) ?_
        exact d_closes ⟨look_row rfl 1 rfl s1, look_row rfl 3 rfl s3, look_row rfl 6 rfl s6, trivial⟩ 7 rfl rfl rfl hS (by exact ⟨.inl rfl, .inl rfl, .inl rfl, .inl rfl, .inl rfl, .inl rfl, .inl rfl, .inr ⟨rfl, rfl, hS⟩, .inl rfl, .inl rfl, .inl rfl, .inl rfl, .inl rfl, .inl rfl, .inl rfl, .inl rfl, .inl rfl, .inl rfl, .inl rfl, .inl rfl, .inl rfl, .inl rfl, .inl rfl, .inl rfl, .inl rfl, .inl rfl, .inl rfl, .inl rfl, .inl rfl, .inl rfl, .inl rfl, .inl rfl, .inl rfl, .inl rfl, .inl rfl, .inl rfl, .inl rfl, .inl rfl, .inl rfl, trivial⟩) (t_sat (fun _ h => h) (hK (bs26, cp27) ⟨(fun _ => hok28), (fun _ => hle29)⟩))
      · -- 8
        rintro ⟨bs26, cp27⟩ S hF hS D hp K hK
        try dsimp only at hF ⊢
        obtain ⟨hf0, hf1⟩ := hF
        have s7 := hp 7 rfl
        have hok28 := hf0 s7
        have hle29 := hf1 s7
        have s1 := hp 1 rfl
        have s2 := hp 2 rfl
        refine d_need (small := [(65, (.bool true)), (66, (.slice bs22 (((dueL (prtK times n n) (min a b)).length) + ((dueL (duR (prtK times n n) (min a b)) (max a b)).length)) cp23)), (71, (.slice bs26 ((dueL (prtK times n n) (max a b)).length) cp27))]) ⟨look_row rfl 1 rfl s1, look_row rfl 2 rfl s2, look_row rfl 7 rfl s7, trivial⟩ ?_
        refine t_f7 ?_
        refine t_cT s7 ?_
        refine t_guard rfl rfl ?_
        refine tc rfl (en_fn Try.call17 rfl) (ints_n ((dueL (prtK times n n) (min a b)) ++ (dueL (duR (prtK times n n) (min a b)) (max a b))) (dueL (prtK times n n) (max a b)) (by first | rfl | (simp; done) | (simp; omega)) (by first | rfl | (simp; done) | (simp; omega)) (rd_sl (.tail _ (.head _))) (rd_sl (.head _)) hok24 hok28 (by first | omega | (simp; omega) | (simp; done)) (by first | omega | (simp; omega) | (simp; done))) ?_
        rintro _ _ ⟨rfl, rfl⟩
        rw [show eqI ((dueL (prtK times n n) (min a b)) ++ (dueL (duR (prtK times n n) (min a b)) (max a b))) (dueL (prtK times n n) (max a b)) = true from (by rw [hdd.1]; exact eqI_refl _)]
        refine t_wT (B := Emp) s7 ?_
        refine t_f7 ?_
        refine t_f7 ?_
        refine t_f7 ?_
        refine t_f7 ?_
        refine t_f7 ?_
        refine t_f7 ?_
        refine t_f7 ?_
        exact d_closes ⟨look_row rfl 1 rfl s1, look_row rfl 2 rfl s2, look_row rfl 7 rfl s7, trivial⟩ 8 rfl rfl rfl hS (AgreeR.refl _) (t_sat (fun _ h => h) (hK (bs26, cp27) ⟨hf0, hf1⟩))
      · -- 9
        rintro ⟨bs26, cp27⟩ S hF hS D hp K hK
        try dsimp only at hF ⊢
        obtain ⟨hf0, hf1⟩ := hF
        have s1 := hp 1 rfl
        have s8 := hp 8 rfl
        refine d_need (small := [(65, (.bool true)), (72, (.bool true))]) ⟨look_row rfl 1 rfl s1, look_row rfl 8 rfl s8, trivial⟩ ?_
        refine tp rfl (lv_pick_t rfl rfl) ?_
        exact d_closes ⟨look_row rfl 1 rfl s1, look_row rfl 8 rfl s8, trivial⟩ 9 rfl rfl rfl hS (AgreeR.refl _) (t_sat (fun _ h => h) (hK (bs26, cp27) ⟨hf0, hf1⟩))
      · -- 10
        rintro ⟨bs26, cp27⟩ S hF hS D hp K hK
        try dsimp only at hF ⊢
        obtain ⟨hf0, hf1⟩ := hF
        have s9 := hp 9 rfl
        refine d_need (small := [(73, (.bool true))]) ⟨look_row rfl 9 rfl s9, trivial⟩ ?_
        refine tp rfl (lv_move rfl) ?_
        exact d_closes ⟨look_row rfl 9 rfl s9, trivial⟩ 10 rfl rfl rfl hS (AgreeR.refl _) (t_sat (fun _ h => h) (hK (bs26, cp27) ⟨hf0, hf1⟩))
      · -- 11
        rintro ⟨bs26, cp27⟩ S hF hS D hp K hK
        try dsimp only at hF ⊢
        obtain ⟨hf0, hf1⟩ := hF
        have s10 := hp 10 rfl
        refine d_need (small := [(9, (.pointer (some ⟨p1, 0, none⟩))), (74, (.bool true))]) ⟨look_b rfl rfl, look_row rfl 10 rfl s10, trivial⟩ ?_
        refine t_guard rfl rfl ?_
        refine tp rfl (lv_move rfl) ?_
        exact d_closes ⟨look_b rfl rfl, look_row rfl 10 rfl s10, trivial⟩ 11 rfl rfl rfl hS (AgreeR.refl _) (t_sat (fun _ h => h) (hK (bs26, cp27) ⟨hf0, hf1⟩))
      · -- 12
        rintro ⟨bs26, cp27⟩ S hF hS D hp K hK
        try dsimp only at hF ⊢
        obtain ⟨hf0, hf1⟩ := hF
        have s10 := hp 10 rfl
        have s11 := hp 11 rfl
        refine d_need (small := [(74, (.bool true)), (75, (.pointer (some ⟨p1, 0, none⟩)))]) ⟨look_row rfl 10 rfl s10, look_row rfl 11 rfl s11, trivial⟩ ?_
        refine t_guard rfl rfl ?_
        refine tp rfl (lv_nilCheck rfl) ?_
        exact d_closes ⟨look_row rfl 10 rfl s10, look_row rfl 11 rfl s11, trivial⟩ 12 rfl rfl rfl hS (AgreeR.refl _) (t_sat (fun _ h => h) (hK (bs26, cp27) ⟨hf0, hf1⟩))
      · -- 13
        rintro ⟨bs26, cp27⟩ S hF hS D hp K hK
        try dsimp only at hF ⊢
        obtain ⟨hf0, hf1⟩ := hF
        have s10 := hp 10 rfl
        have s12 := hp 12 rfl
        refine d_need (small := [(74, (.bool true)), (76, (.pointer (some ⟨p1, 0, none⟩)))]) ⟨look_row rfl 10 rfl s10, look_row rfl 12 rfl s12, trivial⟩ ?_
        refine t_guard rfl rfl ?_
        refine tp rfl (lv_fieldAddr (o' := 0) Try.underlying37 rfl Try.sizeOf35 rfl rfl) ?_
        exact d_closes ⟨look_row rfl 10 rfl s10, look_row rfl 12 rfl s12, trivial⟩ 13 rfl rfl rfl hS (AgreeR.refl _) (t_sat (fun _ h => h) (hK (bs26, cp27) ⟨hf0, hf1⟩))
      · -- 14
        rintro ⟨bs26, cp27⟩ S hF hS D hp K hK
        try dsimp only at hF ⊢
        obtain ⟨hf0, hf1⟩ := hF
        have s10 := hp 10 rfl
        have s13 := hp 13 rfl
        refine d_need (small := [(74, (.bool true)), (77, (.pointer (some ⟨p1, 0, none⟩)))]) ⟨look_row rfl 10 rfl s10, look_row rfl 13 rfl s13, trivial⟩ ?_
        refine t_guard rfl rfl ?_
        refine tp rfl (lv_fieldAddr (o' := 0) Try.underlying35 rfl Try.sizeOf33 rfl rfl) ?_
        exact d_closes ⟨look_row rfl 10 rfl s10, look_row rfl 13 rfl s13, trivial⟩ 14 rfl rfl rfl hS (AgreeR.refl _) (t_sat (fun _ h => h) (hK (bs26, cp27) ⟨hf0, hf1⟩))
      · -- 15
        rintro ⟨bs26, cp27⟩ S hF hS D hp K hK
        try dsimp only at hF ⊢
        obtain ⟨hf0, hf1⟩ := hF
        have s14 := hp 14 rfl
        have s13 := D 14 13 rfl s14
        have s12 := D 13 12 rfl s13
        have s11 := D 12 11 rfl s12
        have s10 := D 11 10 rfl s11
        have s9 := D 10 9 rfl s10
        have s8 := D 9 8 rfl s9
        have s7 := D 8 7 rfl s8
        have hok28 := hf0 s7
        have hle29 := hf1 s7
        refine d_need (small := [(74, (.bool true)), (78, (.pointer (some ⟨p1, 0, none⟩)))]) ⟨look_row rfl 10 rfl s10, look_row rfl 14 rfl s14, trivial⟩ ?_
        refine t_guard rfl rfl ?_
        refine tp rfl (lv_load Try.isAgg33 rfl (gives_blk (.tail _ (.tail _ (.head _))) rfl)) ?_
        exact d_closes ⟨look_row rfl 10 rfl s10, look_row rfl 14 rfl s14, trivial⟩ 15 rfl rfl rfl hS (AgreeR.refl _) (t_sat (fun _ h => h) (hK (bs26, cp27) ⟨hf0, hf1⟩))
      · -- 16
        rintro ⟨bs26, cp27⟩ S hF hS D hp K hK
        try dsimp only at hF ⊢
        obtain ⟨hf0, hf1⟩ := hF
        have s10 := hp 10 rfl
        have s15 := hp 15 rfl
        refine d_need (small := [(74, (.bool true)), (79, (.pointer (some ⟨q2, 0, none⟩)))]) ⟨look_row rfl 10 rfl s10, look_row rfl 15 rfl s15, trivial⟩ ?_
        refine t_guard rfl rfl ?_
        refine t_f3 ?_
        refine tc rfl (en_fn Try.call15 rfl) (hlen_ok (n := n) (ks := duR (duR (prtK times n n) (min a b)) (max a b)) ) ?_
        rintro _ _ ⟨rfl, rfl⟩
        refine t_f3 ?_
        refine t_f3 ?_
        refine t_f3 ?_
        exact d_closes ⟨look_row rfl 10 rfl s10, look_row rfl 15 rfl s15, trivial⟩ 16 rfl rfl rfl hS (AgreeR.refl _) (t_sat (fun _ h => h) (hK (bs26, cp27) ⟨hf0, hf1⟩))
      · -- 17
        rintro ⟨bs26, cp27⟩ S hF hS D hp K hK
        try dsimp only at hF ⊢
        obtain ⟨hf0, hf1⟩ := hF
        have s10 := hp 10 rfl
        refine d_need (small := [(10, (.pointer (some ⟨p3, 0, none⟩))), (74, (.bool true))]) ⟨look_b rfl rfl, look_row rfl 10 rfl s10, trivial⟩ ?_
        refine t_guard rfl rfl ?_
        refine tp rfl (lv_move rfl) ?_
        exact d_closes ⟨look_b rfl rfl, look_row rfl 10 rfl s10, trivial⟩ 17 rfl rfl rfl hS (AgreeR.refl _) (t_sat (fun _ h => h) (hK (bs26, cp27) ⟨hf0, hf1⟩))
      · -- 18
        rintro ⟨bs26, cp27⟩ S hF hS D hp K hK
        try dsimp only at hF ⊢
        obtain ⟨hf0, hf1⟩ := hF
        have s10 := hp 10 rfl
        have s17 := hp 17 rfl
        refine d_need (small := [(74, (.bool true)), (81, (.pointer (some ⟨p3, 0, none⟩)))]) ⟨look_row rfl 10 rfl s10, look_row rfl 17 rfl s17, trivial⟩ ?_
        refine t_guard rfl rfl ?_
        refine tp rfl (lv_nilCheck rfl) ?_
        exact d_closes ⟨look_row rfl 10 rfl s10, look_row rfl 17 rfl s17, trivial⟩ 18 rfl rfl rfl hS (AgreeR.refl _) (t_sat (fun _ h => h) (hK (bs26, cp27) ⟨hf0, hf1⟩))
      · -- 19
        rintro ⟨bs26, cp27⟩ S hF hS D hp K hK
        try dsimp only at hF ⊢
        obtain ⟨hf0, hf1⟩ := hF
        have s10 := hp 10 rfl
        have s18 := hp 18 rfl
        refine d_need (small := [(74, (.bool true)), (82, (.pointer (some ⟨p3, 0, none⟩)))]) ⟨look_row rfl 10 rfl s10, look_row rfl 18 rfl s18, trivial⟩ ?_
        refine t_guard rfl rfl ?_
        refine tp rfl (lv_fieldAddr (o' := 0) Try.underlying37 rfl Try.sizeOf35 rfl rfl) ?_
        exact d_closes ⟨look_row rfl 10 rfl s10, look_row rfl 18 rfl s18, trivial⟩ 19 rfl rfl rfl hS (AgreeR.refl _) (t_sat (fun _ h => h) (hK (bs26, cp27) ⟨hf0, hf1⟩))
      · -- 20
        rintro ⟨bs26, cp27⟩ S hF hS D hp K hK
        try dsimp only at hF ⊢
        obtain ⟨hf0, hf1⟩ := hF
        have s10 := hp 10 rfl
        have s19 := hp 19 rfl
        refine d_need (small := [(74, (.bool true)), (83, (.pointer (some ⟨p3, 0, none⟩)))]) ⟨look_row rfl 10 rfl s10, look_row rfl 19 rfl s19, trivial⟩ ?_
        refine t_guard rfl rfl ?_
        refine tp rfl (lv_fieldAddr (o' := 0) Try.underlying35 rfl Try.sizeOf33 rfl rfl) ?_
        exact d_closes ⟨look_row rfl 10 rfl s10, look_row rfl 19 rfl s19, trivial⟩ 20 rfl rfl rfl hS (AgreeR.refl _) (t_sat (fun _ h => h) (hK (bs26, cp27) ⟨hf0, hf1⟩))
      · -- 21
        rintro ⟨bs26, cp27⟩ S hF hS D hp K hK
        try dsimp only at hF ⊢
        obtain ⟨hf0, hf1⟩ := hF
        have s20 := hp 20 rfl
        have s19 := D 20 19 rfl s20
        have s18 := D 19 18 rfl s19
        have s17 := D 18 17 rfl s18
        have s10 := D 17 10 rfl s17
        have s9 := D 10 9 rfl s10
        have s8 := D 9 8 rfl s9
        have s7 := D 8 7 rfl s8
        have hok28 := hf0 s7
        have hle29 := hf1 s7
        refine d_need (small := [(74, (.bool true)), (84, (.pointer (some ⟨p3, 0, none⟩)))]) ⟨look_row rfl 10 rfl s10, look_row rfl 20 rfl s20, trivial⟩ ?_
        refine t_guard rfl rfl ?_
        refine tp rfl (lv_load Try.isAgg33 rfl (gives_blk (.tail _ (.tail _ (.tail _ (.tail _ (.tail _ (.head _)))))) rfl)) ?_
        exact d_closes ⟨look_row rfl 10 rfl s10, look_row rfl 20 rfl s20, trivial⟩ 21 rfl rfl rfl hS (AgreeR.refl _) (t_sat (fun _ h => h) (hK (bs26, cp27) ⟨hf0, hf1⟩))
      · -- 22
        rintro ⟨bs26, cp27⟩ S hF hS D hp K hK
        try dsimp only at hF ⊢
        obtain ⟨hf0, hf1⟩ := hF
        have s10 := hp 10 rfl
        have s21 := hp 21 rfl
        refine d_need (small := [(74, (.bool true)), (85, (.pointer (some ⟨q4, 0, none⟩)))]) ⟨look_row rfl 10 rfl s10, look_row rfl 21 rfl s21, trivial⟩ ?_
        refine t_f6 ?_
        have s20 := D 21 20 rfl s21
        have s19 := D 20 19 rfl s20
        have s18 := D 19 18 rfl s19
        have s17 := D 18 17 rfl s18
        have s9 := D 10 9 rfl s10
        have s8 := D 9 8 rfl s9
        have s7 := D 8 7 rfl s8
        refine t_cT s7 ?_
        refine t_guard rfl rfl ?_
        refine tc rfl (en_fn Try.call15 rfl) (hlen_ok (n := n) (ks := duR (prtK times n n) (max a b)) ) ?_
        rintro _ _ ⟨rfl, rfl⟩
        refine t_wT (B := (HeapO q4 n (prtK times n n))) s7 ?_
        refine t_f6 ?_
        refine t_f6 ?_
        refine t_f6 ?_
        refine t_f6 ?_
        refine t_f6 ?_
        refine t_f6 ?_
        exact d_closes ⟨look_row rfl 10 rfl s10, look_row rfl 21 rfl s21, trivial⟩ 22 rfl rfl rfl hS (AgreeR.refl _) (t_sat (fun _ h => h) (hK (bs26, cp27) ⟨hf0, hf1⟩))
      · -- 23
        rintro ⟨bs26, cp27⟩ S hF hS D hp K hK
        try dsimp only at hF ⊢
        obtain ⟨hf0, hf1⟩ := hF
        have s10 := hp 10 rfl
        have s16 := hp 16 rfl
        have s22 := hp 22 rfl
        refine d_need (small := [(74, (.bool true)), (80, (.int .i64 ((cntK (duR (duR (prtK times n n) (min a b)) (max a b)) : Nat) : Int))), (86, (.int .i64 ((cntK (duR (prtK times n n) (max a b)) : Nat) : Int)))]) ⟨look_row rfl 10 rfl s10, look_row rfl 16 rfl s16, look_row rfl 22 rfl s22, trivial⟩ ?_
        refine t_guard rfl rfl ?_
        refine tp rfl (lv_eql rfl rfl (beq_iff_eq.2 (by rw [hdd.2]))) ?_
        exact d_closes ⟨look_row rfl 10 rfl s10, look_row rfl 16 rfl s16, look_row rfl 22 rfl s22, trivial⟩ 23 rfl rfl rfl hS (AgreeR.refl _) (t_sat (fun _ h => h) (hK (bs26, cp27) ⟨hf0, hf1⟩))
      · -- 24
        rintro ⟨bs26, cp27⟩ S hF hS D hp K hK
        try dsimp only at hF ⊢
        obtain ⟨hf0, hf1⟩ := hF
        have s10 := hp 10 rfl
        have s23 := hp 23 rfl
        refine d_need (small := [(74, (.bool true)), (87, (.bool true))]) ⟨look_row rfl 10 rfl s10, look_row rfl 23 rfl s23, trivial⟩ ?_
        refine tp rfl (lv_pick_t rfl rfl) ?_
        exact d_closes ⟨look_row rfl 10 rfl s10, look_row rfl 23 rfl s23, trivial⟩ 24 rfl rfl rfl hS (AgreeR.refl _) (t_sat (fun _ h => h) (hK (bs26, cp27) ⟨hf0, hf1⟩))
      · -- 25
        rintro ⟨bs26, cp27⟩ S hF hS D hp K hK
        try dsimp only at hF ⊢
        obtain ⟨hf0, hf1⟩ := hF
        have s24 := hp 24 rfl
        refine d_need (small := [(88, (.bool true))]) ⟨look_row rfl 24 rfl s24, trivial⟩ ?_
        refine tp rfl (lv_move rfl) ?_
        exact d_closes ⟨look_row rfl 24 rfl s24, trivial⟩ 25 rfl rfl rfl hS (AgreeR.refl _) (t_sat (fun _ h => h) (hK (bs26, cp27) ⟨hf0, hf1⟩))
      · -- 26
        rintro ⟨bs26, cp27⟩ S hF hS D hp K hK
        try dsimp only at hF ⊢
        obtain ⟨hf0, hf1⟩ := hF
        have s25 := hp 25 rfl
        refine d_need (small := [(9, (.pointer (some ⟨p1, 0, none⟩))), (89, (.bool true))]) ⟨look_b rfl rfl, look_row rfl 25 rfl s25, trivial⟩ ?_
        refine t_guard rfl rfl ?_
        refine tp rfl (lv_move rfl) ?_
        exact d_closes ⟨look_b rfl rfl, look_row rfl 25 rfl s25, trivial⟩ 26 rfl rfl rfl hS (AgreeR.refl _) (t_sat (fun _ h => h) (hK (bs26, cp27) ⟨hf0, hf1⟩))
      · -- 27
        rintro ⟨bs26, cp27⟩ S hF hS D hp K hK
        try dsimp only at hF ⊢
        obtain ⟨hf0, hf1⟩ := hF
        have s25 := hp 25 rfl
        have s26 := hp 26 rfl
        refine d_need (small := [(89, (.bool true)), (90, (.pointer (some ⟨p1, 0, none⟩)))]) ⟨look_row rfl 25 rfl s25, look_row rfl 26 rfl s26, trivial⟩ ?_
        refine t_guard rfl rfl ?_
        refine tp rfl (lv_nilCheck rfl) ?_
        exact d_closes ⟨look_row rfl 25 rfl s25, look_row rfl 26 rfl s26, trivial⟩ 27 rfl rfl rfl hS (AgreeR.refl _) (t_sat (fun _ h => h) (hK (bs26, cp27) ⟨hf0, hf1⟩))
      · -- 28
        rintro ⟨bs26, cp27⟩ S hF hS D hp K hK
        try dsimp only at hF ⊢
        obtain ⟨hf0, hf1⟩ := hF
        have s25 := hp 25 rfl
        have s27 := hp 27 rfl
        refine d_need (small := [(89, (.bool true)), (91, (.pointer (some ⟨p1, 0, none⟩)))]) ⟨look_row rfl 25 rfl s25, look_row rfl 27 rfl s27, trivial⟩ ?_
        refine t_guard rfl rfl ?_
        refine tp rfl (lv_fieldAddr (o' := 0) Try.underlying37 rfl Try.sizeOf35 rfl rfl) ?_
        exact d_closes ⟨look_row rfl 25 rfl s25, look_row rfl 27 rfl s27, trivial⟩ 28 rfl rfl rfl hS (AgreeR.refl _) (t_sat (fun _ h => h) (hK (bs26, cp27) ⟨hf0, hf1⟩))
      · -- 29
        rintro ⟨bs26, cp27⟩ S hF hS D hp K hK
        try dsimp only at hF ⊢
        obtain ⟨hf0, hf1⟩ := hF
        have s25 := hp 25 rfl
        have s28 := hp 28 rfl
        refine d_need (small := [(89, (.bool true)), (92, (.pointer (some ⟨p1, 0, none⟩)))]) ⟨look_row rfl 25 rfl s25, look_row rfl 28 rfl s28, trivial⟩ ?_
        refine t_guard rfl rfl ?_
        refine tp rfl (lv_fieldAddr (o' := 0) Try.underlying35 rfl Try.sizeOf33 rfl rfl) ?_
        exact d_closes ⟨look_row rfl 25 rfl s25, look_row rfl 28 rfl s28, trivial⟩ 29 rfl rfl rfl hS (AgreeR.refl _) (t_sat (fun _ h => h) (hK (bs26, cp27) ⟨hf0, hf1⟩))
      · -- 30
        rintro ⟨bs26, cp27⟩ S hF hS D hp K hK
        try dsimp only at hF ⊢
        obtain ⟨hf0, hf1⟩ := hF
        have s29 := hp 29 rfl
        have s28 := D 29 28 rfl s29
        have s27 := D 28 27 rfl s28
        have s26 := D 27 26 rfl s27
        have s25 := D 26 25 rfl s26
        have s24 := D 25 24 rfl s25
        have s23 := D 24 23 rfl s24
        have s22 := D 23 22 rfl s23
        have s21 := D 22 21 rfl s22
        have s20 := D 21 20 rfl s21
        have s19 := D 20 19 rfl s20
        have s18 := D 19 18 rfl s19
        have s17 := D 18 17 rfl s18
        have s10 := D 17 10 rfl s17
        have s9 := D 10 9 rfl s10
        have s8 := D 9 8 rfl s9
        have s7 := D 8 7 rfl s8
        have hok28 := hf0 s7
        have hle29 := hf1 s7
        refine d_need (small := [(89, (.bool true)), (93, (.pointer (some ⟨p1, 0, none⟩)))]) ⟨look_row rfl 25 rfl s25, look_row rfl 29 rfl s29, trivial⟩ ?_
        refine t_guard rfl rfl ?_
        refine tp rfl (lv_load Try.isAgg33 rfl (gives_blk (.tail _ (.tail _ (.head _))) rfl)) ?_
        exact d_closes ⟨look_row rfl 25 rfl s25, look_row rfl 29 rfl s29, trivial⟩ 30 rfl rfl rfl hS (AgreeR.refl _) (t_sat (fun _ h => h) (hK (bs26, cp27) ⟨hf0, hf1⟩))
      · -- 31
        rintro ⟨bs26, cp27⟩ S hF hS D hp K hK
        try dsimp only at hF ⊢
        obtain ⟨hf0, hf1⟩ := hF
        have s25 := hp 25 rfl
        have s30 := hp 30 rfl
        refine d_need (small := [(89, (.bool true)), (94, (.pointer (some ⟨q2, 0, none⟩)))]) ⟨look_row rfl 25 rfl s25, look_row rfl 30 rfl s30, trivial⟩ ?_
        refine t_guard rfl rfl ?_
        refine t_f3 ?_
        refine tc rfl (en_fn Try.call15 rfl) (hlen_ok (n := n) (ks := duR (duR (prtK times n n) (min a b)) (max a b)) ) ?_
        rintro _ _ ⟨rfl, rfl⟩
        refine t_f3 ?_
        refine t_f3 ?_
        refine t_f3 ?_
        exact d_closes ⟨look_row rfl 25 rfl s25, look_row rfl 30 rfl s30, trivial⟩ 31 rfl rfl rfl hS (AgreeR.refl _) (t_sat (fun _ h => h) (hK (bs26, cp27) ⟨hf0, hf1⟩))
      · -- 32
        rintro ⟨bs26, cp27⟩ S hF hS D hp K hK
        try dsimp only at hF ⊢
        obtain ⟨hf0, hf1⟩ := hF
        have s25 := hp 25 rfl
        refine d_need (small := [(8, (.int .i64 ((n : Nat) : Int))), (89, (.bool true))]) ⟨look_b rfl rfl, look_row rfl 25 rfl s25, trivial⟩ ?_
        refine t_guard rfl rfl ?_
        refine tp rfl (lv_move rfl) ?_
        exact d_closes ⟨look_b rfl rfl, look_row rfl 25 rfl s25, trivial⟩ 32 rfl rfl rfl hS (AgreeR.refl _) (t_sat (fun _ h => h) (hK (bs26, cp27) ⟨hf0, hf1⟩))
      · -- 33
        rintro ⟨bs26, cp27⟩ S hF hS D hp K hK
        try dsimp only at hF ⊢
        obtain ⟨hf0, hf1⟩ := hF
        have s25 := hp 25 rfl
        refine d_need (small := [(12, (.slice bs22 (((dueL (prtK times n n) (min a b)).length) + ((dueL (duR (prtK times n n) (min a b)) (max a b)).length)) cp23)), (89, (.bool true))]) ⟨look_b rfl rfl, look_row rfl 25 rfl s25, trivial⟩ ?_
        refine t_guard rfl rfl ?_
        refine tp rfl (lv_move rfl) ?_
        exact d_closes ⟨look_b rfl rfl, look_row rfl 25 rfl s25, trivial⟩ 33 rfl rfl rfl hS (AgreeR.refl _) (t_sat (fun _ h => h) (hK (bs26, cp27) ⟨hf0, hf1⟩))
      · -- 34
        rintro ⟨bs26, cp27⟩ S hF hS D hp K hK
        try dsimp only at hF ⊢
        obtain ⟨hf0, hf1⟩ := hF
        have s25 := hp 25 rfl
        have s33 := hp 33 rfl
        refine d_need (small := [(89, (.bool true)), (97, (.slice bs22 (((dueL (prtK times n n) (min a b)).length) + ((dueL (duR (prtK times n n) (min a b)) (max a b)).length)) cp23))]) ⟨look_row rfl 25 rfl s25, look_row rfl 33 rfl s33, trivial⟩ ?_
        refine t_guard rfl rfl ?_
        refine tp rfl (lv_len Try.underlying30 rfl rfl) ?_
        exact d_closes ⟨look_row rfl 25 rfl s25, look_row rfl 33 rfl s33, trivial⟩ 34 rfl rfl rfl hS (AgreeR.refl _) (t_sat (fun _ h => h) (hK (bs26, cp27) ⟨hf0, hf1⟩))
      · -- 35
        rintro ⟨bs26, cp27⟩ S hF hS D hp K hK
        try dsimp only at hF ⊢
        obtain ⟨hf0, hf1⟩ := hF
        have s34 := hp 34 rfl
        have s33 := D 34 33 rfl s34
        have s25 := D 33 25 rfl s33
        have s24 := D 25 24 rfl s25
        have s23 := D 24 23 rfl s24
        have s22 := D 23 22 rfl s23
        have s21 := D 22 21 rfl s22
        have s20 := D 21 20 rfl s21
        have s19 := D 20 19 rfl s20
        have s18 := D 19 18 rfl s19
        have s17 := D 18 17 rfl s18
        have s10 := D 17 10 rfl s17
        have s9 := D 10 9 rfl s10
        have s8 := D 9 8 rfl s9
        have s7 := D 8 7 rfl s8
        have hok28 := hf0 s7
        have hle29 := hf1 s7
        have s32 := hp 32 rfl
        refine d_need (small := [(89, (.bool true)), (96, (.int .i64 ((n : Nat) : Int))), (98, (.int .i64 ((((dueL (prtK times n n) (min a b)).length) + ((dueL (duR (prtK times n n) (min a b)) (max a b)).length) : Nat) : Int)))]) ⟨look_row rfl 25 rfl s25, look_row rfl 32 rfl s32, look_row rfl 34 rfl s34, trivial⟩ ?_
        refine t_guard rfl rfl ?_
        refine tp rfl (lv_sub (c := ((n : Nat) : Int) - ((((dueL (prtK times n n) (min a b)).length) + ((dueL (duR (prtK times n n) (min a b)) (max a b)).length) : Nat) : Int)) rfl rfl (wr_i64 (by omega) (by omega))) ?_
        exact d_closes ⟨look_row rfl 25 rfl s25, look_row rfl 32 rfl s32, look_row rfl 34 rfl s34, trivial⟩ 35 rfl rfl rfl hS (AgreeR.refl _) (t_sat (fun _ h => h) (hK (bs26, cp27) ⟨hf0, hf1⟩))
      · -- 36
        rintro ⟨bs26, cp27⟩ S hF hS D hp K hK
        try dsimp only at hF ⊢
        obtain ⟨hf0, hf1⟩ := hF
        have s25 := hp 25 rfl
        have s31 := hp 31 rfl
        have s35 := hp 35 rfl
        refine d_need (small := [(89, (.bool true)), (95, (.int .i64 ((cntK (duR (duR (prtK times n n) (min a b)) (max a b)) : Nat) : Int))), (99, (.int .i64 (((n : Nat) : Int) - ((((dueL (prtK times n n) (min a b)).length) + ((dueL (duR (prtK times n n) (min a b)) (max a b)).length) : Nat) : Int))))]) ⟨look_row rfl 25 rfl s25, look_row rfl 31 rfl s31, look_row rfl 35 rfl s35, trivial⟩ ?_
        refine t_guard rfl rfl ?_
        refine tp rfl (lv_eql rfl rfl (beq_iff_eq.2 (by omega))) ?_
        exact d_closes ⟨look_row rfl 25 rfl s25, look_row rfl 31 rfl s31, look_row rfl 35 rfl s35, trivial⟩ 36 rfl rfl rfl hS (AgreeR.refl _) (t_sat (fun _ h => h) (hK (bs26, cp27) ⟨hf0, hf1⟩))
      · -- 37
        rintro ⟨bs26, cp27⟩ S hF hS D hp K hK
        try dsimp only at hF ⊢
        obtain ⟨hf0, hf1⟩ := hF
        have s25 := hp 25 rfl
        have s36 := hp 36 rfl
        refine d_need (small := [(89, (.bool true)), (100, (.bool true))]) ⟨look_row rfl 25 rfl s25, look_row rfl 36 rfl s36, trivial⟩ ?_
        refine tp rfl (lv_pick_t rfl rfl) ?_
        exact d_closes ⟨look_row rfl 25 rfl s25, look_row rfl 36 rfl s36, trivial⟩ 37 rfl rfl rfl hS (AgreeR.refl _) (t_sat (fun _ h => h) (hK (bs26, cp27) ⟨hf0, hf1⟩))
      · -- 38
        rintro ⟨bs26, cp27⟩ S hF hS D hp K hK
        try dsimp only at hF ⊢
        obtain ⟨hf0, hf1⟩ := hF
        have s37 := hp 37 rfl
        refine d_need (small := [(101, (.bool true))]) ⟨look_row rfl 37 rfl s37, trivial⟩ ?_
        refine tp rfl (lv_assign rfl) ?_
        exact d_closes ⟨look_row rfl 37 rfl s37, trivial⟩ 38 rfl rfl rfl hS (AgreeR.refl _) (t_sat (fun _ h => h) (hK (bs26, cp27) ⟨hf0, hf1⟩))
    · -- behind
      rintro ⟨bs26, cp27⟩ hF
      try dsimp only at hF ⊢
      obtain ⟨hf0, hf1⟩ := hF
      have hok28 := hf0 rfl
      have hle29 := hf1 rfl
      refine t_weak (E' := [(0, (.slice btb times.length ctb)), (1, (.int .i64 a)), (2, (.int .i64 b)), (6, (.bool true)), (7, (.bool true)), (8, (.int .i64 ((n : Nat) : Int))), (9, (.pointer (some ⟨p1, 0, none⟩))), (10, (.pointer (some ⟨p3, 0, none⟩))), (11, (.int .i64 ((i : Nat) : Int))), (12, (.slice bs22 (((dueL (prtK times n n) (min a b)).length) + ((dueL (duR (prtK times n n) (min a b)) (max a b)).length)) cp23)), (26, (.bool false)), (29, (.bool false))]) ⟨rfl, rfl, rfl, rfl, rfl, rfl, rfl, rfl, rfl, rfl, rfl, rfl, trivial⟩ ?_
      refine q_then_n (hK15 _ _ ?_)
      refine c_ret ?_
      refine t_drop ?_
      refine t_drop ?_
      refine t_drop ?_
      refine t_drop ?_
      refine t_drop ?_
      refine t_drop ?_
      refine t_drop ?_
      refine t_drop ?_
      refine q_ret rfl rfl ?_
      exact ⟨rfl, rfl⟩
end Go.Proofs.Ytombnfgkgcjihaa
