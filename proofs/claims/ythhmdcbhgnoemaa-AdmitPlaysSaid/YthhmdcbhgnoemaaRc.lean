/- The document's row: Add. -/
import Derived.Test.YthhmdcbhgnoemaaRb
import Derived.Test.YthhmdcbhgnoemaaAdl
set_option maxRecDepth 100000
set_option linter.unusedVariables false
set_option linter.unusedSimpArgs false
namespace Go.Proofs.Ythhmdcbhgnoemaa
open Go Go.Proofs Sp
set_option maxHeartbeats 4000000 in
theorem radd_ok {R : List HP} {p : Nat} {A Q : Int} {s : AS} (h : AOk (max A 1) (max Q 0) s) (x : Int) (hA : -9223372036854775808 ≤ A ∧ A ≤ 9223372036854775807) (hl : (rowOf s).length ≤ 1000) :
    Ok Try.prog 13 [(.pointer (some ⟨p, 0, none⟩)), (.int .i64 x)] ((RowO p A Q (rowOf s)) :: R)
      (fun v M => v = .tuple #[.int .i64 (addV (max A 1) (max Q 0) s x), .int .i64 (addEr (max A 1) (max Q 0) s x)] ∧ M = RowO p A Q (rowOf (addS (max A 1) (max Q 0) s x)) :: R) := by
  refine ok_of (N := 54) Try.func13 rfl rfl rfl (fun W => ?_)
  refine t_openRow (fun bs1 cp2 hok3 hle4 => ?_)
  refine c_seq (fun K1 hK1 => ?_)
  refine c_region ?_
  refine tp rfl (lv_assign rfl) ?_
  refine tp rfl (lv_assign rfl) ?_
  refine t_done ?_
  refine q_then_n (hK1 _ _ ?_)
  refine c_seq (fun K2 hK2 => ?_)
  refine c_seq (fun K3 hK3 => ?_)
  have hfd := find_there (s := s) (x := x)
  rcases ht : there s x with _ | _
  · -- false
    rw [ht] at hfd
    refine c_region ?_
    refine tp rfl (lv_move rfl) ?_
    refine tp rfl (lv_move rfl) ?_
    refine t_f1 ?_
    refine t_f1 ?_
    refine tc rfl (en_fn Try.call23 rfl) (rfind_ok (A := A) (Q := Q) (l := rowOf s) x hok3 (by omega)) ?_
    rintro _ _ ⟨rfl, rfl⟩
    refine tp rfl (lv_geq rfl rfl (decide_eq_false (of_decide_eq_false hfd))) ?_
    refine t_done ?_
    refine q_then_n (hK3 _ _ ?_)
    refine c_false rfl ?_
    refine c_skip ?_
    refine q_then_n (hK2 _ _ ?_)
    refine c_seq (fun K4 hK4 => ?_)
    refine c_draw (γ := Unit) (n := 12) Try.mixed rfl rfl (fun _ S => True) (fun _ => [(0, 13, (.pointer (some ⟨p, 0, none⟩))), (1, 14, (.pointer (some ⟨p, 0, none⟩))), (2, 15, (.pointer (some ⟨p, 2, none⟩))), (3, 16, (.slice bs1 ((rowOf s).length) cp2)), (4, 17, (.int .i64 (((rowOf s).length : Nat) : Int))), (5, 18, (.pointer (some ⟨p, 0, none⟩))), (6, 19, (.pointer (some ⟨p, 0, none⟩))), (7, 20, (.pointer (some ⟨p, 0, none⟩))), (8, 21, (.int .i64 A)), (9, 22, (.int .i64 (max A 1))), (10, 23, (.int .i64 ((((rowOf s).length : Nat) : Int) - (max A 1)))), (11, 6, (.int .i64 ((((rowOf s).length : Nat) : Int) - (max A 1))))]) (fun _ S => (Blk p [(.int .i64 A), (.int .i64 Q), (.slice bs1 ((rowOf s).length) cp2)] 29) :: (SlV 3 1 (.slice bs1 ((rowOf s).length) cp2) ((rowOf s).length) (ints .i64 (rowOf s))) :: R) (()) trivial (fun _ h => h) (fun _ _ h => h) ?_ ?_
    · -- steps
      refine ⟨?_, ?_, ?_, ?_, ?_, ?_, ?_, ?_, ?_, ?_, ?_, ?_, trivial⟩
      · -- 0
        rintro _ S hF hS D hp K hK
        try dsimp only at hF ⊢
        refine d_need (small := [(0, (.pointer (some ⟨p, 0, none⟩)))]) ⟨look_b rfl rfl, trivial⟩ ?_
        refine tp rfl (lv_move rfl) ?_
        exact d_closes ⟨look_b rfl rfl, trivial⟩ 0 rfl rfl rfl hS (AgreeR.refl _) (t_sat (fun _ h => h) (hK () trivial))
      · -- 1
        rintro _ S hF hS D hp K hK
        try dsimp only at hF ⊢
        have s0 := hp 0 rfl
        refine d_need (small := [(13, (.pointer (some ⟨p, 0, none⟩)))]) ⟨look_row rfl 0 rfl s0, trivial⟩ ?_
        refine tp rfl (lv_nilCheck rfl) ?_
        exact d_closes ⟨look_row rfl 0 rfl s0, trivial⟩ 1 rfl rfl rfl hS (AgreeR.refl _) (t_sat (fun _ h => h) (hK () trivial))
      · -- 2
        rintro _ S hF hS D hp K hK
        try dsimp only at hF ⊢
        have s1 := hp 1 rfl
        refine d_need (small := [(14, (.pointer (some ⟨p, 0, none⟩)))]) ⟨look_row rfl 1 rfl s1, trivial⟩ ?_
        refine tp rfl (lv_fieldAddr (o' := 2) Try.underlying29 rfl Try.sizeOf27 rfl rfl) ?_
        exact d_closes ⟨look_row rfl 1 rfl s1, trivial⟩ 2 rfl rfl rfl hS (AgreeR.refl _) (t_sat (fun _ h => h) (hK () trivial))
      · -- 3
        rintro _ S hF hS D hp K hK
        try dsimp only at hF ⊢
        have s2 := hp 2 rfl
        refine d_need (small := [(15, (.pointer (some ⟨p, 2, none⟩)))]) ⟨look_row rfl 2 rfl s2, trivial⟩ ?_
        refine tp rfl (lv_load Try.isAgg27 rfl (gives_blk (.head _) rfl)) ?_
        exact d_closes ⟨look_row rfl 2 rfl s2, trivial⟩ 3 rfl rfl rfl hS (AgreeR.refl _) (t_sat (fun _ h => h) (hK () trivial))
      · -- 4
        rintro _ S hF hS D hp K hK
        try dsimp only at hF ⊢
        have s3 := hp 3 rfl
        refine d_need (small := [(16, (.slice bs1 ((rowOf s).length) cp2))]) ⟨look_row rfl 3 rfl s3, trivial⟩ ?_
        refine tp rfl (lv_len Try.underlying27 rfl rfl) ?_
        exact d_closes ⟨look_row rfl 3 rfl s3, trivial⟩ 4 rfl rfl rfl hS (AgreeR.refl _) (t_sat (fun _ h => h) (hK () trivial))
      · -- 5
        rintro _ S hF hS D hp K hK
        try dsimp only at hF ⊢
        refine d_need (small := [(0, (.pointer (some ⟨p, 0, none⟩)))]) ⟨look_b rfl rfl, trivial⟩ ?_
        refine tp rfl (lv_move rfl) ?_
        exact d_closes ⟨look_b rfl rfl, trivial⟩ 5 rfl rfl rfl hS (AgreeR.refl _) (t_sat (fun _ h => h) (hK () trivial))
      · -- 6
        rintro _ S hF hS D hp K hK
        try dsimp only at hF ⊢
        have s5 := hp 5 rfl
        refine d_need (small := [(18, (.pointer (some ⟨p, 0, none⟩)))]) ⟨look_row rfl 5 rfl s5, trivial⟩ ?_
        refine tp rfl (lv_nilCheck rfl) ?_
        exact d_closes ⟨look_row rfl 5 rfl s5, trivial⟩ 6 rfl rfl rfl hS (AgreeR.refl _) (t_sat (fun _ h => h) (hK () trivial))
      · -- 7
        rintro _ S hF hS D hp K hK
        try dsimp only at hF ⊢
        have s6 := hp 6 rfl
        refine d_need (small := [(19, (.pointer (some ⟨p, 0, none⟩)))]) ⟨look_row rfl 6 rfl s6, trivial⟩ ?_
        refine tp rfl (lv_fieldAddr (o' := 0) Try.underlying29 rfl Try.sizeOf3 rfl rfl) ?_
        exact d_closes ⟨look_row rfl 6 rfl s6, trivial⟩ 7 rfl rfl rfl hS (AgreeR.refl _) (t_sat (fun _ h => h) (hK () trivial))
      · -- 8
        rintro _ S hF hS D hp K hK
        try dsimp only at hF ⊢
        have s7 := hp 7 rfl
        refine d_need (small := [(20, (.pointer (some ⟨p, 0, none⟩)))]) ⟨look_row rfl 7 rfl s7, trivial⟩ ?_
        refine tp rfl (lv_load Try.isAgg3 rfl (gives_blk (.head _) rfl)) ?_
        exact d_closes ⟨look_row rfl 7 rfl s7, trivial⟩ 8 rfl rfl rfl hS (AgreeR.refl _) (t_sat (fun _ h => h) (hK () trivial))
      · -- 9
        rintro _ S hF hS D hp K hK
        try dsimp only at hF ⊢
        have s8 := hp 8 rfl
        refine d_need (small := [(21, (.int .i64 A))]) ⟨look_row rfl 8 rfl s8, trivial⟩ ?_
        refine tp rfl (lv_max (c := max A 1) rfl rfl rfl) ?_
        exact d_closes ⟨look_row rfl 8 rfl s8, trivial⟩ 9 rfl rfl rfl hS (AgreeR.refl _) (t_sat (fun _ h => h) (hK () trivial))
      · -- 10
        rintro _ S hF hS D hp K hK
        try dsimp only at hF ⊢
        have s4 := hp 4 rfl
        have s9 := hp 9 rfl
        refine d_need (small := [(17, (.int .i64 (((rowOf s).length : Nat) : Int))), (22, (.int .i64 (max A 1)))]) ⟨look_row rfl 4 rfl s4, look_row rfl 9 rfl s9, trivial⟩ ?_
        refine tp rfl (lv_sub (c := (((rowOf s).length : Nat) : Int) - (max A 1)) rfl rfl (wr_i64 (by omega) (by omega))) ?_
        exact d_closes ⟨look_row rfl 4 rfl s4, look_row rfl 9 rfl s9, trivial⟩ 10 rfl rfl rfl hS (AgreeR.refl _) (t_sat (fun _ h => h) (hK () trivial))
      · -- 11
        rintro _ S hF hS D hp K hK
        try dsimp only at hF ⊢
        have s10 := hp 10 rfl
        refine d_need (small := [(23, (.int .i64 ((((rowOf s).length : Nat) : Int) - (max A 1))))]) ⟨look_row rfl 10 rfl s10, trivial⟩ ?_
        refine tp rfl (lv_assign rfl) ?_
        exact d_closes ⟨look_row rfl 10 rfl s10, trivial⟩ 11 rfl rfl rfl hS (AgreeR.refl _) (t_sat (fun _ h => h) (hK () trivial))
    · -- behind
      rintro _ hF
      try dsimp only at hF ⊢
      refine t_weak (E' := [(0, (.pointer (some ⟨p, 0, none⟩))), (1, (.int .i64 x)), (4, (.int .i64 0)), (5, (.int .i64 0)), (6, (.int .i64 ((((rowOf s).length : Nat) : Int) - (max A 1)))), (12, (.bool false))]) ⟨rfl, rfl, rfl, rfl, rfl, rfl, trivial⟩ ?_
      refine q_then_n (hK4 _ _ ?_)
      refine c_seq (fun K5 hK5 => ?_)
      refine c_seq (fun K6 hK6 => ?_)
      by_cases hf : aFull (max A 1) s = true ∧ qFull (max Q 0) s = true
      · -- full
        refine c_region ?_
        refine tp rfl (lv_move rfl) ?_
        refine tp rfl (lv_geq rfl rfl (decide_eq_true ((row_waits h).2 hf).1)) ?_
        refine tp rfl (lv_move rfl) ?_
        refine t_guard rfl rfl ?_
        refine tp rfl (lv_move rfl) ?_
        refine t_guard rfl rfl ?_
        refine tp rfl (lv_move rfl) ?_
        refine t_guard rfl rfl ?_
        refine tp rfl (lv_nilCheck rfl) ?_
        refine t_guard rfl rfl ?_
        refine tp rfl (lv_fieldAddr (o' := 1) Try.underlying29 rfl Try.sizeOf3 rfl rfl) ?_
        refine t_guard rfl rfl ?_
        refine tp rfl (lv_load Try.isAgg3 rfl (gives_blk (.head _) rfl)) ?_
        refine t_guard rfl rfl ?_
        refine tp rfl (lv_max (c := max Q 0) rfl rfl rfl) ?_
        refine t_guard rfl rfl ?_
        refine tp rfl (lv_geq rfl rfl (decide_eq_true ((row_waits h).2 hf).2)) ?_
        refine tp rfl (lv_pick_t rfl rfl) ?_
        refine t_done ?_
        refine q_then_n (hK6 _ _ ?_)
        refine c_true rfl ?_
        refine c_seq (fun K7 hK7 => ?_)
        refine c_region ?_
        refine tp rfl (lv_assign rfl) ?_
        refine tp rfl (lv_assign rfl) ?_
        refine t_done ?_
        refine q_then_n (hK7 _ _ ?_)
        refine c_ret ?_
        refine q_then_r ?_
        refine t_f1 ?_
        refine t_f1 ?_
        refine t_shutRow hok3 hle4 ?_
        refine q_ret2 rfl rfl rfl ?_
        obtain ⟨e1, e2, e3⟩ := row_full ht hf
        rw [e1, e2, e3]
        exact ⟨rfl, rfl⟩
      · -- room
        obtain ⟨e1, e2, e3⟩ := row_add h ht hf
        by_cases h0 : (((rowOf s).length : Nat) : Int) - max A 1 ≥ 0
        · -- True
         refine c_region ?_
         refine tp rfl (lv_move rfl) ?_
         refine tp rfl (lv_geq rfl rfl (decide_eq_true h0)) ?_
         refine tp rfl (lv_move rfl) ?_
         refine t_guard rfl rfl ?_
         refine tp rfl (lv_move rfl) ?_
         refine t_guard rfl rfl ?_
         refine tp rfl (lv_move rfl) ?_
         refine t_guard rfl rfl ?_
         refine tp rfl (lv_nilCheck rfl) ?_
         refine t_guard rfl rfl ?_
         refine tp rfl (lv_fieldAddr (o' := 1) Try.underlying29 rfl Try.sizeOf3 rfl rfl) ?_
         refine t_guard rfl rfl ?_
         refine tp rfl (lv_load Try.isAgg3 rfl (gives_blk (.head _) rfl)) ?_
         refine t_guard rfl rfl ?_
         refine tp rfl (lv_max (c := max Q 0) rfl rfl rfl) ?_
         refine t_guard rfl rfl ?_
         refine tp rfl (lv_geq rfl rfl (decide_eq_false (fun h2 => hf ((row_waits h).1 ⟨h0, h2⟩)))) ?_
         refine tp rfl (lv_pick_t rfl rfl) ?_
         refine t_done ?_
         refine q_then_n (hK6 _ _ ?_)
         refine c_false rfl ?_
         refine c_skip ?_
         refine q_then_n (hK5 _ _ ?_)
         refine c_seq (fun K7 hK7 => ?_)
         refine c_region ?_
         refine tp rfl (lv_move rfl) ?_
         refine tm rfl (mv_buildSlice (cs := []) Try.underlying27 Try.sizeOf3 Try.zeroValue3 (by decide) rfl rfl rfl rfl) ?_
         rintro _ _ ⟨bs5, cp6, hok7, hle8, rfl, rfl⟩
         refine tp rfl (lv_move rfl) ?_
         refine tp rfl (lv_nilCheck rfl) ?_
         refine tp rfl (lv_fieldAddr (o' := 2) Try.underlying29 rfl Try.sizeOf27 rfl rfl) ?_
         refine tp rfl (lv_load Try.isAgg27 rfl (gives_blk (.tail _ (.head _)) rfl)) ?_
         refine tm rfl (mv_append (i := Try.t3) Try.underlying27 Try.type3 rfl rfl rfl (by decide) rfl rfl hok3 (by first | (simp; done) | (simp; omega)) (rd_sl (.tail _ (.tail _ (.head _)))) ints_one (by rw [show Try.t3.bytes = 8 from rfl]; omega)) ?_
         rintro _ _ ⟨bs9, cp10, hok11, hle12, rfl, rfl⟩
         simp only [Nat.zero_add] at hok11 hle12 ⊢
         rw [List.nil_append]
         refine tp rfl (lv_move rfl) ?_
         refine tm rfl (mv_buildSlice (cs := [(.int .i64 x)]) Try.underlying27 Try.sizeOf3 Try.zeroValue3 (by decide) rfl rfl rfl rfl) ?_
         rintro _ _ ⟨bs13, cp14, hok15, hle16, rfl, rfl⟩
         refine t_f1 ?_
         refine tm rfl (mv_append (i := Try.t3) Try.underlying27 Try.type3 rfl rfl rfl (by decide) rfl rfl hok15 (by first | (simp; done) | (simp; omega)) (rd_sl (.tail _ (.head _))) (by simp [Value.oneCell']) (by rw [show Try.t3.bytes = 8 from rfl]; omega)) ?_
         rintro _ _ ⟨bs17, cp18, hok19, hle20, rfl, rfl⟩
         rw [show ints .i64 (rowOf s) ++ [(.int .i64 x)] = ints .i64 ((rowOf s) ++ [x]) from ints_snoc _ _ _]
         refine tp rfl (lv_nilCheck rfl) ?_
         refine tp rfl (lv_fieldAddr (o' := 2) Try.underlying29 rfl Try.sizeOf27 rfl rfl) ?_
         refine t_f2 ?_
         refine ts (sv_blk Try.sizeOf27 rfl rfl rfl (Nat.le_of_ble_eq_true rfl) rfl) ?_
         refine t_done ?_
         refine q_then_n (hK7 _ _ ?_)
         refine c_seq (fun K8 hK8 => ?_)
         refine c_region ?_
         have hnl : ((rowOf s).length) + 1 = (rowOf (addS (max A 1) (max Q 0) s x)).length := by rw [e1]; simp
         rw [show (rowOf s) ++ [x] = rowOf (addS (max A 1) (max Q 0) s x) from e1.symm, hnl]
         rw [hnl] at hok19 hle20
         have hnl2 : (rowOf s).length + 1 = (rowOf (addS (max A 1) (max Q 0) s x)).length := by rw [e1]; simp
         refine tp rfl (lv_move rfl) ?_
         refine tp rfl (lv_move rfl) ?_
         refine t_f1 ?_
         refine t_f1 ?_
         refine tc rfl (en_fn Try.call19 rfl) (rstate_ok (A := A) (Q := Q) (s := addS (max A 1) (max Q 0) s x) (h.add x) x hok19 (by omega)) ?_
         rintro _ _ ⟨rfl, rfl⟩
         refine tp rfl (lv_move rfl) ?_
         refine tp rfl (lv_extract rfl rfl) ?_
         refine tp rfl (lv_extract rfl rfl) ?_
         refine tp rfl (lv_assign rfl) ?_
         refine tp rfl (lv_assign rfl) ?_
         refine t_done ?_
         refine q_then_n (hK8 _ _ ?_)
         refine c_seq (fun K9 hK9 => ?_)
         refine c_region ?_
         refine tp rfl (lv_move rfl) ?_
         refine tp rfl (lv_assign rfl) ?_
         refine tp rfl (lv_assign rfl) ?_
         refine t_done ?_
         refine q_then_n (hK9 _ _ ?_)
         refine c_ret ?_
         refine t_f1 ?_
         refine t_f1 ?_
         refine t_shutRow hok19 hle20 ?_
         refine t_f1 ?_
         refine t_drop ?_
         refine t_f1 ?_
         refine t_drop ?_
         refine q_ret2 rfl rfl rfl ?_
         rw [e2, e3]
         exact ⟨rfl, rfl⟩
        · -- False
         refine c_region ?_
         refine tp rfl (lv_move rfl) ?_
         refine tp rfl (lv_geq rfl rfl (decide_eq_false h0)) ?_
         refine tp rfl (lv_move rfl) ?_
         refine t_skip rfl rfl rfl ?_
         refine t_skip rfl rfl rfl ?_
         refine t_skip rfl rfl rfl ?_
         refine t_skip rfl rfl rfl ?_
         refine t_skip rfl rfl rfl ?_
         refine t_skip rfl rfl rfl ?_
         refine t_skip rfl rfl rfl ?_
         refine tp rfl (lv_pick_f rfl rfl) ?_
         refine t_done ?_
         refine q_then_n (hK6 _ _ ?_)
         refine c_false rfl ?_
         refine c_skip ?_
         refine q_then_n (hK5 _ _ ?_)
         refine c_seq (fun K7 hK7 => ?_)
         refine c_region ?_
         refine tp rfl (lv_move rfl) ?_
         refine tm rfl (mv_buildSlice (cs := []) Try.underlying27 Try.sizeOf3 Try.zeroValue3 (by decide) rfl rfl rfl rfl) ?_
         rintro _ _ ⟨bs21, cp22, hok23, hle24, rfl, rfl⟩
         refine tp rfl (lv_move rfl) ?_
         refine tp rfl (lv_nilCheck rfl) ?_
         refine tp rfl (lv_fieldAddr (o' := 2) Try.underlying29 rfl Try.sizeOf27 rfl rfl) ?_
         refine tp rfl (lv_load Try.isAgg27 rfl (gives_blk (.tail _ (.head _)) rfl)) ?_
         refine tm rfl (mv_append (i := Try.t3) Try.underlying27 Try.type3 rfl rfl rfl (by decide) rfl rfl hok3 (by first | (simp; done) | (simp; omega)) (rd_sl (.tail _ (.tail _ (.head _)))) ints_one (by rw [show Try.t3.bytes = 8 from rfl]; omega)) ?_
         rintro _ _ ⟨bs25, cp26, hok27, hle28, rfl, rfl⟩
         simp only [Nat.zero_add] at hok27 hle28 ⊢
         rw [List.nil_append]
         refine tp rfl (lv_move rfl) ?_
         refine tm rfl (mv_buildSlice (cs := [(.int .i64 x)]) Try.underlying27 Try.sizeOf3 Try.zeroValue3 (by decide) rfl rfl rfl rfl) ?_
         rintro _ _ ⟨bs29, cp30, hok31, hle32, rfl, rfl⟩
         refine t_f1 ?_
         refine tm rfl (mv_append (i := Try.t3) Try.underlying27 Try.type3 rfl rfl rfl (by decide) rfl rfl hok31 (by first | (simp; done) | (simp; omega)) (rd_sl (.tail _ (.head _))) (by simp [Value.oneCell']) (by rw [show Try.t3.bytes = 8 from rfl]; omega)) ?_
         rintro _ _ ⟨bs33, cp34, hok35, hle36, rfl, rfl⟩
         rw [show ints .i64 (rowOf s) ++ [(.int .i64 x)] = ints .i64 ((rowOf s) ++ [x]) from ints_snoc _ _ _]
         refine tp rfl (lv_nilCheck rfl) ?_
         refine tp rfl (lv_fieldAddr (o' := 2) Try.underlying29 rfl Try.sizeOf27 rfl rfl) ?_
         refine t_f2 ?_
         refine ts (sv_blk Try.sizeOf27 rfl rfl rfl (Nat.le_of_ble_eq_true rfl) rfl) ?_
         refine t_done ?_
         refine q_then_n (hK7 _ _ ?_)
         refine c_seq (fun K8 hK8 => ?_)
         refine c_region ?_
         have hnl : ((rowOf s).length) + 1 = (rowOf (addS (max A 1) (max Q 0) s x)).length := by rw [e1]; simp
         rw [show (rowOf s) ++ [x] = rowOf (addS (max A 1) (max Q 0) s x) from e1.symm, hnl]
         rw [hnl] at hok35 hle36
         have hnl2 : (rowOf s).length + 1 = (rowOf (addS (max A 1) (max Q 0) s x)).length := by rw [e1]; simp
         refine tp rfl (lv_move rfl) ?_
         refine tp rfl (lv_move rfl) ?_
         refine t_f1 ?_
         refine t_f1 ?_
         refine tc rfl (en_fn Try.call19 rfl) (rstate_ok (A := A) (Q := Q) (s := addS (max A 1) (max Q 0) s x) (h.add x) x hok35 (by omega)) ?_
         rintro _ _ ⟨rfl, rfl⟩
         refine tp rfl (lv_move rfl) ?_
         refine tp rfl (lv_extract rfl rfl) ?_
         refine tp rfl (lv_extract rfl rfl) ?_
         refine tp rfl (lv_assign rfl) ?_
         refine tp rfl (lv_assign rfl) ?_
         refine t_done ?_
         refine q_then_n (hK8 _ _ ?_)
         refine c_seq (fun K9 hK9 => ?_)
         refine c_region ?_
         refine tp rfl (lv_move rfl) ?_
         refine tp rfl (lv_assign rfl) ?_
         refine tp rfl (lv_assign rfl) ?_
         refine t_done ?_
         refine q_then_n (hK9 _ _ ?_)
         refine c_ret ?_
         refine t_f1 ?_
         refine t_f1 ?_
         refine t_shutRow hok35 hle36 ?_
         refine t_f1 ?_
         refine t_drop ?_
         refine t_f1 ?_
         refine t_drop ?_
         refine q_ret2 rfl rfl rfl ?_
         rw [e2, e3]
         exact ⟨rfl, rfl⟩
  · -- true
    rw [ht] at hfd
    refine c_region ?_
    refine tp rfl (lv_move rfl) ?_
    refine tp rfl (lv_move rfl) ?_
    refine t_f1 ?_
    refine t_f1 ?_
    refine tc rfl (en_fn Try.call23 rfl) (rfind_ok (A := A) (Q := Q) (l := rowOf s) x hok3 (by omega)) ?_
    rintro _ _ ⟨rfl, rfl⟩
    refine tp rfl (lv_geq rfl rfl (decide_eq_true (of_decide_eq_true hfd))) ?_
    refine t_done ?_
    refine q_then_n (hK3 _ _ ?_)
    refine c_true rfl ?_
    refine c_seq (fun K4 hK4 => ?_)
    refine c_region ?_
    refine tp rfl (lv_assign rfl) ?_
    refine tp rfl (lv_assign rfl) ?_
    refine t_done ?_
    refine q_then_n (hK4 _ _ ?_)
    refine c_ret ?_
    refine q_then_r ?_
    refine t_f1 ?_
    refine t_f1 ?_
    refine t_shutRow hok3 hle4 ?_
    refine q_ret2 rfl rfl rfl ?_
    have hs : addS (max A 1) (max Q 0) s x = s := by unfold addS; rw [ht]; rfl
    rw [hs]
    exact ⟨by unfold addV addEr; rw [ht]; rfl, rfl⟩
end Go.Proofs.Ythhmdcbhgnoemaa
