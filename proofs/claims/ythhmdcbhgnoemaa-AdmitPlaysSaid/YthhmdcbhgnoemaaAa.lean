/- Rows of admit: contracts. -/
import Derived.Test.YthhmdcbhgnoemaaSa
import Derived.Test.YthhmdcbhgnoemaaAdm
set_option maxRecDepth 100000
set_option linter.unusedVariables false
set_option linter.unusedSimpArgs false
namespace Go.Proofs.Ythhmdcbhgnoemaa
open Go Go.Proofs Sp
theorem radd0_ok {R : List HP} {p : Nat} {A : Int} {bl : Option Addr} {cl : Nat} {u1 u2 : Value} {l : List Int} (x : Int) (okl : SlOk bl l.length) (hl : l.length ≤ 1000000) :
    Ok Try.prog 22 [(.pointer (some ⟨p, 0, none⟩)), (.int .i64 x)] ((Blk p [(.int .i64 A), (.slice bl l.length cl), u1, u2] 49) :: (SlV 3 1 (.slice bl l.length cl) l.length (ints .i64 l)) :: R)
      (fun v M => ∃ bs cp, SlOk bs (bif !decide ((l.length : Int) ≥ A) then l ++ [x] else l).length ∧ (bif !decide ((l.length : Int) ≥ A) then l ++ [x] else l).length ≤ cp ∧ v = .bool (!decide ((l.length : Int) ≥ A)) ∧ M = Blk p [.int .i64 A, .slice bs (bif !decide ((l.length : Int) ≥ A) then l ++ [x] else l).length cp, u1, u2] 49 :: SlV 3 1 (.slice bs (bif !decide ((l.length : Int) ≥ A) then l ++ [x] else l).length cp) (bif !decide ((l.length : Int) ≥ A) then l ++ [x] else l).length (ints .i64 (bif !decide ((l.length : Int) ≥ A) then l ++ [x] else l)) :: R) := by
  refine ok_of (N := 25) Try.func22 rfl rfl rfl (fun W => ?_)
  refine t_f1 ?_
  refine t_learn (fun _ h => (slv_facts h).2.1) (fun hcl => ?_)
  refine t_f1 ?_
  refine c_seq (fun K1 hK1 => ?_)
  refine c_region ?_
  refine tp rfl (lv_assign rfl) ?_
  refine t_done ?_
  refine q_then_n (hK1 _ _ ?_)
  refine c_seq (fun K2 hK2 => ?_)
  refine c_seq (fun K3 hK3 => ?_)
  by_cases h1 : ((l.length : Nat) : Int) ≥ A
  · -- yes
    refine c_draw (γ := Unit) (n := 10) Try.mixed rfl rfl (fun _ S => True) (fun _ => [(0, 5, (.pointer (some ⟨p, 0, none⟩))), (1, 6, (.pointer (some ⟨p, 0, none⟩))), (2, 7, (.pointer (some ⟨p, 1, none⟩))), (3, 8, (.slice bl l.length cl)), (4, 9, (.int .i64 ((l.length : Nat) : Int))), (5, 10, (.pointer (some ⟨p, 0, none⟩))), (6, 11, (.pointer (some ⟨p, 0, none⟩))), (7, 12, (.pointer (some ⟨p, 0, none⟩))), (8, 13, (.int .i64 A)), (9, 14, (.bool true))]) (fun _ S => (Blk p [(.int .i64 A), (.slice bl l.length cl), u1, u2] 49) :: (SlV 3 1 (.slice bl l.length cl) l.length (ints .i64 l)) :: R) (()) trivial (fun _ h => h) (fun _ _ h => h) ?_ ?_
    · -- steps
      refine ⟨?_, ?_, ?_, ?_, ?_, ?_, ?_, ?_, ?_, ?_, trivial⟩
      · -- 0
        rintro _ S hF hS D hp K hK
        try dsimp only at hF ⊢
        refine d_need (small := [(0, (.pointer (some ⟨p, 0, none⟩)))]) ⟨look_b rfl rfl, trivial⟩ ?_
        refine tp rfl (lv_move rfl) ?_
        exact d_closes ⟨look_b rfl rfl, trivial⟩ 0 rfl rfl rfl hS (AgreeR.refl _) (t_sat (fun _ h => h) (hK () trivial))
      · -- 1
        rintro _ S hF hS D hp K hK
        try dsimp only at hF ⊢
        have s0 := hp 0 rfl
        refine d_need (small := [(5, (.pointer (some ⟨p, 0, none⟩)))]) ⟨look_row rfl 0 rfl s0, trivial⟩ ?_
        refine tp rfl (lv_nilCheck rfl) ?_
        exact d_closes ⟨look_row rfl 0 rfl s0, trivial⟩ 1 rfl rfl rfl hS (AgreeR.refl _) (t_sat (fun _ h => h) (hK () trivial))
      · -- 2
        rintro _ S hF hS D hp K hK
        try dsimp only at hF ⊢
        have s1 := hp 1 rfl
        refine d_need (small := [(6, (.pointer (some ⟨p, 0, none⟩)))]) ⟨look_row rfl 1 rfl s1, trivial⟩ ?_
        refine tp rfl (lv_fieldAddr (o' := 1) Try.underlying47 rfl Try.sizeOf27 rfl rfl) ?_
        exact d_closes ⟨look_row rfl 1 rfl s1, trivial⟩ 2 rfl rfl rfl hS (AgreeR.refl _) (t_sat (fun _ h => h) (hK () trivial))
      · -- 3
        rintro _ S hF hS D hp K hK
        try dsimp only at hF ⊢
        have s2 := hp 2 rfl
        refine d_need (small := [(7, (.pointer (some ⟨p, 1, none⟩)))]) ⟨look_row rfl 2 rfl s2, trivial⟩ ?_
        refine tp rfl (lv_load Try.isAgg27 rfl (gives_blk (.head _) rfl)) ?_
        exact d_closes ⟨look_row rfl 2 rfl s2, trivial⟩ 3 rfl rfl rfl hS (AgreeR.refl _) (t_sat (fun _ h => h) (hK () trivial))
      · -- 4
        rintro _ S hF hS D hp K hK
        try dsimp only at hF ⊢
        have s3 := hp 3 rfl
        refine d_need (small := [(8, (.slice bl l.length cl))]) ⟨look_row rfl 3 rfl s3, trivial⟩ ?_
        refine tp rfl (lv_len Try.underlying27 rfl rfl) ?_
        exact d_closes ⟨look_row rfl 3 rfl s3, trivial⟩ 4 rfl rfl rfl hS (AgreeR.refl _) (t_sat (fun _ h => h) (hK () trivial))
      · -- 5
        rintro _ S hF hS D hp K hK
        try dsimp only at hF ⊢
        refine d_need (small := [(0, (.pointer (some ⟨p, 0, none⟩)))]) ⟨look_b rfl rfl, trivial⟩ ?_
        refine tp rfl (lv_move rfl) ?_
        exact d_closes ⟨look_b rfl rfl, trivial⟩ 5 rfl rfl rfl hS (AgreeR.refl _) (t_sat (fun _ h => h) (hK () trivial))
      · -- 6
        rintro _ S hF hS D hp K hK
        try dsimp only at hF ⊢
        have s5 := hp 5 rfl
        refine d_need (small := [(10, (.pointer (some ⟨p, 0, none⟩)))]) ⟨look_row rfl 5 rfl s5, trivial⟩ ?_
        refine tp rfl (lv_nilCheck rfl) ?_
        exact d_closes ⟨look_row rfl 5 rfl s5, trivial⟩ 6 rfl rfl rfl hS (AgreeR.refl _) (t_sat (fun _ h => h) (hK () trivial))
      · -- 7
        rintro _ S hF hS D hp K hK
        try dsimp only at hF ⊢
        have s6 := hp 6 rfl
        refine d_need (small := [(11, (.pointer (some ⟨p, 0, none⟩)))]) ⟨look_row rfl 6 rfl s6, trivial⟩ ?_
        refine tp rfl (lv_fieldAddr (o' := 0) Try.underlying47 rfl Try.sizeOf3 rfl rfl) ?_
        exact d_closes ⟨look_row rfl 6 rfl s6, trivial⟩ 7 rfl rfl rfl hS (AgreeR.refl _) (t_sat (fun _ h => h) (hK () trivial))
      · -- 8
        rintro _ S hF hS D hp K hK
        try dsimp only at hF ⊢
        have s7 := hp 7 rfl
        refine d_need (small := [(12, (.pointer (some ⟨p, 0, none⟩)))]) ⟨look_row rfl 7 rfl s7, trivial⟩ ?_
        refine tp rfl (lv_load Try.isAgg3 rfl (gives_blk (.head _) rfl)) ?_
        exact d_closes ⟨look_row rfl 7 rfl s7, trivial⟩ 8 rfl rfl rfl hS (AgreeR.refl _) (t_sat (fun _ h => h) (hK () trivial))
      · -- 9
        rintro _ S hF hS D hp K hK
        try dsimp only at hF ⊢
        have s4 := hp 4 rfl
        have s8 := hp 8 rfl
        refine d_need (small := [(9, (.int .i64 ((l.length : Nat) : Int))), (13, (.int .i64 A))]) ⟨look_row rfl 4 rfl s4, look_row rfl 8 rfl s8, trivial⟩ ?_
        refine tp rfl (lv_geq rfl rfl (decide_eq_true h1)) ?_
        exact d_closes ⟨look_row rfl 4 rfl s4, look_row rfl 8 rfl s8, trivial⟩ 9 rfl rfl rfl hS (AgreeR.refl _) (t_sat (fun _ h => h) (hK () trivial))
    · -- behind
      rintro _ hF
      try dsimp only at hF ⊢
      refine t_weak (E' := [(0, (.pointer (some ⟨p, 0, none⟩))), (1, (.int .i64 x)), (4, (.bool false)), (14, (.bool true))]) ⟨rfl, rfl, rfl, rfl, trivial⟩ ?_
      refine q_then_n (hK3 _ _ ?_)
      refine c_true rfl ?_
      refine c_seq (fun K4 hK4 => ?_)
      refine c_region ?_
      refine tp rfl (lv_assign rfl) ?_
      refine t_done ?_
      refine q_then_n (hK4 _ _ ?_)
      refine c_ret ?_
      refine q_then_r ?_
      refine q_ret rfl rfl ?_
      rw [show decide ((l.length : Int) ≥ A) = true from (decide_eq_true h1)]
      exact ⟨_, _, okl, hcl, rfl, rfl⟩
  · -- no
    refine c_draw (γ := Unit) (n := 10) Try.mixed rfl rfl (fun _ S => True) (fun _ => [(0, 5, (.pointer (some ⟨p, 0, none⟩))), (1, 6, (.pointer (some ⟨p, 0, none⟩))), (2, 7, (.pointer (some ⟨p, 1, none⟩))), (3, 8, (.slice bl l.length cl)), (4, 9, (.int .i64 ((l.length : Nat) : Int))), (5, 10, (.pointer (some ⟨p, 0, none⟩))), (6, 11, (.pointer (some ⟨p, 0, none⟩))), (7, 12, (.pointer (some ⟨p, 0, none⟩))), (8, 13, (.int .i64 A)), (9, 14, (.bool false))]) (fun _ S => (Blk p [(.int .i64 A), (.slice bl l.length cl), u1, u2] 49) :: (SlV 3 1 (.slice bl l.length cl) l.length (ints .i64 l)) :: R) (()) trivial (fun _ h => h) (fun _ _ h => h) ?_ ?_
    · -- steps
      refine ⟨?_, ?_, ?_, ?_, ?_, ?_, ?_, ?_, ?_, ?_, trivial⟩
      · -- 0
        rintro _ S hF hS D hp K hK
        try dsimp only at hF ⊢
        refine d_need (small := [(0, (.pointer (some ⟨p, 0, none⟩)))]) ⟨look_b rfl rfl, trivial⟩ ?_
        refine tp rfl (lv_move rfl) ?_
        exact d_closes ⟨look_b rfl rfl, trivial⟩ 0 rfl rfl rfl hS (AgreeR.refl _) (t_sat (fun _ h => h) (hK () trivial))
      · -- 1
        rintro _ S hF hS D hp K hK
        try dsimp only at hF ⊢
        have s0 := hp 0 rfl
        refine d_need (small := [(5, (.pointer (some ⟨p, 0, none⟩)))]) ⟨look_row rfl 0 rfl s0, trivial⟩ ?_
        refine tp rfl (lv_nilCheck rfl) ?_
        exact d_closes ⟨look_row rfl 0 rfl s0, trivial⟩ 1 rfl rfl rfl hS (AgreeR.refl _) (t_sat (fun _ h => h) (hK () trivial))
      · -- 2
        rintro _ S hF hS D hp K hK
        try dsimp only at hF ⊢
        have s1 := hp 1 rfl
        refine d_need (small := [(6, (.pointer (some ⟨p, 0, none⟩)))]) ⟨look_row rfl 1 rfl s1, trivial⟩ ?_
        refine tp rfl (lv_fieldAddr (o' := 1) Try.underlying47 rfl Try.sizeOf27 rfl rfl) ?_
        exact d_closes ⟨look_row rfl 1 rfl s1, trivial⟩ 2 rfl rfl rfl hS (AgreeR.refl _) (t_sat (fun _ h => h) (hK () trivial))
      · -- 3
        rintro _ S hF hS D hp K hK
        try dsimp only at hF ⊢
        have s2 := hp 2 rfl
        refine d_need (small := [(7, (.pointer (some ⟨p, 1, none⟩)))]) ⟨look_row rfl 2 rfl s2, trivial⟩ ?_
        refine tp rfl (lv_load Try.isAgg27 rfl (gives_blk (.head _) rfl)) ?_
        exact d_closes ⟨look_row rfl 2 rfl s2, trivial⟩ 3 rfl rfl rfl hS (AgreeR.refl _) (t_sat (fun _ h => h) (hK () trivial))
      · -- 4
        rintro _ S hF hS D hp K hK
        try dsimp only at hF ⊢
        have s3 := hp 3 rfl
        refine d_need (small := [(8, (.slice bl l.length cl))]) ⟨look_row rfl 3 rfl s3, trivial⟩ ?_
        refine tp rfl (lv_len Try.underlying27 rfl rfl) ?_
        exact d_closes ⟨look_row rfl 3 rfl s3, trivial⟩ 4 rfl rfl rfl hS (AgreeR.refl _) (t_sat (fun _ h => h) (hK () trivial))
      · -- 5
        rintro _ S hF hS D hp K hK
        try dsimp only at hF ⊢
        refine d_need (small := [(0, (.pointer (some ⟨p, 0, none⟩)))]) ⟨look_b rfl rfl, trivial⟩ ?_
        refine tp rfl (lv_move rfl) ?_
        exact d_closes ⟨look_b rfl rfl, trivial⟩ 5 rfl rfl rfl hS (AgreeR.refl _) (t_sat (fun _ h => h) (hK () trivial))
      · -- 6
        rintro _ S hF hS D hp K hK
        try dsimp only at hF ⊢
        have s5 := hp 5 rfl
        refine d_need (small := [(10, (.pointer (some ⟨p, 0, none⟩)))]) ⟨look_row rfl 5 rfl s5, trivial⟩ ?_
        refine tp rfl (lv_nilCheck rfl) ?_
        exact d_closes ⟨look_row rfl 5 rfl s5, trivial⟩ 6 rfl rfl rfl hS (AgreeR.refl _) (t_sat (fun _ h => h) (hK () trivial))
      · -- 7
        rintro _ S hF hS D hp K hK
        try dsimp only at hF ⊢
        have s6 := hp 6 rfl
        refine d_need (small := [(11, (.pointer (some ⟨p, 0, none⟩)))]) ⟨look_row rfl 6 rfl s6, trivial⟩ ?_
        refine tp rfl (lv_fieldAddr (o' := 0) Try.underlying47 rfl Try.sizeOf3 rfl rfl) ?_
        exact d_closes ⟨look_row rfl 6 rfl s6, trivial⟩ 7 rfl rfl rfl hS (AgreeR.refl _) (t_sat (fun _ h => h) (hK () trivial))
      · -- 8
        rintro _ S hF hS D hp K hK
        try dsimp only at hF ⊢
        have s7 := hp 7 rfl
        refine d_need (small := [(12, (.pointer (some ⟨p, 0, none⟩)))]) ⟨look_row rfl 7 rfl s7, trivial⟩ ?_
        refine tp rfl (lv_load Try.isAgg3 rfl (gives_blk (.head _) rfl)) ?_
        exact d_closes ⟨look_row rfl 7 rfl s7, trivial⟩ 8 rfl rfl rfl hS (AgreeR.refl _) (t_sat (fun _ h => h) (hK () trivial))
      · -- 9
        rintro _ S hF hS D hp K hK
        try dsimp only at hF ⊢
        have s4 := hp 4 rfl
        have s8 := hp 8 rfl
        refine d_need (small := [(9, (.int .i64 ((l.length : Nat) : Int))), (13, (.int .i64 A))]) ⟨look_row rfl 4 rfl s4, look_row rfl 8 rfl s8, trivial⟩ ?_
        refine tp rfl (lv_geq rfl rfl (decide_eq_false h1)) ?_
        exact d_closes ⟨look_row rfl 4 rfl s4, look_row rfl 8 rfl s8, trivial⟩ 9 rfl rfl rfl hS (AgreeR.refl _) (t_sat (fun _ h => h) (hK () trivial))
    · -- behind
      rintro _ hF
      try dsimp only at hF ⊢
      refine t_weak (E' := [(0, (.pointer (some ⟨p, 0, none⟩))), (1, (.int .i64 x)), (4, (.bool false)), (14, (.bool false))]) ⟨rfl, rfl, rfl, rfl, trivial⟩ ?_
      refine q_then_n (hK3 _ _ ?_)
      refine c_false rfl ?_
      refine c_skip ?_
      refine q_then_n (hK2 _ _ ?_)
      refine c_seq (fun K4 hK4 => ?_)
      refine c_region ?_
      refine tp rfl (lv_move rfl) ?_
      refine tp rfl (lv_move rfl) ?_
      refine tp rfl (lv_nilCheck rfl) ?_
      refine tp rfl (lv_fieldAddr (o' := 1) Try.underlying47 rfl Try.sizeOf27 rfl rfl) ?_
      refine tp rfl (lv_load Try.isAgg27 rfl (gives_blk (.head _) rfl)) ?_
      refine tp rfl (lv_move rfl) ?_
      refine tm rfl (mv_buildSlice (cs := [(.int .i64 x)]) Try.underlying27 Try.sizeOf3 Try.zeroValue3 (by decide) rfl rfl rfl rfl) ?_
      rintro _ _ ⟨bs2, cp3, hok4, hle5, rfl, rfl⟩
      refine t_f2 ?_
      refine tm rfl (mv_append (i := Try.t3) Try.underlying27 Try.type3 rfl rfl rfl (by decide) rfl rfl hok4 (by simp) (rd_sl (.tail _ (.head _))) (by simp [Value.oneCell']) (by rw [show Try.t3.bytes = 8 from rfl]; omega)) ?_
      rintro _ _ ⟨bs6, cp7, hok8, hle9, rfl, rfl⟩
      rw [show ints .i64 l ++ [(.int .i64 x)] = ints .i64 (l ++ [x]) from ints_snoc _ _ _]
      rw [show l.length + 1 = (l ++ [x]).length from by simp] at hok8 hle9 ⊢
      refine tp rfl (lv_nilCheck rfl) ?_
      refine tp rfl (lv_fieldAddr (o' := 1) Try.underlying47 rfl Try.sizeOf27 rfl rfl) ?_
      refine t_f2 ?_
      refine ts (sv_blk Try.sizeOf27 rfl rfl rfl (Nat.le_of_ble_eq_true rfl) rfl) ?_
      refine t_done ?_
      refine q_then_n (hK4 _ _ ?_)
      refine c_seq (fun K5 hK5 => ?_)
      refine c_region ?_
      refine tp rfl (lv_assign rfl) ?_
      refine t_done ?_
      refine q_then_n (hK5 _ _ ?_)
      refine c_ret ?_
      refine t_f2 ?_
      refine t_drop ?_
      refine q_ret rfl rfl ?_
      rw [show decide ((l.length : Int) ≥ A) = false from (decide_eq_false h1)]
      exact ⟨_, _, hok8, hle9, rfl, rfl⟩

theorem rdrop0_ok {R : List HP} {p : Nat} {A : Int} {bl : Option Addr} {cl : Nat} {u1 u2 : Value} {l : List Int} (x : Int) (okl : SlOk bl l.length) (hl : l.length ≤ 1000000) :
    Ok Try.prog 24 [(.pointer (some ⟨p, 0, none⟩)), (.int .i64 x)] ((Blk p [(.int .i64 A), (.slice bl l.length cl), u1, u2] 49) :: (SlV 3 1 (.slice bl l.length cl) l.length (ints .i64 l)) :: R)
      (fun v M => SlOk bl (l.erase x).length ∧ v = .bool (l.contains x) ∧ M = Blk p [.int .i64 A, .slice bl (l.erase x).length cl, u1, u2] 49 :: SlV 3 1 (.slice bl (l.erase x).length cl) (l.erase x).length (ints .i64 (l.erase x)) :: R) := by
  refine ok_of (N := 25) Try.func24 rfl rfl rfl (fun W => ?_)
  refine c_seq (fun K1 hK1 => ?_)
  refine c_region ?_
  refine tp rfl (lv_assign rfl) ?_
  refine t_done ?_
  refine q_then_n (hK1 _ _ ?_)
  refine c_seq (fun K2 hK2 => ?_)
  refine c_region ?_
  refine tp rfl (lv_move rfl) ?_
  refine tp rfl (lv_nilCheck rfl) ?_
  refine tp rfl (lv_fieldAddr (o' := 1) Try.underlying47 rfl Try.sizeOf27 rfl rfl) ?_
  refine tp rfl (lv_load Try.isAgg27 rfl (gives_blk (.head _) rfl)) ?_
  refine tp rfl (lv_move rfl) ?_
  refine tc rfl (en_fn Try.call27 rfl) (sindex_ok l x (rd_sl (.tail _ (.head _))) okl (by first | omega | (simp; omega) | (simp; done))) ?_
  rintro _ _ ⟨rfl, rfl⟩
  refine tp rfl (lv_assign rfl) ?_
  refine t_done ?_
  refine q_then_n (hK2 _ _ ?_)
  refine c_seq (fun K3 hK3 => ?_)
  refine c_seq (fun K4 hK4 => ?_)
  refine c_region ?_
  refine tp rfl (lv_move rfl) ?_
  by_cases h1 : (idxF (fun y => decide (x = y)) l) < 0
  · -- yes
    refine tp rfl (lv_lss rfl rfl (decide_eq_true h1)) ?_
    refine t_done ?_
    refine q_then_n (hK4 _ _ ?_)
    refine c_true rfl ?_
    refine c_seq (fun K5 hK5 => ?_)
    refine c_region ?_
    refine tp rfl (lv_assign rfl) ?_
    refine t_done ?_
    refine q_then_n (hK5 _ _ ?_)
    refine c_ret ?_
    refine q_then_r ?_
    refine q_ret rfl rfl ?_
    have hc := idx_none (v := x) (xs := l) ‹_›
    rw [hc, List.erase_of_not_mem (by simpa using hc)]
    exact ⟨okl, rfl, rfl⟩
  · -- no
    refine tp rfl (lv_lss rfl rfl (decide_eq_false h1)) ?_
    refine t_done ?_
    refine q_then_n (hK4 _ _ ?_)
    refine c_false rfl ?_
    refine c_skip ?_
    refine q_then_n (hK3 _ _ ?_)
    refine c_seq (fun K5 hK5 => ?_)
    refine c_region ?_
    have hi := idx_erase (v := x) (xs := l) (by omega)
    rw [show idxF (fun y => decide (x = y)) l = ((idxF (fun y => decide (x = y)) l).toNat : Int) by omega]
    refine tp rfl (lv_move rfl) ?_
    refine tp rfl (lv_move rfl) ?_
    refine tp rfl (lv_nilCheck rfl) ?_
    refine tp rfl (lv_fieldAddr (o' := 1) Try.underlying47 rfl Try.sizeOf27 rfl rfl) ?_
    refine tp rfl (lv_load Try.isAgg27 rfl (gives_blk (.head _) rfl)) ?_
    refine tp rfl (lv_move rfl) ?_
    refine tp rfl (lv_move rfl) ?_
    refine tp rfl (lv_add (c := (((idxF (fun y => decide (x = y)) l).toNat + 1 : Nat) : Int)) rfl rfl (wr_i64_succ (by omega))) ?_
    refine t_f1 ?_
    refine tc rfl (en_fn Try.call28 rfl) (sdelete_ok (cx := cl) l ((idxF (fun y => decide (x = y)) l).toNat) hi.2.1) ?_
    rintro _ _ ⟨rfl, rfl⟩
    refine tp rfl (lv_nilCheck rfl) ?_
    refine tp rfl (lv_fieldAddr (o' := 1) Try.underlying47 rfl Try.sizeOf27 rfl rfl) ?_
    refine t_f1 ?_
    refine ts (sv_blk Try.sizeOf27 rfl rfl rfl (Nat.le_of_ble_eq_true rfl) rfl) ?_
    refine t_done ?_
    refine q_then_n (hK5 _ _ ?_)
    refine c_seq (fun K6 hK6 => ?_)
    refine c_region ?_
    refine tp rfl (lv_assign rfl) ?_
    refine t_done ?_
    refine q_then_n (hK6 _ _ ?_)
    refine c_ret ?_
    rw [hi.2.2]
    refine q_ret rfl rfl ?_
    rw [hi.1]
    exact ⟨fun _ => okl (by omega), rfl, rfl⟩

theorem rhas0_ok {R : List HP} {p : Nat} {A : Int} {bl : Option Addr} {cl : Nat} {u1 u2 : Value} {l : List Int} (x : Int) (okl : SlOk bl l.length) (hl : l.length ≤ 1000000) :
    Ok Try.prog 26 [(.pointer (some ⟨p, 0, none⟩)), (.int .i64 x)] ((Blk p [(.int .i64 A), (.slice bl l.length cl), u1, u2] 49) :: (SlV 3 1 (.slice bl l.length cl) l.length (ints .i64 l)) :: R)
      (fun v M => v = .bool (l.contains x) ∧ M = Blk p [.int .i64 A, .slice bl l.length cl, u1, u2] 49 :: SlV 3 1 (.slice bl l.length cl) l.length (ints .i64 l) :: R) := by
  refine ok_of (N := 11) Try.func26 rfl rfl rfl (fun W => ?_)
  refine c_seq (fun K1 hK1 => ?_)
  refine c_region ?_
  refine tp rfl (lv_assign rfl) ?_
  refine t_done ?_
  refine q_then_n (hK1 _ _ ?_)
  refine c_seq (fun K2 hK2 => ?_)
  refine c_region ?_
  refine tp rfl (lv_move rfl) ?_
  refine tp rfl (lv_nilCheck rfl) ?_
  refine tp rfl (lv_fieldAddr (o' := 1) Try.underlying47 rfl Try.sizeOf27 rfl rfl) ?_
  refine tp rfl (lv_load Try.isAgg27 rfl (gives_blk (.head _) rfl)) ?_
  refine tp rfl (lv_move rfl) ?_
  refine tc rfl (en_fn Try.call30 rfl) (scontains_ok l x (rd_sl (.tail _ (.head _))) okl (by first | omega | (simp; omega) | (simp; done))) ?_
  rintro _ _ ⟨rfl, rfl⟩
  refine tp rfl (lv_assign rfl) ?_
  refine t_done ?_
  refine q_then_n (hK2 _ _ ?_)
  refine c_ret ?_
  refine q_ret rfl rfl ?_
  exact ⟨rfl, rfl⟩

theorem rall0_ok {R : List HP} {p : Nat} {A : Int} {bl : Option Addr} {cl : Nat} {u1 u2 : Value} {l : List Int} (okl : SlOk bl l.length) (hl : l.length ≤ 1000000) :
    Ok Try.prog 25 [(.pointer (some ⟨p, 0, none⟩))] ((Blk p [(.int .i64 A), (.slice bl l.length cl), u1, u2] 49) :: (SlV 3 1 (.slice bl l.length cl) l.length (ints .i64 l)) :: R)
      (OutSl 3 1 l.length (ints .i64 l) (Blk p [.int .i64 A, .slice bl l.length cl, u1, u2] 49 :: SlV 3 1 (.slice bl l.length cl) l.length (ints .i64 l) :: R)) := by
  refine ok_of (N := 8) Try.func25 rfl rfl rfl (fun W => ?_)
  refine c_seq (fun K1 hK1 => ?_)
  refine c_region ?_
  refine tp rfl (lv_assign rfl) ?_
  refine t_done ?_
  refine q_then_n (hK1 _ _ ?_)
  refine c_seq (fun K2 hK2 => ?_)
  refine c_region ?_
  refine tp rfl (lv_move rfl) ?_
  refine tp rfl (lv_nilCheck rfl) ?_
  refine tp rfl (lv_fieldAddr (o' := 1) Try.underlying47 rfl Try.sizeOf27 rfl rfl) ?_
  refine tp rfl (lv_load Try.isAgg27 rfl (gives_blk (.head _) rfl)) ?_
  refine tc rfl (en_fn Try.call29 rfl) (clone_ok l (rd_sl (.tail _ (.head _))) okl (by first | omega | (simp; omega) | (simp; done))) ?_
  rintro _ _ ⟨bs1, cp2, hok3, hle4, rfl, rfl⟩
  refine tp rfl (lv_assign rfl) ?_
  refine t_done ?_
  refine q_then_n (hK2 _ _ ?_)
  refine c_ret ?_
  refine q_ret rfl rfl ?_
  exact ⟨_, _, hok3, hle4, rfl, rfl⟩

theorem radd2_ok {R : List HP} {p : Nat} {A : Int} {bl : Option Addr} {cl : Nat} {u1 u2 : Value} {l : List Int} (x : Int) (okl : SlOk bl l.length) (hl : l.length ≤ 1000000) :
    Ok Try.prog 22 [(.pointer (some ⟨p, 2, none⟩)), (.int .i64 x)] ((Blk p [u1, u2, (.int .i64 A), (.slice bl l.length cl)] 49) :: (SlV 3 1 (.slice bl l.length cl) l.length (ints .i64 l)) :: R)
      (fun v M => ∃ bs cp, SlOk bs (bif !decide ((l.length : Int) ≥ A) then l ++ [x] else l).length ∧ (bif !decide ((l.length : Int) ≥ A) then l ++ [x] else l).length ≤ cp ∧ v = .bool (!decide ((l.length : Int) ≥ A)) ∧ M = Blk p [u1, u2, .int .i64 A, .slice bs (bif !decide ((l.length : Int) ≥ A) then l ++ [x] else l).length cp] 49 :: SlV 3 1 (.slice bs (bif !decide ((l.length : Int) ≥ A) then l ++ [x] else l).length cp) (bif !decide ((l.length : Int) ≥ A) then l ++ [x] else l).length (ints .i64 (bif !decide ((l.length : Int) ≥ A) then l ++ [x] else l)) :: R) := by
  refine ok_of (N := 25) Try.func22 rfl rfl rfl (fun W => ?_)
  refine t_f1 ?_
  refine t_learn (fun _ h => (slv_facts h).2.1) (fun hcl => ?_)
  refine t_f1 ?_
  refine c_seq (fun K1 hK1 => ?_)
  refine c_region ?_
  refine tp rfl (lv_assign rfl) ?_
  refine t_done ?_
  refine q_then_n (hK1 _ _ ?_)
  refine c_seq (fun K2 hK2 => ?_)
  refine c_seq (fun K3 hK3 => ?_)
  by_cases h1 : ((l.length : Nat) : Int) ≥ A
  · -- yes
    refine c_draw (γ := Unit) (n := 10) Try.mixed rfl rfl (fun _ S => True) (fun _ => [(0, 5, (.pointer (some ⟨p, 2, none⟩))), (1, 6, (.pointer (some ⟨p, 2, none⟩))), (2, 7, (.pointer (some ⟨p, 3, none⟩))), (3, 8, (.slice bl l.length cl)), (4, 9, (.int .i64 ((l.length : Nat) : Int))), (5, 10, (.pointer (some ⟨p, 2, none⟩))), (6, 11, (.pointer (some ⟨p, 2, none⟩))), (7, 12, (.pointer (some ⟨p, 2, none⟩))), (8, 13, (.int .i64 A)), (9, 14, (.bool true))]) (fun _ S => (Blk p [u1, u2, (.int .i64 A), (.slice bl l.length cl)] 49) :: (SlV 3 1 (.slice bl l.length cl) l.length (ints .i64 l)) :: R) (()) trivial (fun _ h => h) (fun _ _ h => h) ?_ ?_
    · -- steps
      refine ⟨?_, ?_, ?_, ?_, ?_, ?_, ?_, ?_, ?_, ?_, trivial⟩
      · -- 0
        rintro _ S hF hS D hp K hK
        try dsimp only at hF ⊢
        refine d_need (small := [(0, (.pointer (some ⟨p, 2, none⟩)))]) ⟨look_b rfl rfl, trivial⟩ ?_
        refine tp rfl (lv_move rfl) ?_
        exact d_closes ⟨look_b rfl rfl, trivial⟩ 0 rfl rfl rfl hS (AgreeR.refl _) (t_sat (fun _ h => h) (hK () trivial))
      · -- 1
        rintro _ S hF hS D hp K hK
        try dsimp only at hF ⊢
        have s0 := hp 0 rfl
        refine d_need (small := [(5, (.pointer (some ⟨p, 2, none⟩)))]) ⟨look_row rfl 0 rfl s0, trivial⟩ ?_
        refine tp rfl (lv_nilCheck rfl) ?_
        exact d_closes ⟨look_row rfl 0 rfl s0, trivial⟩ 1 rfl rfl rfl hS (AgreeR.refl _) (t_sat (fun _ h => h) (hK () trivial))
      · -- 2
        rintro _ S hF hS D hp K hK
        try dsimp only at hF ⊢
        have s1 := hp 1 rfl
        refine d_need (small := [(6, (.pointer (some ⟨p, 2, none⟩)))]) ⟨look_row rfl 1 rfl s1, trivial⟩ ?_
        refine tp rfl (lv_fieldAddr (o' := 3) Try.underlying47 rfl Try.sizeOf27 rfl rfl) ?_
        exact d_closes ⟨look_row rfl 1 rfl s1, trivial⟩ 2 rfl rfl rfl hS (AgreeR.refl _) (t_sat (fun _ h => h) (hK () trivial))
      · -- 3
        rintro _ S hF hS D hp K hK
        try dsimp only at hF ⊢
        have s2 := hp 2 rfl
        refine d_need (small := [(7, (.pointer (some ⟨p, 3, none⟩)))]) ⟨look_row rfl 2 rfl s2, trivial⟩ ?_
        refine tp rfl (lv_load Try.isAgg27 rfl (gives_blk (.head _) rfl)) ?_
        exact d_closes ⟨look_row rfl 2 rfl s2, trivial⟩ 3 rfl rfl rfl hS (AgreeR.refl _) (t_sat (fun _ h => h) (hK () trivial))
      · -- 4
        rintro _ S hF hS D hp K hK
        try dsimp only at hF ⊢
        have s3 := hp 3 rfl
        refine d_need (small := [(8, (.slice bl l.length cl))]) ⟨look_row rfl 3 rfl s3, trivial⟩ ?_
        refine tp rfl (lv_len Try.underlying27 rfl rfl) ?_
        exact d_closes ⟨look_row rfl 3 rfl s3, trivial⟩ 4 rfl rfl rfl hS (AgreeR.refl _) (t_sat (fun _ h => h) (hK () trivial))
      · -- 5
        rintro _ S hF hS D hp K hK
        try dsimp only at hF ⊢
        refine d_need (small := [(0, (.pointer (some ⟨p, 2, none⟩)))]) ⟨look_b rfl rfl, trivial⟩ ?_
        refine tp rfl (lv_move rfl) ?_
        exact d_closes ⟨look_b rfl rfl, trivial⟩ 5 rfl rfl rfl hS (AgreeR.refl _) (t_sat (fun _ h => h) (hK () trivial))
      · -- 6
        rintro _ S hF hS D hp K hK
        try dsimp only at hF ⊢
        have s5 := hp 5 rfl
        refine d_need (small := [(10, (.pointer (some ⟨p, 2, none⟩)))]) ⟨look_row rfl 5 rfl s5, trivial⟩ ?_
        refine tp rfl (lv_nilCheck rfl) ?_
        exact d_closes ⟨look_row rfl 5 rfl s5, trivial⟩ 6 rfl rfl rfl hS (AgreeR.refl _) (t_sat (fun _ h => h) (hK () trivial))
      · -- 7
        rintro _ S hF hS D hp K hK
        try dsimp only at hF ⊢
        have s6 := hp 6 rfl
        refine d_need (small := [(11, (.pointer (some ⟨p, 2, none⟩)))]) ⟨look_row rfl 6 rfl s6, trivial⟩ ?_
        refine tp rfl (lv_fieldAddr (o' := 2) Try.underlying47 rfl Try.sizeOf3 rfl rfl) ?_
        exact d_closes ⟨look_row rfl 6 rfl s6, trivial⟩ 7 rfl rfl rfl hS (AgreeR.refl _) (t_sat (fun _ h => h) (hK () trivial))
      · -- 8
        rintro _ S hF hS D hp K hK
        try dsimp only at hF ⊢
        have s7 := hp 7 rfl
        refine d_need (small := [(12, (.pointer (some ⟨p, 2, none⟩)))]) ⟨look_row rfl 7 rfl s7, trivial⟩ ?_
        refine tp rfl (lv_load Try.isAgg3 rfl (gives_blk (.head _) rfl)) ?_
        exact d_closes ⟨look_row rfl 7 rfl s7, trivial⟩ 8 rfl rfl rfl hS (AgreeR.refl _) (t_sat (fun _ h => h) (hK () trivial))
      · -- 9
        rintro _ S hF hS D hp K hK
        try dsimp only at hF ⊢
        have s4 := hp 4 rfl
        have s8 := hp 8 rfl
        refine d_need (small := [(9, (.int .i64 ((l.length : Nat) : Int))), (13, (.int .i64 A))]) ⟨look_row rfl 4 rfl s4, look_row rfl 8 rfl s8, trivial⟩ ?_
        refine tp rfl (lv_geq rfl rfl (decide_eq_true h1)) ?_
        exact d_closes ⟨look_row rfl 4 rfl s4, look_row rfl 8 rfl s8, trivial⟩ 9 rfl rfl rfl hS (AgreeR.refl _) (t_sat (fun _ h => h) (hK () trivial))
    · -- behind
      rintro _ hF
      try dsimp only at hF ⊢
      refine t_weak (E' := [(0, (.pointer (some ⟨p, 2, none⟩))), (1, (.int .i64 x)), (4, (.bool false)), (14, (.bool true))]) ⟨rfl, rfl, rfl, rfl, trivial⟩ ?_
      refine q_then_n (hK3 _ _ ?_)
      refine c_true rfl ?_
      refine c_seq (fun K4 hK4 => ?_)
      refine c_region ?_
      refine tp rfl (lv_assign rfl) ?_
      refine t_done ?_
      refine q_then_n (hK4 _ _ ?_)
      refine c_ret ?_
      refine q_then_r ?_
      refine q_ret rfl rfl ?_
      rw [show decide ((l.length : Int) ≥ A) = true from (decide_eq_true h1)]
      exact ⟨_, _, okl, hcl, rfl, rfl⟩
  · -- no
    refine c_draw (γ := Unit) (n := 10) Try.mixed rfl rfl (fun _ S => True) (fun _ => [(0, 5, (.pointer (some ⟨p, 2, none⟩))), (1, 6, (.pointer (some ⟨p, 2, none⟩))), (2, 7, (.pointer (some ⟨p, 3, none⟩))), (3, 8, (.slice bl l.length cl)), (4, 9, (.int .i64 ((l.length : Nat) : Int))), (5, 10, (.pointer (some ⟨p, 2, none⟩))), (6, 11, (.pointer (some ⟨p, 2, none⟩))), (7, 12, (.pointer (some ⟨p, 2, none⟩))), (8, 13, (.int .i64 A)), (9, 14, (.bool false))]) (fun _ S => (Blk p [u1, u2, (.int .i64 A), (.slice bl l.length cl)] 49) :: (SlV 3 1 (.slice bl l.length cl) l.length (ints .i64 l)) :: R) (()) trivial (fun _ h => h) (fun _ _ h => h) ?_ ?_
    · -- steps
      refine ⟨?_, ?_, ?_, ?_, ?_, ?_, ?_, ?_, ?_, ?_, trivial⟩
      · -- 0
        rintro _ S hF hS D hp K hK
        try dsimp only at hF ⊢
        refine d_need (small := [(0, (.pointer (some ⟨p, 2, none⟩)))]) ⟨look_b rfl rfl, trivial⟩ ?_
        refine tp rfl (lv_move rfl) ?_
        exact d_closes ⟨look_b rfl rfl, trivial⟩ 0 rfl rfl rfl hS (AgreeR.refl _) (t_sat (fun _ h => h) (hK () trivial))
      · -- 1
        rintro _ S hF hS D hp K hK
        try dsimp only at hF ⊢
        have s0 := hp 0 rfl
        refine d_need (small := [(5, (.pointer (some ⟨p, 2, none⟩)))]) ⟨look_row rfl 0 rfl s0, trivial⟩ ?_
        refine tp rfl (lv_nilCheck rfl) ?_
        exact d_closes ⟨look_row rfl 0 rfl s0, trivial⟩ 1 rfl rfl rfl hS (AgreeR.refl _) (t_sat (fun _ h => h) (hK () trivial))
      · -- 2
        rintro _ S hF hS D hp K hK
        try dsimp only at hF ⊢
        have s1 := hp 1 rfl
        refine d_need (small := [(6, (.pointer (some ⟨p, 2, none⟩)))]) ⟨look_row rfl 1 rfl s1, trivial⟩ ?_
        refine tp rfl (lv_fieldAddr (o' := 3) Try.underlying47 rfl Try.sizeOf27 rfl rfl) ?_
        exact d_closes ⟨look_row rfl 1 rfl s1, trivial⟩ 2 rfl rfl rfl hS (AgreeR.refl _) (t_sat (fun _ h => h) (hK () trivial))
      · -- 3
        rintro _ S hF hS D hp K hK
        try dsimp only at hF ⊢
        have s2 := hp 2 rfl
        refine d_need (small := [(7, (.pointer (some ⟨p, 3, none⟩)))]) ⟨look_row rfl 2 rfl s2, trivial⟩ ?_
        refine tp rfl (lv_load Try.isAgg27 rfl (gives_blk (.head _) rfl)) ?_
        exact d_closes ⟨look_row rfl 2 rfl s2, trivial⟩ 3 rfl rfl rfl hS (AgreeR.refl _) (t_sat (fun _ h => h) (hK () trivial))
      · -- 4
        rintro _ S hF hS D hp K hK
        try dsimp only at hF ⊢
        have s3 := hp 3 rfl
        refine d_need (small := [(8, (.slice bl l.length cl))]) ⟨look_row rfl 3 rfl s3, trivial⟩ ?_
        refine tp rfl (lv_len Try.underlying27 rfl rfl) ?_
        exact d_closes ⟨look_row rfl 3 rfl s3, trivial⟩ 4 rfl rfl rfl hS (AgreeR.refl _) (t_sat (fun _ h => h) (hK () trivial))
      · -- 5
        rintro _ S hF hS D hp K hK
        try dsimp only at hF ⊢
        refine d_need (small := [(0, (.pointer (some ⟨p, 2, none⟩)))]) ⟨look_b rfl rfl, trivial⟩ ?_
        refine tp rfl (lv_move rfl) ?_
        exact d_closes ⟨look_b rfl rfl, trivial⟩ 5 rfl rfl rfl hS (AgreeR.refl _) (t_sat (fun _ h => h) (hK () trivial))
      · -- 6
        rintro _ S hF hS D hp K hK
        try dsimp only at hF ⊢
        have s5 := hp 5 rfl
        refine d_need (small := [(10, (.pointer (some ⟨p, 2, none⟩)))]) ⟨look_row rfl 5 rfl s5, trivial⟩ ?_
        refine tp rfl (lv_nilCheck rfl) ?_
        exact d_closes ⟨look_row rfl 5 rfl s5, trivial⟩ 6 rfl rfl rfl hS (AgreeR.refl _) (t_sat (fun _ h => h) (hK () trivial))
      · -- 7
        rintro _ S hF hS D hp K hK
        try dsimp only at hF ⊢
        have s6 := hp 6 rfl
        refine d_need (small := [(11, (.pointer (some ⟨p, 2, none⟩)))]) ⟨look_row rfl 6 rfl s6, trivial⟩ ?_
        refine tp rfl (lv_fieldAddr (o' := 2) Try.underlying47 rfl Try.sizeOf3 rfl rfl) ?_
        exact d_closes ⟨look_row rfl 6 rfl s6, trivial⟩ 7 rfl rfl rfl hS (AgreeR.refl _) (t_sat (fun _ h => h) (hK () trivial))
      · -- 8
        rintro _ S hF hS D hp K hK
        try dsimp only at hF ⊢
        have s7 := hp 7 rfl
        refine d_need (small := [(12, (.pointer (some ⟨p, 2, none⟩)))]) ⟨look_row rfl 7 rfl s7, trivial⟩ ?_
        refine tp rfl (lv_load Try.isAgg3 rfl (gives_blk (.head _) rfl)) ?_
        exact d_closes ⟨look_row rfl 7 rfl s7, trivial⟩ 8 rfl rfl rfl hS (AgreeR.refl _) (t_sat (fun _ h => h) (hK () trivial))
      · -- 9
        rintro _ S hF hS D hp K hK
        try dsimp only at hF ⊢
        have s4 := hp 4 rfl
        have s8 := hp 8 rfl
        refine d_need (small := [(9, (.int .i64 ((l.length : Nat) : Int))), (13, (.int .i64 A))]) ⟨look_row rfl 4 rfl s4, look_row rfl 8 rfl s8, trivial⟩ ?_
        refine tp rfl (lv_geq rfl rfl (decide_eq_false h1)) ?_
        exact d_closes ⟨look_row rfl 4 rfl s4, look_row rfl 8 rfl s8, trivial⟩ 9 rfl rfl rfl hS (AgreeR.refl _) (t_sat (fun _ h => h) (hK () trivial))
    · -- behind
      rintro _ hF
      try dsimp only at hF ⊢
      refine t_weak (E' := [(0, (.pointer (some ⟨p, 2, none⟩))), (1, (.int .i64 x)), (4, (.bool false)), (14, (.bool false))]) ⟨rfl, rfl, rfl, rfl, trivial⟩ ?_
      refine q_then_n (hK3 _ _ ?_)
      refine c_false rfl ?_
      refine c_skip ?_
      refine q_then_n (hK2 _ _ ?_)
      refine c_seq (fun K4 hK4 => ?_)
      refine c_region ?_
      refine tp rfl (lv_move rfl) ?_
      refine tp rfl (lv_move rfl) ?_
      refine tp rfl (lv_nilCheck rfl) ?_
      refine tp rfl (lv_fieldAddr (o' := 3) Try.underlying47 rfl Try.sizeOf27 rfl rfl) ?_
      refine tp rfl (lv_load Try.isAgg27 rfl (gives_blk (.head _) rfl)) ?_
      refine tp rfl (lv_move rfl) ?_
      refine tm rfl (mv_buildSlice (cs := [(.int .i64 x)]) Try.underlying27 Try.sizeOf3 Try.zeroValue3 (by decide) rfl rfl rfl rfl) ?_
      rintro _ _ ⟨bs2, cp3, hok4, hle5, rfl, rfl⟩
      refine t_f2 ?_
      refine tm rfl (mv_append (i := Try.t3) Try.underlying27 Try.type3 rfl rfl rfl (by decide) rfl rfl hok4 (by simp) (rd_sl (.tail _ (.head _))) (by simp [Value.oneCell']) (by rw [show Try.t3.bytes = 8 from rfl]; omega)) ?_
      rintro _ _ ⟨bs6, cp7, hok8, hle9, rfl, rfl⟩
      rw [show ints .i64 l ++ [(.int .i64 x)] = ints .i64 (l ++ [x]) from ints_snoc _ _ _]
      rw [show l.length + 1 = (l ++ [x]).length from by simp] at hok8 hle9 ⊢
      refine tp rfl (lv_nilCheck rfl) ?_
      refine tp rfl (lv_fieldAddr (o' := 3) Try.underlying47 rfl Try.sizeOf27 rfl rfl) ?_
      refine t_f2 ?_
      refine ts (sv_blk Try.sizeOf27 rfl rfl rfl (Nat.le_of_ble_eq_true rfl) rfl) ?_
      refine t_done ?_
      refine q_then_n (hK4 _ _ ?_)
      refine c_seq (fun K5 hK5 => ?_)
      refine c_region ?_
      refine tp rfl (lv_assign rfl) ?_
      refine t_done ?_
      refine q_then_n (hK5 _ _ ?_)
      refine c_ret ?_
      refine t_f2 ?_
      refine t_drop ?_
      refine q_ret rfl rfl ?_
      rw [show decide ((l.length : Int) ≥ A) = false from (decide_eq_false h1)]
      exact ⟨_, _, hok8, hle9, rfl, rfl⟩

theorem rdrop2_ok {R : List HP} {p : Nat} {A : Int} {bl : Option Addr} {cl : Nat} {u1 u2 : Value} {l : List Int} (x : Int) (okl : SlOk bl l.length) (hl : l.length ≤ 1000000) :
    Ok Try.prog 24 [(.pointer (some ⟨p, 2, none⟩)), (.int .i64 x)] ((Blk p [u1, u2, (.int .i64 A), (.slice bl l.length cl)] 49) :: (SlV 3 1 (.slice bl l.length cl) l.length (ints .i64 l)) :: R)
      (fun v M => SlOk bl (l.erase x).length ∧ v = .bool (l.contains x) ∧ M = Blk p [u1, u2, .int .i64 A, .slice bl (l.erase x).length cl] 49 :: SlV 3 1 (.slice bl (l.erase x).length cl) (l.erase x).length (ints .i64 (l.erase x)) :: R) := by
  refine ok_of (N := 25) Try.func24 rfl rfl rfl (fun W => ?_)
  refine c_seq (fun K1 hK1 => ?_)
  refine c_region ?_
  refine tp rfl (lv_assign rfl) ?_
  refine t_done ?_
  refine q_then_n (hK1 _ _ ?_)
  refine c_seq (fun K2 hK2 => ?_)
  refine c_region ?_
  refine tp rfl (lv_move rfl) ?_
  refine tp rfl (lv_nilCheck rfl) ?_
  refine tp rfl (lv_fieldAddr (o' := 3) Try.underlying47 rfl Try.sizeOf27 rfl rfl) ?_
  refine tp rfl (lv_load Try.isAgg27 rfl (gives_blk (.head _) rfl)) ?_
  refine tp rfl (lv_move rfl) ?_
  refine tc rfl (en_fn Try.call27 rfl) (sindex_ok l x (rd_sl (.tail _ (.head _))) okl (by first | omega | (simp; omega) | (simp; done))) ?_
  rintro _ _ ⟨rfl, rfl⟩
  refine tp rfl (lv_assign rfl) ?_
  refine t_done ?_
  refine q_then_n (hK2 _ _ ?_)
  refine c_seq (fun K3 hK3 => ?_)
  refine c_seq (fun K4 hK4 => ?_)
  refine c_region ?_
  refine tp rfl (lv_move rfl) ?_
  by_cases h1 : (idxF (fun y => decide (x = y)) l) < 0
  · -- yes
    refine tp rfl (lv_lss rfl rfl (decide_eq_true h1)) ?_
    refine t_done ?_
    refine q_then_n (hK4 _ _ ?_)
    refine c_true rfl ?_
    refine c_seq (fun K5 hK5 => ?_)
    refine c_region ?_
    refine tp rfl (lv_assign rfl) ?_
    refine t_done ?_
    refine q_then_n (hK5 _ _ ?_)
    refine c_ret ?_
    refine q_then_r ?_
    refine q_ret rfl rfl ?_
    have hc := idx_none (v := x) (xs := l) ‹_›
    rw [hc, List.erase_of_not_mem (by simpa using hc)]
    exact ⟨okl, rfl, rfl⟩
  · -- no
    refine tp rfl (lv_lss rfl rfl (decide_eq_false h1)) ?_
    refine t_done ?_
    refine q_then_n (hK4 _ _ ?_)
    refine c_false rfl ?_
    refine c_skip ?_
    refine q_then_n (hK3 _ _ ?_)
    refine c_seq (fun K5 hK5 => ?_)
    refine c_region ?_
    have hi := idx_erase (v := x) (xs := l) (by omega)
    rw [show idxF (fun y => decide (x = y)) l = ((idxF (fun y => decide (x = y)) l).toNat : Int) by omega]
    refine tp rfl (lv_move rfl) ?_
    refine tp rfl (lv_move rfl) ?_
    refine tp rfl (lv_nilCheck rfl) ?_
    refine tp rfl (lv_fieldAddr (o' := 3) Try.underlying47 rfl Try.sizeOf27 rfl rfl) ?_
    refine tp rfl (lv_load Try.isAgg27 rfl (gives_blk (.head _) rfl)) ?_
    refine tp rfl (lv_move rfl) ?_
    refine tp rfl (lv_move rfl) ?_
    refine tp rfl (lv_add (c := (((idxF (fun y => decide (x = y)) l).toNat + 1 : Nat) : Int)) rfl rfl (wr_i64_succ (by omega))) ?_
    refine t_f1 ?_
    refine tc rfl (en_fn Try.call28 rfl) (sdelete_ok (cx := cl) l ((idxF (fun y => decide (x = y)) l).toNat) hi.2.1) ?_
    rintro _ _ ⟨rfl, rfl⟩
    refine tp rfl (lv_nilCheck rfl) ?_
    refine tp rfl (lv_fieldAddr (o' := 3) Try.underlying47 rfl Try.sizeOf27 rfl rfl) ?_
    refine t_f1 ?_
    refine ts (sv_blk Try.sizeOf27 rfl rfl rfl (Nat.le_of_ble_eq_true rfl) rfl) ?_
    refine t_done ?_
    refine q_then_n (hK5 _ _ ?_)
    refine c_seq (fun K6 hK6 => ?_)
    refine c_region ?_
    refine tp rfl (lv_assign rfl) ?_
    refine t_done ?_
    refine q_then_n (hK6 _ _ ?_)
    refine c_ret ?_
    rw [hi.2.2]
    refine q_ret rfl rfl ?_
    rw [hi.1]
    exact ⟨fun _ => okl (by omega), rfl, rfl⟩

theorem rhas2_ok {R : List HP} {p : Nat} {A : Int} {bl : Option Addr} {cl : Nat} {u1 u2 : Value} {l : List Int} (x : Int) (okl : SlOk bl l.length) (hl : l.length ≤ 1000000) :
    Ok Try.prog 26 [(.pointer (some ⟨p, 2, none⟩)), (.int .i64 x)] ((Blk p [u1, u2, (.int .i64 A), (.slice bl l.length cl)] 49) :: (SlV 3 1 (.slice bl l.length cl) l.length (ints .i64 l)) :: R)
      (fun v M => v = .bool (l.contains x) ∧ M = Blk p [u1, u2, .int .i64 A, .slice bl l.length cl] 49 :: SlV 3 1 (.slice bl l.length cl) l.length (ints .i64 l) :: R) := by
  refine ok_of (N := 11) Try.func26 rfl rfl rfl (fun W => ?_)
  refine c_seq (fun K1 hK1 => ?_)
  refine c_region ?_
  refine tp rfl (lv_assign rfl) ?_
  refine t_done ?_
  refine q_then_n (hK1 _ _ ?_)
  refine c_seq (fun K2 hK2 => ?_)
  refine c_region ?_
  refine tp rfl (lv_move rfl) ?_
  refine tp rfl (lv_nilCheck rfl) ?_
  refine tp rfl (lv_fieldAddr (o' := 3) Try.underlying47 rfl Try.sizeOf27 rfl rfl) ?_
  refine tp rfl (lv_load Try.isAgg27 rfl (gives_blk (.head _) rfl)) ?_
  refine tp rfl (lv_move rfl) ?_
  refine tc rfl (en_fn Try.call30 rfl) (scontains_ok l x (rd_sl (.tail _ (.head _))) okl (by first | omega | (simp; omega) | (simp; done))) ?_
  rintro _ _ ⟨rfl, rfl⟩
  refine tp rfl (lv_assign rfl) ?_
  refine t_done ?_
  refine q_then_n (hK2 _ _ ?_)
  refine c_ret ?_
  refine q_ret rfl rfl ?_
  exact ⟨rfl, rfl⟩

theorem rall2_ok {R : List HP} {p : Nat} {A : Int} {bl : Option Addr} {cl : Nat} {u1 u2 : Value} {l : List Int} (okl : SlOk bl l.length) (hl : l.length ≤ 1000000) :
    Ok Try.prog 25 [(.pointer (some ⟨p, 2, none⟩))] ((Blk p [u1, u2, (.int .i64 A), (.slice bl l.length cl)] 49) :: (SlV 3 1 (.slice bl l.length cl) l.length (ints .i64 l)) :: R)
      (OutSl 3 1 l.length (ints .i64 l) (Blk p [u1, u2, .int .i64 A, .slice bl l.length cl] 49 :: SlV 3 1 (.slice bl l.length cl) l.length (ints .i64 l) :: R)) := by
  refine ok_of (N := 8) Try.func25 rfl rfl rfl (fun W => ?_)
  refine c_seq (fun K1 hK1 => ?_)
  refine c_region ?_
  refine tp rfl (lv_assign rfl) ?_
  refine t_done ?_
  refine q_then_n (hK1 _ _ ?_)
  refine c_seq (fun K2 hK2 => ?_)
  refine c_region ?_
  refine tp rfl (lv_move rfl) ?_
  refine tp rfl (lv_nilCheck rfl) ?_
  refine tp rfl (lv_fieldAddr (o' := 3) Try.underlying47 rfl Try.sizeOf27 rfl rfl) ?_
  refine tp rfl (lv_load Try.isAgg27 rfl (gives_blk (.head _) rfl)) ?_
  refine tc rfl (en_fn Try.call29 rfl) (clone_ok l (rd_sl (.tail _ (.head _))) okl (by first | omega | (simp; omega) | (simp; done))) ?_
  rintro _ _ ⟨bs1, cp2, hok3, hle4, rfl, rfl⟩
  refine tp rfl (lv_assign rfl) ?_
  refine t_done ?_
  refine q_then_n (hK2 _ _ ?_)
  refine c_ret ?_
  refine q_ret rfl rfl ?_
  exact ⟨_, _, hok3, hle4, rfl, rfl⟩
end Go.Proofs.Ythhmdcbhgnoemaa
