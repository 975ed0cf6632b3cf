/- The document's row: contracts. -/
import Derived.Test.YthhmdcbhgnoemaaSa
import Derived.Test.YthhmdcbhgnoemaaAdm5
set_option maxRecDepth 100000
set_option linter.unusedVariables false
set_option linter.unusedSimpArgs false
namespace Go.Proofs.Ythhmdcbhgnoemaa
open Go Go.Proofs Sp
theorem rfind_ok {R : List HP} {p : Nat} {A Q : Int} {bl : Option Addr} {cl : Nat} {l : List Int} (x : Int) (okl : SlOk bl l.length) (hl : l.length ≤ 1000000) :
    Ok Try.prog 23 [(.pointer (some ⟨p, 0, none⟩)), (.int .i64 x)] ((Blk p [(.int .i64 A), (.int .i64 Q), (.slice bl l.length cl)] 29) :: (SlV 3 1 (.slice bl l.length cl) l.length (ints .i64 l)) :: R)
      (fun v M => v = .int .i64 (idxF (fun y => decide (x = y)) l) ∧ M = Blk p [.int .i64 A, .int .i64 Q, .slice bl l.length cl] 29 :: SlV 3 1 (.slice bl l.length cl) l.length (ints .i64 l) :: R) := by
  refine ok_of (N := 25) Try.func23 rfl rfl rfl (fun W => ?_)
  refine c_seq (fun K1 hK1 => ?_)
  refine c_region ?_
  refine tp rfl (lv_assign rfl) ?_
  refine t_done ?_
  refine q_then_n (hK1 _ _ ?_)
  refine c_seq (fun K2 hK2 => ?_)
  refine c_seq (fun K3 hK3 => ?_)
  refine c_region ?_
  refine tp rfl (lv_assign rfl) ?_
  refine t_done ?_
  refine q_then_n (hK3 _ _ ?_)
  refine c_block ?_
  refine c_loop (γ := (Nat)) (fun (k : Nat) => k ≤ l.length ∧ (∀ j, j < k → decide (x = l.getD j 0) = false)) (fun (k : Nat) => [(0, (.pointer (some ⟨p, 0, none⟩))), (1, (.int .i64 x)), (5, (.int .i64 ((k : Nat) : Int)))]) (fun (k : Nat) => (Blk p [(.int .i64 A), (.int .i64 Q), (.slice bl l.length cl)] 29) :: (SlV 3 1 (.slice bl l.length cl) l.length (ints .i64 l)) :: R) (fun (k : Nat) => l.length - k) (0) ⟨by omega, fun j hj => by omega⟩ ⟨rfl, rfl, rfl, trivial⟩ (fun _ h => h) ?_
  rintro k K4 hF hK4
  try dsimp only at hF hK4 ⊢
  obtain ⟨hk, hall⟩ := hF
  refine c_seq (fun K5 hK5 => ?_)
  refine c_seq (fun K6 hK6 => ?_)
  refine c_region ?_
  refine tp rfl (lv_move rfl) ?_
  refine tp rfl (lv_move rfl) ?_
  refine tp rfl (lv_nilCheck rfl) ?_
  refine tp rfl (lv_fieldAddr (o' := 2) Try.underlying29 rfl Try.sizeOf27 rfl rfl) ?_
  refine tp rfl (lv_load Try.isAgg27 rfl (gives_blk (.head _) rfl)) ?_
  refine tp rfl (lv_len Try.underlying27 rfl rfl) ?_
  by_cases h1 : ((k : Nat) : Int) < ((l.length : Nat) : Int)
  · -- yes
    refine tp rfl (lv_lss rfl rfl (decide_eq_true h1)) ?_
    refine t_done ?_
    refine q_then_n (hK6 _ _ ?_)
    refine c_true rfl ?_
    refine c_skip ?_
    refine q_then_n (hK5 _ _ ?_)
    refine c_seq (fun K7 hK7 => ?_)
    refine c_block ?_
    refine c_seq (fun K8 hK8 => ?_)
    refine c_region ?_
    refine tp rfl (lv_move rfl) ?_
    refine tp rfl (lv_nilCheck rfl) ?_
    refine tp rfl (lv_fieldAddr (o' := 2) Try.underlying29 rfl Try.sizeOf27 rfl rfl) ?_
    refine tp rfl (lv_load Try.isAgg27 rfl (gives_blk (.head _) rfl)) ?_
    refine tp rfl (lv_move rfl) ?_
    refine tp rfl (lv_indexAddr (k' := k) Try.underlying27 Try.sizeOf3 rfl rfl okl (by omega) (by omega) (by omega)) ?_
    refine tp rfl (lv_load Try.isAgg3 rfl (gives_sl (.tail _ (.head _)) (ints_get (by omega)))) ?_
    refine tp rfl (lv_move rfl) ?_
    by_cases heq : ((l).getD k 0) = x
    · -- yes
      refine tp rfl (lv_eql rfl rfl (beq_iff_eq.2 heq)) ?_
      refine t_done ?_
      refine q_then_n (hK8 _ _ ?_)
      refine c_true rfl ?_
      refine c_seq (fun K9 hK9 => ?_)
      refine c_region ?_
      refine tp rfl (lv_move rfl) ?_
      refine tp rfl (lv_assign rfl) ?_
      refine t_done ?_
      refine q_then_n (hK9 _ _ ?_)
      refine c_ret ?_
      refine q_in_r ?_
      refine q_then_r ?_
      refine q_then_r ?_
      refine q_in_r ?_
      refine q_then_r ?_
      refine q_ret rfl rfl ?_
      exact ⟨by rw [idxF_at (p := fun y => decide (x = y)) (k := k) (by omega) (decide_eq_true heq.symm) hall], rfl⟩
    · -- no
      refine tp rfl (lv_eql rfl rfl (beq_eq_false_iff_ne.2 heq)) ?_
      refine t_done ?_
      refine q_then_n (hK8 _ _ ?_)
      refine c_false rfl ?_
      refine c_skip ?_
      refine q_in_n ?_
      refine q_then_n (hK7 _ _ ?_)
      refine c_region ?_
      refine tp rfl (lv_move rfl) ?_
      refine tp rfl (lv_add (c := ((k + 1 : Nat) : Int)) rfl rfl (wr_i64_succ (by omega))) ?_
      refine tp rfl (lv_assign rfl) ?_
      refine t_done ?_
      refine q_then_n ?_
      exact t_weak (by exact ⟨rfl, rfl, rfl, trivial⟩) ((hK4 (k + 1) ⟨by omega, all_succ hall (decide_eq_false (fun e => heq e.symm))⟩ (by omega)))
  · -- no
    refine tp rfl (lv_lss rfl rfl (decide_eq_false h1)) ?_
    refine t_done ?_
    refine q_then_n (hK6 _ _ ?_)
    refine c_false rfl ?_
    refine c_exit ?_
    refine q_then_x ?_
    refine q_then_x ?_
    refine q_in_x ?_
    refine q_then_n (hK2 _ _ ?_)
    refine c_seq (fun K7 hK7 => ?_)
    refine c_region ?_
    refine tp rfl (lv_assign rfl) ?_
    refine t_done ?_
    refine q_then_n (hK7 _ _ ?_)
    refine c_ret ?_
    refine q_ret rfl rfl ?_
    exact ⟨by rw [idxF_none (p := fun y => decide (x = y)) (fun j hj => hall j (by omega))], rfl⟩

theorem rsplit_ok {R : List HP} {p : Nat} {A Q : Int} {bl : Option Addr} {cl : Nat} {l : List Int} (hl : l.length ≤ 1000000) :
    Ok Try.prog 20 [(.pointer (some ⟨p, 0, none⟩))] ((Blk p [(.int .i64 A), (.int .i64 Q), (.slice bl l.length cl)] 29) :: (SlV 3 1 (.slice bl l.length cl) l.length (ints .i64 l)) :: R)
      (fun v M => v = .int .i64 (min ((l.length : Nat) : Int) (max A 1)) ∧ M = Blk p [.int .i64 A, .int .i64 Q, .slice bl l.length cl] 29 :: SlV 3 1 (.slice bl l.length cl) l.length (ints .i64 l) :: R) := by
  refine ok_of (N := 14) Try.func20 rfl rfl rfl (fun W => ?_)
  refine c_seq (fun K1 hK1 => ?_)
  refine c_region ?_
  refine tp rfl (lv_assign rfl) ?_
  refine t_done ?_
  refine q_then_n (hK1 _ _ ?_)
  refine c_seq (fun K2 hK2 => ?_)
  refine c_draw (γ := Unit) (n := 12) Try.mixed rfl rfl (fun _ S => True) (fun _ => [(0, 3, (.pointer (some ⟨p, 0, none⟩))), (1, 4, (.pointer (some ⟨p, 0, none⟩))), (2, 5, (.pointer (some ⟨p, 2, none⟩))), (3, 6, (.slice bl l.length cl)), (4, 7, (.int .i64 ((l.length : Nat) : Int))), (5, 8, (.pointer (some ⟨p, 0, none⟩))), (6, 9, (.pointer (some ⟨p, 0, none⟩))), (7, 10, (.pointer (some ⟨p, 0, none⟩))), (8, 11, (.int .i64 A)), (9, 12, (.int .i64 (max A 1))), (10, 13, (.int .i64 (min ((l.length : Nat) : Int) (max A 1)))), (11, 2, (.int .i64 (min ((l.length : Nat) : Int) (max A 1))))]) (fun _ S => (Blk p [(.int .i64 A), (.int .i64 Q), (.slice bl l.length cl)] 29) :: (SlV 3 1 (.slice bl l.length cl) l.length (ints .i64 l)) :: R) (()) trivial (fun _ h => h) (fun _ _ h => h) ?_ ?_
  · -- steps
    refine ⟨?_, ?_, ?_, ?_, ?_, ?_, ?_, ?_, ?_, ?_, ?_, ?_, trivial⟩
    · -- 0
      rintro _ S hF hS D hp K hK
      try dsimp only at hF ⊢
      refine d_need (small := [(0, (.pointer (some ⟨p, 0, none⟩)))]) ⟨look_b rfl rfl, trivial⟩ ?_
      refine tp rfl (lv_move rfl) ?_
      exact d_closes ⟨look_b rfl rfl, trivial⟩ 0 rfl rfl rfl hS (AgreeR.refl _) (t_sat (fun _ h => h) (hK () trivial))
    · -- 1
      rintro _ S hF hS D hp K hK
      try dsimp only at hF ⊢
      have s0 := hp 0 rfl
      refine d_need (small := [(3, (.pointer (some ⟨p, 0, none⟩)))]) ⟨look_row rfl 0 rfl s0, trivial⟩ ?_
      refine tp rfl (lv_nilCheck rfl) ?_
      exact d_closes ⟨look_row rfl 0 rfl s0, trivial⟩ 1 rfl rfl rfl hS (AgreeR.refl _) (t_sat (fun _ h => h) (hK () trivial))
    · -- 2
      rintro _ S hF hS D hp K hK
      try dsimp only at hF ⊢
      have s1 := hp 1 rfl
      refine d_need (small := [(4, (.pointer (some ⟨p, 0, none⟩)))]) ⟨look_row rfl 1 rfl s1, trivial⟩ ?_
      refine tp rfl (lv_fieldAddr (o' := 2) Try.underlying29 rfl Try.sizeOf27 rfl rfl) ?_
      exact d_closes ⟨look_row rfl 1 rfl s1, trivial⟩ 2 rfl rfl rfl hS (AgreeR.refl _) (t_sat (fun _ h => h) (hK () trivial))
    · -- 3
      rintro _ S hF hS D hp K hK
      try dsimp only at hF ⊢
      have s2 := hp 2 rfl
      refine d_need (small := [(5, (.pointer (some ⟨p, 2, none⟩)))]) ⟨look_row rfl 2 rfl s2, trivial⟩ ?_
      refine tp rfl (lv_load Try.isAgg27 rfl (gives_blk (.head _) rfl)) ?_
      exact d_closes ⟨look_row rfl 2 rfl s2, trivial⟩ 3 rfl rfl rfl hS (AgreeR.refl _) (t_sat (fun _ h => h) (hK () trivial))
    · -- 4
      rintro _ S hF hS D hp K hK
      try dsimp only at hF ⊢
      have s3 := hp 3 rfl
      refine d_need (small := [(6, (.slice bl l.length cl))]) ⟨look_row rfl 3 rfl s3, trivial⟩ ?_
      refine tp rfl (lv_len Try.underlying27 rfl rfl) ?_
      exact d_closes ⟨look_row rfl 3 rfl s3, trivial⟩ 4 rfl rfl rfl hS (AgreeR.refl _) (t_sat (fun _ h => h) (hK () trivial))
    · -- 5
      rintro _ S hF hS D hp K hK
      try dsimp only at hF ⊢
      refine d_need (small := [(0, (.pointer (some ⟨p, 0, none⟩)))]) ⟨look_b rfl rfl, trivial⟩ ?_
      refine tp rfl (lv_move rfl) ?_
      exact d_closes ⟨look_b rfl rfl, trivial⟩ 5 rfl rfl rfl hS (AgreeR.refl _) (t_sat (fun _ h => h) (hK () trivial))
    · -- 6
      rintro _ S hF hS D hp K hK
      try dsimp only at hF ⊢
      have s5 := hp 5 rfl
      refine d_need (small := [(8, (.pointer (some ⟨p, 0, none⟩)))]) ⟨look_row rfl 5 rfl s5, trivial⟩ ?_
      refine tp rfl (lv_nilCheck rfl) ?_
      exact d_closes ⟨look_row rfl 5 rfl s5, trivial⟩ 6 rfl rfl rfl hS (AgreeR.refl _) (t_sat (fun _ h => h) (hK () trivial))
    · -- 7
      rintro _ S hF hS D hp K hK
      try dsimp only at hF ⊢
      have s6 := hp 6 rfl
      refine d_need (small := [(9, (.pointer (some ⟨p, 0, none⟩)))]) ⟨look_row rfl 6 rfl s6, trivial⟩ ?_
      refine tp rfl (lv_fieldAddr (o' := 0) Try.underlying29 rfl Try.sizeOf3 rfl rfl) ?_
      exact d_closes ⟨look_row rfl 6 rfl s6, trivial⟩ 7 rfl rfl rfl hS (AgreeR.refl _) (t_sat (fun _ h => h) (hK () trivial))
    · -- 8
      rintro _ S hF hS D hp K hK
      try dsimp only at hF ⊢
      have s7 := hp 7 rfl
      refine d_need (small := [(10, (.pointer (some ⟨p, 0, none⟩)))]) ⟨look_row rfl 7 rfl s7, trivial⟩ ?_
      refine tp rfl (lv_load Try.isAgg3 rfl (gives_blk (.head _) rfl)) ?_
      exact d_closes ⟨look_row rfl 7 rfl s7, trivial⟩ 8 rfl rfl rfl hS (AgreeR.refl _) (t_sat (fun _ h => h) (hK () trivial))
    · -- 9
      rintro _ S hF hS D hp K hK
      try dsimp only at hF ⊢
      have s8 := hp 8 rfl
      refine d_need (small := [(11, (.int .i64 A))]) ⟨look_row rfl 8 rfl s8, trivial⟩ ?_
      refine tp rfl (lv_max (c := max A 1) rfl rfl rfl) ?_
      exact d_closes ⟨look_row rfl 8 rfl s8, trivial⟩ 9 rfl rfl rfl hS (AgreeR.refl _) (t_sat (fun _ h => h) (hK () trivial))
    · -- 10
      rintro _ S hF hS D hp K hK
      try dsimp only at hF ⊢
      have s4 := hp 4 rfl
      have s9 := hp 9 rfl
      refine d_need (small := [(7, (.int .i64 ((l.length : Nat) : Int))), (12, (.int .i64 (max A 1)))]) ⟨look_row rfl 4 rfl s4, look_row rfl 9 rfl s9, trivial⟩ ?_
      refine tp rfl (lv_min (c := min ((l.length : Nat) : Int) (max A 1)) rfl rfl rfl) ?_
      exact d_closes ⟨look_row rfl 4 rfl s4, look_row rfl 9 rfl s9, trivial⟩ 10 rfl rfl rfl hS (AgreeR.refl _) (t_sat (fun _ h => h) (hK () trivial))
    · -- 11
      rintro _ S hF hS D hp K hK
      try dsimp only at hF ⊢
      have s10 := hp 10 rfl
      refine d_need (small := [(13, (.int .i64 (min ((l.length : Nat) : Int) (max A 1))))]) ⟨look_row rfl 10 rfl s10, trivial⟩ ?_
      refine tp rfl (lv_assign rfl) ?_
      exact d_closes ⟨look_row rfl 10 rfl s10, trivial⟩ 11 rfl rfl rfl hS (AgreeR.refl _) (t_sat (fun _ h => h) (hK () trivial))
  · -- behind
    rintro _ hF
    try dsimp only at hF ⊢
    refine t_weak (E' := [(0, (.pointer (some ⟨p, 0, none⟩))), (2, (.int .i64 (min ((l.length : Nat) : Int) (max A 1))))]) ⟨rfl, rfl, trivial⟩ ?_
    refine q_then_n (hK2 _ _ ?_)
    refine c_ret ?_
    refine q_ret rfl rfl ?_
    exact ⟨rfl, rfl⟩
end Go.Proofs.Ythhmdcbhgnoemaa
