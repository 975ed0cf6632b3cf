/- slices.Repeat of one number. -/
import Derived.Test.YtljnaefaahphaaaVa
import Derived.Test.YtljnaefaahphaaaCpy
import Derived.Test.YtljnaefaahphaaaRpt
set_option maxRecDepth 100000
set_option linter.unusedVariables false
set_option linter.unusedSimpArgs false
namespace Go.Proofs.Ytljnaefaahphaaa
open Go Go.Proofs Sp
set_option maxHeartbeats 4000000 in
theorem mul64_ok {R : List HP} (N : Nat) (hN : N ≤ 64) :
    Ok Try.prog 27 [(.int .u64 1), (.int .u64 ((N : Nat) : Int))] R
      (fun v M => v = .tuple #[.int .u64 0, .int .u64 ((N : Nat) : Int)] ∧ M = R) := by
  refine ok_of (N := 51) Try.func27 rfl rfl rfl (fun W => ?_)
  refine c_seq (fun K1 hK1 => ?_)
  refine c_region ?_
  refine tp rfl (lv_assign rfl) ?_
  refine tp rfl (lv_assign rfl) ?_
  refine t_done ?_
  refine q_then_n (hK1 _ _ ?_)
  refine c_seq (fun K2 hK2 => ?_)
  refine c_region ?_
  refine tp rfl (lv_move rfl) ?_
  refine tp rfl (lv_and (c := 1) rfl rfl rfl) ?_
  refine tp rfl (lv_assign rfl) ?_
  refine t_done ?_
  refine q_then_n (hK2 _ _ ?_)
  refine c_seq (fun K3 hK3 => ?_)
  refine c_region ?_
  refine tp rfl (lv_move rfl) ?_
  refine tp rfl (lv_shr (c := 0) rfl rfl (by decide) rfl) ?_
  refine tp rfl (lv_assign rfl) ?_
  refine t_done ?_
  refine q_then_n (hK3 _ _ ?_)
  refine c_seq (fun K4 hK4 => ?_)
  refine c_region ?_
  refine tp rfl (lv_move rfl) ?_
  refine tp rfl (lv_and (c := ((N : Nat) : Int)) rfl rfl (and_lo N (by omega))) ?_
  refine tp rfl (lv_assign rfl) ?_
  refine t_done ?_
  refine q_then_n (hK4 _ _ ?_)
  refine c_seq (fun K5 hK5 => ?_)
  refine c_region ?_
  refine tp rfl (lv_move rfl) ?_
  refine tp rfl (lv_shr (c := 0) rfl rfl (by decide) (shr_lo N (by omega))) ?_
  refine tp rfl (lv_assign rfl) ?_
  refine t_done ?_
  refine q_then_n (hK5 _ _ ?_)
  refine c_seq (fun K6 hK6 => ?_)
  refine c_region ?_
  refine tp rfl (lv_move rfl) ?_
  refine tp rfl (lv_move rfl) ?_
  refine tp rfl (lv_mul (c := ((N : Nat) : Int)) rfl rfl (by rw [Int.one_mul]; exact wr_u64 (by omega) (by omega))) ?_
  refine tp rfl (lv_assign rfl) ?_
  refine t_done ?_
  refine q_then_n (hK6 _ _ ?_)
  refine c_seq (fun K7 hK7 => ?_)
  refine c_region ?_
  refine tp rfl (lv_move rfl) ?_
  refine tp rfl (lv_move rfl) ?_
  refine tp rfl (lv_mul (c := 0) rfl rfl (by rw [Int.zero_mul]; decide)) ?_
  refine tp rfl (lv_move rfl) ?_
  refine tp rfl (lv_shr (c := 0) rfl rfl (by decide) (shr_lo N (by omega))) ?_
  refine tp rfl (lv_add (c := 0) rfl rfl (by decide)) ?_
  refine tp rfl (lv_assign rfl) ?_
  refine t_done ?_
  refine q_then_n (hK7 _ _ ?_)
  refine c_seq (fun K8 hK8 => ?_)
  refine c_region ?_
  refine tp rfl (lv_move rfl) ?_
  refine tp rfl (lv_and (c := 0) rfl rfl rfl) ?_
  refine tp rfl (lv_assign rfl) ?_
  refine t_done ?_
  refine q_then_n (hK8 _ _ ?_)
  refine c_seq (fun K9 hK9 => ?_)
  refine c_region ?_
  refine tp rfl (lv_move rfl) ?_
  refine tp rfl (lv_shr (c := 0) rfl rfl (by decide) rfl) ?_
  refine tp rfl (lv_assign rfl) ?_
  refine t_done ?_
  refine q_then_n (hK9 _ _ ?_)
  refine c_seq (fun K10 hK10 => ?_)
  refine c_region ?_
  refine tp rfl (lv_move rfl) ?_
  refine tp rfl (lv_move rfl) ?_
  refine tp rfl (lv_move rfl) ?_
  refine tp rfl (lv_mul (c := 0) rfl rfl (by decide)) ?_
  refine tp rfl (lv_add (c := 0) rfl rfl (by decide)) ?_
  refine tp rfl (lv_assign rfl) ?_
  refine t_done ?_
  refine q_then_n (hK10 _ _ ?_)
  refine c_seq (fun K11 hK11 => ?_)
  refine c_region ?_
  refine tp rfl (lv_move rfl) ?_
  refine tp rfl (lv_move rfl) ?_
  refine tp rfl (lv_mul (c := 0) rfl rfl (by decide)) ?_
  refine tp rfl (lv_move rfl) ?_
  refine tp rfl (lv_add (c := 0) rfl rfl (by decide)) ?_
  refine tp rfl (lv_move rfl) ?_
  refine tp rfl (lv_shr (c := 0) rfl rfl (by decide) rfl) ?_
  refine tp rfl (lv_add (c := 0) rfl rfl (by decide)) ?_
  refine tp rfl (lv_assign rfl) ?_
  refine t_done ?_
  refine q_then_n (hK11 _ _ ?_)
  refine c_seq (fun K12 hK12 => ?_)
  refine c_region ?_
  refine tp rfl (lv_move rfl) ?_
  refine tp rfl (lv_move rfl) ?_
  refine tp rfl (lv_mul (c := ((N : Nat) : Int)) rfl rfl (by rw [Int.one_mul]; exact wr_u64 (by omega) (by omega))) ?_
  refine tp rfl (lv_assign rfl) ?_
  refine t_done ?_
  refine q_then_n (hK12 _ _ ?_)
  refine c_ret ?_
  refine q_ret2 rfl rfl rfl ?_
  exact ⟨rfl, rfl⟩

theorem mul_ok {R : List HP} (N : Nat) (hN : N ≤ 64) :
    Ok Try.prog 24 [(.int .u64 1), (.int .u64 ((N : Nat) : Int))] R
      (fun v M => v = .tuple #[.int .u64 0, .int .u64 ((N : Nat) : Int)] ∧ M = R) := by
  refine ok_of (N := 30) Try.func24 rfl rfl rfl (fun W => ?_)
  refine c_seq (fun K1 hK1 => ?_)
  refine c_region ?_
  refine tp rfl (lv_assign rfl) ?_
  refine tp rfl (lv_assign rfl) ?_
  refine t_done ?_
  refine q_then_n (hK1 _ _ ?_)
  refine c_seq (fun K2 hK2 => ?_)
  refine c_false rfl ?_
  refine c_skip ?_
  refine q_then_n (hK2 _ _ ?_)
  refine c_seq (fun K3 hK3 => ?_)
  refine c_region ?_
  refine tp rfl (lv_move rfl) ?_
  refine tp rfl (lv_move rfl) ?_
  refine tc rfl (en_fn Try.call27 rfl) (mul64_ok N (by omega)) ?_
  rintro _ _ ⟨rfl, hMR⟩
  rw [hMR]; clear hMR
  refine tp rfl (lv_move rfl) ?_
  refine tp rfl (lv_extract rfl rfl) ?_
  refine tp rfl (lv_extract rfl rfl) ?_
  refine tp rfl (lv_assign rfl) ?_
  refine tp rfl (lv_assign rfl) ?_
  refine t_done ?_
  refine q_then_n (hK3 _ _ ?_)
  refine c_seq (fun K4 hK4 => ?_)
  refine c_region ?_
  refine tp rfl (lv_move rfl) ?_
  refine tp rfl (lv_move rfl) ?_
  refine tp rfl (lv_assign rfl) ?_
  refine tp rfl (lv_assign rfl) ?_
  refine t_done ?_
  refine q_then_n (hK4 _ _ ?_)
  refine c_ret ?_
  refine q_ret2 rfl rfl rfl ?_
  exact ⟨rfl, rfl⟩

set_option maxHeartbeats 4000000 in
theorem repeat_p {R : List HP} {bx : Option Addr} {cx : Nat} (a : Int) (N : Nat) (hN : N ≤ 64) (h0 : 0 < N) (hx : Rd R bx (ints .i64 [a])) (okx : SlOk bx 1) :
    Ok Try.prog 17 [(.slice bx 1 cx), (.int .i64 ((N : Nat) : Int))] R
      (OutSl 3 1 N (ints .i64 (List.replicate N a)) R) := by
  refine ok_of (N := 48) Try.func17 rfl rfl rfl (fun W => ?_)
  refine c_seq (fun K1 hK1 => ?_)
  refine c_region ?_
  refine tp rfl (lv_assign rfl) ?_
  refine t_done ?_
  refine q_then_n (hK1 _ _ ?_)
  refine c_seq (fun K2 hK2 => ?_)
  refine c_seq (fun K3 hK3 => ?_)
  refine c_region ?_
  refine tp rfl (lv_move rfl) ?_
  refine tp rfl (lv_lss rfl rfl (decide_eq_false (by omega))) ?_
  refine t_done ?_
  refine q_then_n (hK3 _ _ ?_)
  refine c_false rfl ?_
  refine c_skip ?_
  refine q_then_n (hK2 _ _ ?_)
  refine c_seq (fun K4 hK4 => ?_)
  refine c_region ?_
  refine tp rfl (lv_move rfl) ?_
  refine tp rfl (lv_len Try.underlying23 rfl rfl) ?_
  refine tp rfl (lv_convert (c := 1) Try.underlying3 Try.underlying53 rfl (by decide)) ?_
  refine tp rfl (lv_move rfl) ?_
  refine tp rfl (lv_convert (c := ((N : Nat) : Int)) Try.underlying3 Try.underlying53 rfl (wr_u64 (by omega) (by omega))) ?_
  refine tc rfl (en_fn Try.call24 rfl) (mul_ok N (by omega)) ?_
  rintro _ _ ⟨rfl, hMR⟩
  rw [hMR]; clear hMR
  refine tp rfl (lv_move rfl) ?_
  refine tp rfl (lv_extract rfl rfl) ?_
  refine tp rfl (lv_extract rfl rfl) ?_
  refine tp rfl (lv_assign rfl) ?_
  refine tp rfl (lv_assign rfl) ?_
  refine t_done ?_
  refine q_then_n (hK4 _ _ ?_)
  refine c_seq (fun K5 hK5 => ?_)
  refine c_seq (fun K6 hK6 => ?_)
  refine c_region ?_
  refine tp rfl (lv_move rfl) ?_
  refine tp rfl (lv_gtr (r := false) rfl rfl (by decide)) ?_
  refine tp rfl (lv_move rfl) ?_
  refine t_guard rfl rfl ?_
  refine tp rfl (lv_move rfl) ?_
  refine t_guard rfl rfl ?_
  refine tp rfl (lv_gtr rfl rfl (decide_eq_false (by omega))) ?_
  refine tp rfl (lv_pick_f rfl rfl) ?_
  refine t_done ?_
  refine q_then_n (hK6 _ _ ?_)
  refine c_false rfl ?_
  refine c_skip ?_
  refine q_then_n (hK5 _ _ ?_)
  refine c_seq (fun K7 hK7 => ?_)
  refine c_region ?_
  refine tp rfl (lv_move rfl) ?_
  refine tp rfl (lv_convert (c := ((N : Nat) : Int)) Try.underlying53 Try.underlying3 rfl (wr_i64 (by omega) (by omega))) ?_
  refine tm rfl (mv_makeSlice (i := Try.t3) Try.underlying23 Try.type3 rfl rfl rfl rfl rfl (by omega) (by rw [show Try.t3.bytes = 8 from rfl]; omega) (by omega)) ?_
  rintro _ _ ⟨bs1, cp2, hok3, hle4, rfl, rfl⟩
  rw [ints_rep]
  refine tp rfl (lv_assign rfl) ?_
  refine t_done ?_
  refine q_then_n (hK7 _ _ ?_)
  refine c_seq (fun K8 hK8 => ?_)
  refine c_region ?_
  refine tp rfl (lv_move rfl) ?_
  refine tp rfl (lv_move rfl) ?_
  refine tm rfl (mv_copy (i := Try.t3) (l := 0) (c := cp2) (q := 1) (news := (ints .i64 [a])) Try.underlying23 Try.type3 rfl (by rw [sbase_zero]; rfl) rfl (by omega) (by omega) (by omega) (by omega) (fun _ => okx (by first | omega | (simp; omega))) rfl (Rd.cons hx) ints_one (ints_splice.trans (congrArg (ints .i64) (repX_one a N)))) ?_
  rintro _ _ ⟨rfl, rfl⟩
  refine tp rfl (lv_assign rfl) ?_
  refine t_done ?_
  refine q_then_n (hK8 _ _ ?_)
  refine c_seq (fun K9 hK9 => ?_)
  refine c_block ?_
  refine c_loop (γ := (Nat)) (fun (n : Nat) => 1 ≤ n ∧ n ≤ N) (fun (n : Nat) => [(0, (.slice bx 1 cx)), (1, (.int .i64 ((N : Nat) : Int))), (4, (.slice none 0 0)), (5, (.int .u64 0)), (6, (.int .u64 ((N : Nat) : Int))), (7, (.slice bs1 N cp2)), (8, (.int .i64 ((n : Nat) : Int))), (10, (.bool false)), (26, (.bool false))]) (fun (n : Nat) => (SlV 3 1 (.slice bs1 N cp2) N (ints .i64 (repX a n N))) :: R) (fun (n : Nat) => N - n) (1) ⟨by omega, by omega⟩ ⟨rfl, rfl, rfl, rfl, rfl, rfl, rfl, rfl, rfl, trivial⟩ (fun _ h => h) ?_
  rintro n K10 hF hK10
  try dsimp only at hF hK10 ⊢
  obtain ⟨h1n, hnN⟩ := hF
  have hrl := repX_len (a := a) hnN
  refine c_seq (fun K11 hK11 => ?_)
  refine c_seq (fun K12 hK12 => ?_)
  refine c_region ?_
  refine tp rfl (lv_move rfl) ?_
  refine tp rfl (lv_move rfl) ?_
  refine tp rfl (lv_len Try.underlying23 rfl rfl) ?_
  by_cases h5 : ((n : Nat) : Int) < ((N : Nat) : Int)
  · -- yes
    refine tp rfl (lv_lss rfl rfl (decide_eq_true h5)) ?_
    refine t_done ?_
    refine q_then_n (hK12 _ _ ?_)
    refine c_true rfl ?_
    refine c_skip ?_
    refine q_then_n (hK11 _ _ ?_)
    refine c_block ?_
    refine c_draw (γ := Unit) (n := 10) Try.mixed rfl rfl (fun _ S => True) (fun _ => [(0, 38, (.int .i64 ((n : Nat) : Int))), (1, 39, (.slice bs1 N cp2)), (2, 40, (.int .i64 ((n : Nat) : Int))), (3, 41, (.slice (sbase bs1 n cp2 1) (N - n) (cp2 - n))), (4, 42, (.slice bs1 N cp2)), (5, 43, (.int .i64 ((n : Nat) : Int))), (6, 44, (.slice bs1 n cp2)), (7, 45, (.int .i64 ((min n (N - n) : Nat) : Int))), (8, 46, (.int .i64 ((n + min n (N - n) : Nat) : Int))), (9, 8, (.int .i64 ((n + min n (N - n) : Nat) : Int)))]) (fun _ S => (bif S 7 then (SlV 3 1 (.slice bs1 N cp2) N (ints .i64 (repX a (n + min n (N - n)) N))) else (SlV 3 1 (.slice bs1 N cp2) N (ints .i64 (repX a n N)))) :: R) (()) trivial (fun _ h => h) (fun _ _ h => h) ?_ ?_
    · -- steps
      refine ⟨?_, ?_, ?_, ?_, ?_, ?_, ?_, ?_, ?_, ?_, trivial⟩
      · -- 0
        rintro _ S hF hS D hp K hK
        try dsimp only at hF ⊢
        refine d_need (small := [(8, (.int .i64 ((n : Nat) : Int)))]) ⟨look_b1 9 (nf hS D (k := 9) (i := 0) rfl) rfl rfl, trivial⟩ ?_
        refine tp rfl (lv_move rfl) ?_
        exact d_closes ⟨look_b1 9 (nf hS D (k := 9) (i := 0) rfl) rfl rfl, trivial⟩ 0 rfl rfl rfl hS (AgreeR.refl _) (t_sat (fun _ h => h) (hK () trivial))
      · -- 1
        rintro _ S hF hS D hp K hK
        try dsimp only at hF ⊢
        refine d_need (small := [(7, (.slice bs1 N cp2))]) ⟨look_b rfl rfl, trivial⟩ ?_
        refine tp rfl (lv_move rfl) ?_
        exact d_closes ⟨look_b rfl rfl, trivial⟩ 1 rfl rfl rfl hS (AgreeR.refl _) (t_sat (fun _ h => h) (hK () trivial))
      · -- 2
        rintro _ S hF hS D hp K hK
        try dsimp only at hF ⊢
        refine d_need (small := [(8, (.int .i64 ((n : Nat) : Int)))]) ⟨look_b1 9 (nf hS D (k := 9) (i := 2) rfl) rfl rfl, trivial⟩ ?_
        refine tp rfl (lv_move rfl) ?_
        exact d_closes ⟨look_b1 9 (nf hS D (k := 9) (i := 2) rfl) rfl rfl, trivial⟩ 2 rfl rfl rfl hS (AgreeR.refl _) (t_sat (fun _ h => h) (hK () trivial))
      · -- 3
        rintro _ S hF hS D hp K hK
        try dsimp only at hF ⊢
        have s1 := hp 1 rfl
        have s2 := hp 2 rfl
        refine d_need (small := [(39, (.slice bs1 N cp2)), (40, (.int .i64 ((n : Nat) : Int)))]) ⟨look_row rfl 1 rfl s1, look_row rfl 2 rfl s2, trivial⟩ ?_
        refine tp rfl (lv_slice (l := n) (h := N) (m := cp2) (v := (.slice (sbase bs1 n cp2 1) (N - n) (cp2 - n))) Try.underlying23 Try.sizeOf3 rfl rfl rfl rfl (.inr ⟨rfl, rfl⟩) (.inr ⟨rfl, rfl⟩) (.inl ⟨_, _, rfl, (by omega), (by omega), (by omega)⟩) (by simp) rfl) ?_
        exact d_closes ⟨look_row rfl 1 rfl s1, look_row rfl 2 rfl s2, trivial⟩ 3 rfl rfl rfl hS (AgreeR.refl _) (t_sat (fun _ h => h) (hK () trivial))
      · -- 4
        rintro _ S hF hS D hp K hK
        try dsimp only at hF ⊢
        refine d_need (small := [(7, (.slice bs1 N cp2))]) ⟨look_b rfl rfl, trivial⟩ ?_
        refine tp rfl (lv_move rfl) ?_
        exact d_closes ⟨look_b rfl rfl, trivial⟩ 4 rfl rfl rfl hS (AgreeR.refl _) (t_sat (fun _ h => h) (hK () trivial))
      · -- 5
        rintro _ S hF hS D hp K hK
        try dsimp only at hF ⊢
        refine d_need (small := [(8, (.int .i64 ((n : Nat) : Int)))]) ⟨look_b1 9 (nf hS D (k := 9) (i := 5) rfl) rfl rfl, trivial⟩ ?_
        refine tp rfl (lv_move rfl) ?_
        exact d_closes ⟨look_b1 9 (nf hS D (k := 9) (i := 5) rfl) rfl rfl, trivial⟩ 5 rfl rfl rfl hS (AgreeR.refl _) (t_sat (fun _ h => h) (hK () trivial))
      · -- 6
        rintro _ S hF hS D hp K hK
        try dsimp only at hF ⊢
        have s4 := hp 4 rfl
        have s5 := hp 5 rfl
        refine d_need (small := [(42, (.slice bs1 N cp2)), (43, (.int .i64 ((n : Nat) : Int)))]) ⟨look_row rfl 4 rfl s4, look_row rfl 5 rfl s5, trivial⟩ ?_
        refine tp rfl (lv_slice (l := 0) (h := n) (m := cp2) (v := (.slice bs1 n cp2)) Try.underlying23 Try.sizeOf3 rfl rfl rfl rfl (.inr ⟨rfl, rfl⟩) (.inl ⟨_, _, rfl, (by omega), (by omega), (by omega)⟩) (.inr ⟨rfl, rfl⟩) (by simp) (by rw [sbase_zero]; rfl)) ?_
        exact d_closes ⟨look_row rfl 4 rfl s4, look_row rfl 5 rfl s5, trivial⟩ 6 rfl rfl rfl hS (AgreeR.refl _) (t_sat (fun _ h => h) (hK () trivial))
      · -- 7
        rintro _ S hF hS D hp K hK
        try dsimp only at hF ⊢
        have s3 := hp 3 rfl
        have s6 := hp 6 rfl
        refine d_need (small := [(41, (.slice (sbase bs1 n cp2 1) (N - n) (cp2 - n))), (44, (.slice bs1 n cp2))]) ⟨look_row rfl 3 rfl s3, look_row rfl 6 rfl s6, trivial⟩ ?_
        refine t_cF hS ?_
        refine tm rfl (mv_copy (i := Try.t3) (l := n) (c := cp2) (q := min n (N - n)) (news := (ints .i64 (((repX a n N).take n).take (min n (N - n))))) Try.underlying23 Try.type3 rfl rfl rfl rfl (by omega) (by omega) (by omega) (fun _ => hok3 (by first | omega | (simp; omega))) (by simp; omega) (rd_tk_ints (min n (N - n)) (rd_tk_ints n (rd_sl (.head _)))) ints_one (ints_splice.trans (congrArg (ints .i64) (repX_copy (by omega) (by omega))))) ?_
        rintro _ _ ⟨rfl, rfl⟩
        exact d_closes ⟨look_row rfl 3 rfl s3, look_row rfl 6 rfl s6, trivial⟩ 7 rfl rfl rfl hS (AgreeR.refl _) (t_sat (fun _ h => h) (hK () trivial))
      · -- 8
        rintro _ S hF hS D hp K hK
        try dsimp only at hF ⊢
        have s0 := hp 0 rfl
        have s7 := hp 7 rfl
        refine d_need (small := [(38, (.int .i64 ((n : Nat) : Int))), (45, (.int .i64 ((min n (N - n) : Nat) : Int)))]) ⟨look_row rfl 0 rfl s0, look_row rfl 7 rfl s7, trivial⟩ ?_
        refine tp rfl (lv_add (c := ((n + min n (N - n) : Nat) : Int)) rfl rfl ((wr_i64 (by omega) (by omega)).trans (by omega))) ?_
        exact d_closes ⟨look_row rfl 0 rfl s0, look_row rfl 7 rfl s7, trivial⟩ 8 rfl rfl rfl hS (AgreeR.refl _) (t_sat (fun _ h => h) (hK () trivial))
      · -- 9
        rintro _ S hF hS D hp K hK
        try dsimp only at hF ⊢
        have s8 := hp 8 rfl
        refine d_need (small := [(46, (.int .i64 ((n + min n (N - n) : Nat) : Int)))]) ⟨look_row rfl 8 rfl s8, trivial⟩ ?_
        refine tp rfl (lv_assign rfl) ?_
        exact d_closes ⟨look_row rfl 8 rfl s8, trivial⟩ 9 rfl rfl rfl hS (AgreeR.refl _) (t_sat (fun _ h => h) (hK () trivial))
    · -- behind
      rintro _ hF
      try dsimp only at hF ⊢
      refine t_weak (E' := [(0, (.slice bx 1 cx)), (1, (.int .i64 ((N : Nat) : Int))), (4, (.slice none 0 0)), (5, (.int .u64 0)), (6, (.int .u64 ((N : Nat) : Int))), (7, (.slice bs1 N cp2)), (8, (.int .i64 ((n + min n (N - n) : Nat) : Int))), (10, (.bool false)), (26, (.bool false)), (37, (.bool true))]) ⟨rfl, rfl, rfl, rfl, rfl, rfl, rfl, rfl, rfl, rfl, trivial⟩ ?_
      refine q_in_n ?_
      refine q_then_n ?_
      exact t_weak (by exact ⟨rfl, rfl, rfl, rfl, rfl, rfl, rfl, rfl, rfl, trivial⟩) ((hK10 (n + min n (N - n)) ⟨by omega, by omega⟩ (by omega)))
  · -- no
    refine tp rfl (lv_lss rfl rfl (decide_eq_false h5)) ?_
    refine t_done ?_
    refine q_then_n (hK12 _ _ ?_)
    refine c_false rfl ?_
    refine c_exit ?_
    refine q_then_x ?_
    refine q_then_x ?_
    refine q_in_x ?_
    refine q_then_n (hK9 _ _ ?_)
    refine c_seq (fun K13 hK13 => ?_)
    refine c_region ?_
    refine tp rfl (lv_move rfl) ?_
    refine tp rfl (lv_assign rfl) ?_
    refine t_done ?_
    refine q_then_n (hK13 _ _ ?_)
    refine c_ret ?_
    refine q_ret rfl rfl ?_
    have e : n = N := by omega
    subst e
    rw [repX_end]
    exact ⟨_, _, hok3, hle4, rfl, rfl⟩

set_option maxHeartbeats 4000000 in
theorem repeat_0 {R : List HP} {bx : Option Addr} {cx : Nat} (a : Int) (N : Nat) (hN : N ≤ 64) (h0 : N = 0) (hx : Rd R bx (ints .i64 [a])) (okx : SlOk bx 1) :
    Ok Try.prog 17 [(.slice bx 1 cx), (.int .i64 ((N : Nat) : Int))] R
      (OutSl 3 1 N (ints .i64 (List.replicate N a)) R) := by
  refine ok_of (N := 48) Try.func17 rfl rfl rfl (fun W => ?_)
  refine c_seq (fun K1 hK1 => ?_)
  refine c_region ?_
  refine tp rfl (lv_assign rfl) ?_
  refine t_done ?_
  refine q_then_n (hK1 _ _ ?_)
  refine c_seq (fun K2 hK2 => ?_)
  refine c_seq (fun K3 hK3 => ?_)
  refine c_region ?_
  refine tp rfl (lv_move rfl) ?_
  refine tp rfl (lv_lss rfl rfl (decide_eq_false (by omega))) ?_
  refine t_done ?_
  refine q_then_n (hK3 _ _ ?_)
  refine c_false rfl ?_
  refine c_skip ?_
  refine q_then_n (hK2 _ _ ?_)
  refine c_seq (fun K4 hK4 => ?_)
  refine c_region ?_
  refine tp rfl (lv_move rfl) ?_
  refine tp rfl (lv_len Try.underlying23 rfl rfl) ?_
  refine tp rfl (lv_convert (c := 1) Try.underlying3 Try.underlying53 rfl (by decide)) ?_
  refine tp rfl (lv_move rfl) ?_
  refine tp rfl (lv_convert (c := ((N : Nat) : Int)) Try.underlying3 Try.underlying53 rfl (wr_u64 (by omega) (by omega))) ?_
  refine tc rfl (en_fn Try.call24 rfl) (mul_ok N (by omega)) ?_
  rintro _ _ ⟨rfl, hMR⟩
  rw [hMR]; clear hMR
  refine tp rfl (lv_move rfl) ?_
  refine tp rfl (lv_extract rfl rfl) ?_
  refine tp rfl (lv_extract rfl rfl) ?_
  refine tp rfl (lv_assign rfl) ?_
  refine tp rfl (lv_assign rfl) ?_
  refine t_done ?_
  refine q_then_n (hK4 _ _ ?_)
  refine c_seq (fun K5 hK5 => ?_)
  refine c_seq (fun K6 hK6 => ?_)
  refine c_region ?_
  refine tp rfl (lv_move rfl) ?_
  refine tp rfl (lv_gtr (r := false) rfl rfl (by decide)) ?_
  refine tp rfl (lv_move rfl) ?_
  refine t_guard rfl rfl ?_
  refine tp rfl (lv_move rfl) ?_
  refine t_guard rfl rfl ?_
  refine tp rfl (lv_gtr rfl rfl (decide_eq_false (by omega))) ?_
  refine tp rfl (lv_pick_f rfl rfl) ?_
  refine t_done ?_
  refine q_then_n (hK6 _ _ ?_)
  refine c_false rfl ?_
  refine c_skip ?_
  refine q_then_n (hK5 _ _ ?_)
  refine c_seq (fun K7 hK7 => ?_)
  refine c_region ?_
  refine tp rfl (lv_move rfl) ?_
  refine tp rfl (lv_convert (c := ((N : Nat) : Int)) Try.underlying53 Try.underlying3 rfl (wr_i64 (by omega) (by omega))) ?_
  refine tm rfl (mv_makeSlice (i := Try.t3) Try.underlying23 Try.type3 rfl rfl rfl rfl rfl (by omega) (by rw [show Try.t3.bytes = 8 from rfl]; omega) (by omega)) ?_
  rintro _ _ ⟨bs1, cp2, hok3, hle4, rfl, rfl⟩
  rw [ints_rep]
  refine tp rfl (lv_assign rfl) ?_
  refine t_done ?_
  refine q_then_n (hK7 _ _ ?_)
  refine c_seq (fun K8 hK8 => ?_)
  refine c_region ?_
  refine tp rfl (lv_move rfl) ?_
  refine tp rfl (lv_move rfl) ?_
  refine tp rfl (lv_copy0 (i := Try.t3) Try.underlying23 Try.type3 rfl rfl (by omega)) ?_
  refine tp rfl (lv_assign rfl) ?_
  refine t_done ?_
  refine q_then_n (hK8 _ _ ?_)
  refine c_seq (fun K9 hK9 => ?_)
  refine c_block ?_
  refine c_loop (γ := Unit) (fun _ => True) (fun _ => [(0, (.slice bx 1 cx)), (1, (.int .i64 ((N : Nat) : Int))), (4, (.slice none 0 0)), (5, (.int .u64 0)), (6, (.int .u64 ((N : Nat) : Int))), (7, (.slice bs1 N cp2)), (8, (.int .i64 0)), (9, (.int .i64 ((N : Nat) : Int))), (10, (.bool false)), (12, (.tuple #[(.int .u64 0), (.int .u64 ((N : Nat) : Int))])), (13, (.slice bx 1 cx)), (14, (.int .i64 1)), (15, (.int .u64 1)), (16, (.int .i64 ((N : Nat) : Int))), (17, (.int .u64 ((N : Nat) : Int))), (18, (.tuple #[(.int .u64 0), (.int .u64 ((N : Nat) : Int))])), (19, (.int .u64 0)), (20, (.int .u64 ((N : Nat) : Int))), (21, (.int .u64 0)), (22, (.bool false)), (23, (.bool false)), (24, (.int .u64 ((N : Nat) : Int))), (25, (.bool false)), (26, (.bool false)), (28, (.int .u64 ((N : Nat) : Int))), (29, (.int .i64 ((N : Nat) : Int))), (30, (.slice bs1 N cp2)), (31, (.slice bs1 N cp2)), (32, (.slice bx 1 cx)), (33, (.int .i64 0))]) (fun _ => (SlV 3 1 (.slice bs1 N cp2) N (ints .i64 (List.replicate N 0))) :: R) (fun _ => 0) (()) trivial ⟨rfl, rfl, rfl, rfl, rfl, rfl, rfl, rfl, rfl, rfl, rfl, rfl, rfl, rfl, rfl, rfl, rfl, rfl, rfl, rfl, rfl, rfl, rfl, rfl, rfl, rfl, rfl, rfl, rfl, rfl, trivial⟩ (fun _ h => h) ?_
  rintro ⟨⟩ K10 hF hK10
  try dsimp only at hF hK10 ⊢
  refine c_seq (fun K11 hK11 => ?_)
  refine c_seq (fun K12 hK12 => ?_)
  refine c_region ?_
  refine tp rfl (lv_move rfl) ?_
  refine tp rfl (lv_move rfl) ?_
  refine tp rfl (lv_len Try.underlying23 rfl rfl) ?_
  refine tp rfl (lv_lss rfl rfl (decide_eq_false (by omega))) ?_
  refine t_done ?_
  refine q_then_n (hK12 _ _ ?_)
  refine c_false rfl ?_
  refine c_exit ?_
  refine q_then_x ?_
  refine q_then_x ?_
  refine q_in_x ?_
  refine q_then_n (hK9 _ _ ?_)
  refine c_seq (fun K13 hK13 => ?_)
  refine c_region ?_
  refine tp rfl (lv_move rfl) ?_
  refine tp rfl (lv_assign rfl) ?_
  refine t_done ?_
  refine q_then_n (hK13 _ _ ?_)
  refine c_ret ?_
  refine q_ret rfl rfl ?_
  subst h0
  exact ⟨_, _, hok3, hle4, rfl, rfl⟩

theorem repeat_ok {R : List HP} {bx : Option Addr} {cx : Nat} (a : Int) (N : Nat) (hN : N ≤ 64) (hx : Rd R bx (ints .i64 [a])) (okx : SlOk bx 1) : Ok Try.prog 17 [.slice bx 1 cx, .int .i64 ((N : Nat) : Int)] R (OutSl 3 1 N (ints .i64 (List.replicate N a)) R) := by
  rcases Nat.eq_zero_or_pos N with h | h
  · exact repeat_0 a N hN h hx okx
  · exact repeat_p a N hN h hx okx
end Go.Proofs.Ytljnaefaahphaaa
