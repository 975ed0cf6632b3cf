/- PrioWaits: the law's walk. -/
import Derived.Test.YtlkcgpcgnhdnmaaDoorLa
set_option maxRecDepth 100000
set_option linter.unusedVariables false
set_option linter.unusedSimpArgs false
namespace Go.Proofs.YtlkcgpcgnhdnmaaDoor
open Go Go.Proofs Sp
set_option maxHeartbeats 4000000 in
theorem waits_law {R : List HP} (n : Int) {beb : Option Addr} {ceb : Nat} (es : List (Int × Int)) (heb : Rd R beb (pairs es)) (okeb : SlOk beb es.length) (leb : es.length ≤ 9223372036854775807) (lceb : es.length ≤ ceb) {brb : Option Addr} {crb : Nat} (xr : List R3) (hrb : Rd R brb (recs triF xr)) (okrb : SlOk brb xr.length) (lrb : xr.length ≤ 9223372036854775807) (lcrb : xr.length ≤ crb) (hT : Tab R) :
    Ok Tryd.prog 7 [(.int .i64 n), (.slice beb es.length ceb), (.slice brb xr.length crb)] R
      (fun v M => v = .bool true ∧ M = R) := by
  have hgk : GOk (clampN (min n 30)) (madeE (clampN (min n 30)) (es.take 100)) := GOk.made (clampN_le _) _
  have hcn := clampN_le (min n 30)
  obtain ⟨n1, hn1n⟩ : ∃ n, n = min xr.length 20 := ⟨_, rfl⟩
  obtain ⟨us, husl⟩ : ∃ l, l = xr.take n1 := ⟨_, rfl⟩
  have usn : us.length = n1 := by rw [husl, List.length_take]; omega
  have rdrb : Rd R brb (recs triF us) := by rw [husl]; exact rd_tk_recs triF_len n1 hrb
  refine ok_of (N := 119) Tryd.func7 rfl rfl rfl (fun W => ?_)
  refine c_seq (fun K1 hK1 => ?_)
  refine c_region ?_
  refine tp rfl (lv_assign rfl) ?_
  refine t_done ?_
  refine q_then_n (hK1 _ _ ?_)
  refine c_seq (fun K2 hK2 => ?_)
  refine c_region ?_
  refine tc rfl (en_fn Tryd.call8 rfl) (shown_ok hT) ?_
  rintro _ _ ⟨rfl, hMR⟩
  rw [hMR]; clear hMR
  refine tp rfl (lv_assign rfl) ?_
  refine t_done ?_
  refine q_then_n (hK2 _ _ ?_)
  refine c_seq (fun K3 hK3 => ?_)
  refine c_region ?_
  refine tp rfl (lv_move rfl) ?_
  refine tp rfl (lv_move rfl) ?_
  refine tc rfl (en_fn Tryd.call9 rfl) (made_ok n es heb okeb (by first | omega | decide)) ?_
  rintro _ _ ⟨p1, rfl, rfl⟩
  refine tp rfl (lv_assign rfl) ?_
  refine t_done ?_
  refine q_then_n (hK3 _ _ ?_)
  refine c_seq (fun K4 hK4 => ?_)
  refine c_seq (fun K5 hK5 => ?_)
  refine c_region ?_
  refine tp rfl (lv_move rfl) ?_
  refine tp rfl (lv_eqnil Tryd.underlying25 rfl rfl) ?_
  refine t_done ?_
  refine q_then_n (hK5 _ _ ?_)
  refine c_false rfl ?_
  refine c_skip ?_
  refine q_then_n (hK4 _ _ ?_)
  refine c_seq (fun K6 hK6 => ?_)
  refine c_region ?_
  obtain ⟨EE, hEE⟩ : ∃ x, madeE (clampN (min n 30)) (es.take 100) = x := ⟨_, rfl⟩
  rw [hEE] at hgk ⊢
  obtain ⟨NN, hNN⟩ : ∃ x, clampN (min n 30) = x := ⟨_, rfl⟩
  rw [hNN] at hgk hcn ⊢
  refine tp rfl (lv_move rfl) ?_
  refine tp rfl (lv_move rfl) ?_
  refine tp rfl (lv_len Tryd.underlying23 rfl rfl) ?_
  refine tp rfl (lv_min (c := ((n1 : Nat) : Int)) rfl rfl (by omega)) ?_
  refine tp rfl (lv_slice (l := 0) (h := n1) (m := crb) (v := (.slice brb n1 crb)) Tryd.underlying23 Tryd.sizeOf47 rfl rfl rfl rfl (.inr ⟨rfl, rfl⟩) (.inl ⟨_, _, rfl, (by omega), (by omega), (by omega)⟩) (.inr ⟨rfl, rfl⟩) (by simp) (by rw [sbase_zero]; rfl)) ?_
  refine tp rfl (lv_assign rfl) ?_
  refine t_done ?_
  refine q_then_n (hK6 _ _ ?_)
  refine c_seq (fun K7 hK7 => ?_)
  refine c_region ?_
  refine tp rfl (lv_move rfl) ?_
  refine tp rfl (lv_move rfl) ?_
  refine tc rfl (en_fn Tryd.call15 rfl) (of_ok us (by first | rfl | omega | (simp; done) | (simp; omega)) rdrb (fun hz => okrb (by omega)) (by first | rfl | omega | (simp; done) | (simp; omega)) hT) ?_
  rintro _ _ ⟨bs2, cp3, hok4, hle5, rfl, rfl⟩
  refine tp rfl (lv_assign rfl) ?_
  refine t_done ?_
  refine q_then_n (hK7 _ _ ?_)
  refine c_seq (fun K8 hK8 => ?_)
  refine c_seq (fun K9 hK9 => ?_)
  refine c_region ?_
  refine tp rfl (lv_move rfl) ?_
  refine tp rfl (lv_len Tryd.underlying38 rfl rfl) ?_
  refine tp rfl (lv_move rfl) ?_
  refine t_f1 ?_
  refine tc rfl (en_fn Tryd.call21 rfl) (n_ok) ?_
  rintro _ _ ⟨rfl, rfl⟩
  refine tp rfl (lv_neq rfl rfl (bne_eq_false_iff_eq.2 rfl)) ?_
  refine t_done ?_
  refine q_then_n (hK9 _ _ ?_)
  refine c_false rfl ?_
  refine c_skip ?_
  refine q_then_n (hK8 _ _ ?_)
  refine c_seq (fun K10 hK10 => ?_)
  refine c_seq (fun K11 hK11 => ?_)
  refine c_region ?_
  refine tp rfl (lv_assign rfl) ?_
  refine t_done ?_
  refine q_then_n (hK11 _ _ ?_)
  refine c_block ?_
  refine c_loop (γ := (Nat)) (fun (x : Nat) => x ≤ NN) (fun (x : Nat) => [(0, (.int .i64 n)), (1, (.slice beb es.length ceb)), (2, (.slice brb n1 crb)), (7, (.bool true)), (8, (.pointer (some ⟨p1, 0, none⟩))), (9, (.slice bs2 NN cp3)), (10, (.int .i64 ((x : Nat) : Int))), (19, (.bool false)), (32, (.bool false))]) (fun (x : Nat) => (GraphO p1 NN EE) :: (SlV 3 1 (.slice bs2 NN cp3) NN (ints .i64 (ofL NN EE us))) :: R) (fun (x : Nat) => NN - x) (0) (by omega) ⟨rfl, rfl, rfl, rfl, rfl, rfl, rfl, rfl, rfl, trivial⟩ (fun _ h => h) ?_
  rintro x K12 hF hK12
  try dsimp only at hF hK12 ⊢
  have hl0 := ofL_len NN EE us
  refine c_seq (fun K13 hK13 => ?_)
  refine c_seq (fun K14 hK14 => ?_)
  refine c_region ?_
  refine tp rfl (lv_move rfl) ?_
  refine tp rfl (lv_move rfl) ?_
  refine tc rfl (en_fn Tryd.call21 rfl) (n_ok) ?_
  rintro _ _ ⟨rfl, rfl⟩
  by_cases h6 : ((x : Nat) : Int) < ((NN : Nat) : Int)
  · -- yes
    refine tp rfl (lv_lss rfl rfl (decide_eq_true h6)) ?_
    refine tp rfl (lv_move rfl) ?_
    refine t_guard rfl rfl ?_
    refine tp rfl (lv_move rfl) ?_
    refine t_guard rfl rfl ?_
    refine tp rfl (lv_lss rfl rfl (decide_eq_true (by omega))) ?_
    refine tp rfl (lv_pick_t rfl rfl) ?_
    refine t_done ?_
    refine q_then_n (hK14 _ _ ?_)
    refine c_true rfl ?_
    refine c_skip ?_
    refine q_then_n (hK13 _ _ ?_)
    refine c_seq (fun K15 hK15 => ?_)
    refine c_block ?_
    refine c_seq (fun K16 hK16 => ?_)
    refine c_region ?_
    refine tp rfl (lv_move rfl) ?_
    refine tp rfl (lv_move rfl) ?_
    refine tc rfl (en_fn Tryd.call22 rfl) (out_ok (N := NN) (es := EE) ((x : Nat) : Int)) ?_
    rintro _ _ ⟨bs7, cp8, hok9, hle10, rfl, rfl⟩
    refine tp rfl (lv_assign rfl) ?_
    refine t_done ?_
    refine q_then_n (hK16 _ _ ?_)
    refine c_seq (fun K17 hK17 => ?_)
    refine c_region ?_
    refine tp rfl (lv_assign rfl) ?_
    refine t_done ?_
    refine q_then_n (hK17 _ _ ?_)
    refine c_block ?_
    refine c_loop (γ := (Nat)) (fun (i : Nat) => i ≤ (outs EE ((x : Nat) : Int)).length) (fun (i : Nat) => [(0, (.int .i64 n)), (1, (.slice beb es.length ceb)), (2, (.slice brb n1 crb)), (7, (.bool true)), (8, (.pointer (some ⟨p1, 0, none⟩))), (9, (.slice bs2 NN cp3)), (10, (.int .i64 ((x : Nat) : Int))), (11, (.slice bs7 ((outs EE ((x : Nat) : Int)).length) cp8)), (12, (.int .i64 ((i : Nat) : Int))), (19, (.bool false)), (32, (.bool false)), (40, (.bool true))]) (fun (i : Nat) => (SlV 3 1 (.slice bs7 ((outs EE ((x : Nat) : Int)).length) cp8) ((outs EE ((x : Nat) : Int)).length) (ints .i64 (outs EE ((x : Nat) : Int)))) :: (GraphO p1 NN EE) :: (SlV 3 1 (.slice bs2 NN cp3) NN (ints .i64 (ofL NN EE us))) :: R) (fun (i : Nat) => (outs EE ((x : Nat) : Int)).length - i) (0) (by omega) ⟨rfl, rfl, rfl, rfl, rfl, rfl, rfl, rfl, rfl, rfl, rfl, rfl, trivial⟩ (fun _ h => h) ?_
    rintro i K18 hF hK18
    try dsimp only at hF hK18 ⊢
    have hoo := hgk.outs_le ((x : Nat) : Int)
    refine c_seq (fun K19 hK19 => ?_)
    refine c_seq (fun K20 hK20 => ?_)
    refine c_region ?_
    refine tp rfl (lv_move rfl) ?_
    refine tp rfl (lv_move rfl) ?_
    refine tp rfl (lv_len Tryd.underlying38 rfl rfl) ?_
    by_cases h11 : ((i : Nat) : Int) < (((outs EE ((x : Nat) : Int)).length : Nat) : Int)
    · -- yes
      refine tp rfl (lv_lss rfl rfl (decide_eq_true h11)) ?_
      refine t_done ?_
      refine q_then_n (hK20 _ _ ?_)
      refine c_true rfl ?_
      refine c_skip ?_
      refine q_then_n (hK19 _ _ ?_)
      refine c_seq (fun K21 hK21 => ?_)
      refine c_block ?_
      refine c_seq (fun K22 hK22 => ?_)
      have hob := outs_bd hgk (show i < (outs EE ((x : Nat) : Int)).length by omega)
      have how := of_wait (rs := us) hgk (show x < NN by omega) (show i < (outs EE ((x : Nat) : Int)).length by omega)
      refine c_draw (γ := Unit) (n := 28) Tryd.mixed rfl rfl (fun _ S => True) (fun _ => [(0, 52, (.slice bs7 ((outs EE ((x : Nat) : Int)).length) cp8)), (1, 53, (.int .i64 ((i : Nat) : Int))), (2, 54, (.pointer (some (ad bs7 i)))), (3, 55, (.int .i64 ((outs EE ((x : Nat) : Int)).getD i 0))), (4, 56, (.bool false)), (5, 57, (.bool false)), (6, 58, (.slice bs7 ((outs EE ((x : Nat) : Int)).length) cp8)), (7, 59, (.int .i64 ((i : Nat) : Int))), (8, 60, (.pointer (some (ad bs7 i)))), (9, 61, (.int .i64 ((outs EE ((x : Nat) : Int)).getD i 0))), (10, 62, (.slice bs2 NN cp3)), (11, 63, (.int .i64 ((NN : Nat) : Int))), (12, 64, (.bool false)), (13, 65, (.bool false)), (14, 66, (.bool false)), (15, 67, (.slice bs2 NN cp3)), (16, 68, (.slice bs7 ((outs EE ((x : Nat) : Int)).length) cp8)), (17, 69, (.int .i64 ((i : Nat) : Int))), (18, 70, (.pointer (some (ad bs7 i)))), (19, 71, (.int .i64 ((outs EE ((x : Nat) : Int)).getD i 0))), (20, 72, (.pointer (some (ad bs2 (((outs EE ((x : Nat) : Int)).getD i 0).toNat))))), (21, 73, (.int .i64 ((ofL NN EE us).getD (((outs EE ((x : Nat) : Int)).getD i 0).toNat) 0))), (22, 74, (.slice bs2 NN cp3)), (23, 75, (.int .i64 ((x : Nat) : Int))), (24, 76, (.pointer (some (ad bs2 x)))), (25, 77, (.int .i64 ((ofL NN EE us).getD x 0))), (26, 78, (.bool false)), (27, 79, (.bool false))]) (fun _ S => (SlV 3 1 (.slice bs7 ((outs EE ((x : Nat) : Int)).length) cp8) ((outs EE ((x : Nat) : Int)).length) (ints .i64 (outs EE ((x : Nat) : Int)))) :: (GraphO p1 NN EE) :: (SlV 3 1 (.slice bs2 NN cp3) NN (ints .i64 (ofL NN EE us))) :: R) (()) trivial (fun _ h => h) (fun _ _ h => h) ?_ ?_
      · -- steps
        refine ⟨?_, ?_, ?_, ?_, ?_, ?_, ?_, ?_, ?_, ?_, ?_, ?_, ?_, ?_, ?_, ?_, ?_, ?_, ?_, ?_, ?_, ?_, ?_, ?_, ?_, ?_, ?_, ?_, trivial⟩
        · -- 0
         rintro _ S hF hS D hp K hK
         try dsimp only at hF ⊢
         refine d_need (small := [(11, (.slice bs7 ((outs EE ((x : Nat) : Int)).length) cp8))]) ⟨look_b rfl rfl, trivial⟩ ?_
         refine tp rfl (lv_move rfl) ?_
         exact d_closes ⟨look_b rfl rfl, trivial⟩ 0 rfl rfl rfl hS (AgreeR.refl _) (t_sat (fun _ h => h) (hK () trivial))
        · -- 1
         rintro _ S hF hS D hp K hK
         try dsimp only at hF ⊢
         refine d_need (small := [(12, (.int .i64 ((i : Nat) : Int)))]) ⟨look_b rfl rfl, trivial⟩ ?_
         refine tp rfl (lv_move rfl) ?_
         exact d_closes ⟨look_b rfl rfl, trivial⟩ 1 rfl rfl rfl hS (AgreeR.refl _) (t_sat (fun _ h => h) (hK () trivial))
        · -- 2
         rintro _ S hF hS D hp K hK
         try dsimp only at hF ⊢
         have s0 := hp 0 rfl
         have s1 := hp 1 rfl
         refine d_need (small := [(52, (.slice bs7 ((outs EE ((x : Nat) : Int)).length) cp8)), (53, (.int .i64 ((i : Nat) : Int)))]) ⟨look_row rfl 0 rfl s0, look_row rfl 1 rfl s1, trivial⟩ ?_
         refine tp rfl (lv_indexAddr (k' := i) Tryd.underlying38 Tryd.sizeOf3 rfl rfl hok9 (by omega) (by omega) (by omega)) ?_
         exact d_closes ⟨look_row rfl 0 rfl s0, look_row rfl 1 rfl s1, trivial⟩ 2 rfl rfl rfl hS (AgreeR.refl _) (t_sat (fun _ h => h) (hK () trivial))
        · -- 3
         rintro _ S hF hS D hp K hK
         try dsimp only at hF ⊢
         have s2 := hp 2 rfl
         refine d_need (small := [(54, (.pointer (some (ad bs7 i))))]) ⟨look_row rfl 2 rfl s2, trivial⟩ ?_
         refine tp rfl (lv_load Tryd.isAgg3 rfl (gives_sl (.head _) (ints_get (by omega)))) ?_
         exact d_closes ⟨look_row rfl 2 rfl s2, trivial⟩ 3 rfl rfl rfl hS (AgreeR.refl _) (t_sat (fun _ h => h) (hK () trivial))
        · -- 4
         rintro _ S hF hS D hp K hK
         try dsimp only at hF ⊢
         have s3 := hp 3 rfl
         refine d_need (small := [(55, (.int .i64 ((outs EE ((x : Nat) : Int)).getD i 0)))]) ⟨look_row rfl 3 rfl s3, trivial⟩ ?_
         refine tp rfl (lv_lss rfl rfl (decide_eq_false (by omega))) ?_
         exact d_closes ⟨look_row rfl 3 rfl s3, trivial⟩ 4 rfl rfl rfl hS (AgreeR.refl _) (t_sat (fun _ h => h) (hK () trivial))
        · -- 5
         rintro _ S hF hS D hp K hK
         try dsimp only at hF ⊢
         have s4 := hp 4 rfl
         refine d_need (small := [(56, (.bool false))]) ⟨look_row rfl 4 rfl s4, trivial⟩ ?_
         refine tp rfl (lv_move rfl) ?_
         exact d_closes ⟨look_row rfl 4 rfl s4, trivial⟩ 5 rfl rfl rfl hS (AgreeR.refl _) (t_sat (fun _ h => h) (hK () trivial))
        · -- 6
         rintro _ S hF hS D hp K hK
         try dsimp only at hF ⊢
         have s5 := hp 5 rfl
         refine d_need (small := [(11, (.slice bs7 ((outs EE ((x : Nat) : Int)).length) cp8)), (57, (.bool false))]) ⟨look_b rfl rfl, look_row rfl 5 rfl s5, trivial⟩ ?_
         refine t_guard rfl rfl ?_
         refine tp rfl (lv_move rfl) ?_
         exact d_closes ⟨look_b rfl rfl, look_row rfl 5 rfl s5, trivial⟩ 6 rfl rfl rfl hS (AgreeR.refl _) (t_sat (fun _ h => h) (hK () trivial))
        · -- 7
         rintro _ S hF hS D hp K hK
         try dsimp only at hF ⊢
         have s5 := hp 5 rfl
         refine d_need (small := [(12, (.int .i64 ((i : Nat) : Int))), (57, (.bool false))]) ⟨look_b rfl rfl, look_row rfl 5 rfl s5, trivial⟩ ?_
         refine t_guard rfl rfl ?_
         refine tp rfl (lv_move rfl) ?_
         exact d_closes ⟨look_b rfl rfl, look_row rfl 5 rfl s5, trivial⟩ 7 rfl rfl rfl hS (AgreeR.refl _) (t_sat (fun _ h => h) (hK () trivial))
        · -- 8
         rintro _ S hF hS D hp K hK
         try dsimp only at hF ⊢
         have s5 := hp 5 rfl
         have s6 := hp 6 rfl
         have s7 := hp 7 rfl
         refine d_need (small := [(57, (.bool false)), (58, (.slice bs7 ((outs EE ((x : Nat) : Int)).length) cp8)), (59, (.int .i64 ((i : Nat) : Int)))]) ⟨look_row rfl 5 rfl s5, look_row rfl 6 rfl s6, look_row rfl 7 rfl s7, trivial⟩ ?_
         refine t_guard rfl rfl ?_
         refine tp rfl (lv_indexAddr (k' := i) Tryd.underlying38 Tryd.sizeOf3 rfl rfl hok9 (by omega) (by omega) (by omega)) ?_
         exact d_closes ⟨look_row rfl 5 rfl s5, look_row rfl 6 rfl s6, look_row rfl 7 rfl s7, trivial⟩ 8 rfl rfl rfl hS (AgreeR.refl _) (t_sat (fun _ h => h) (hK () trivial))
        · -- 9
         rintro _ S hF hS D hp K hK
         try dsimp only at hF ⊢
         have s5 := hp 5 rfl
         have s8 := hp 8 rfl
         refine d_need (small := [(57, (.bool false)), (60, (.pointer (some (ad bs7 i))))]) ⟨look_row rfl 5 rfl s5, look_row rfl 8 rfl s8, trivial⟩ ?_
         refine t_guard rfl rfl ?_
         refine tp rfl (lv_load Tryd.isAgg3 rfl (gives_sl (.head _) (ints_get (by omega)))) ?_
         exact d_closes ⟨look_row rfl 5 rfl s5, look_row rfl 8 rfl s8, trivial⟩ 9 rfl rfl rfl hS (AgreeR.refl _) (t_sat (fun _ h => h) (hK () trivial))
        · -- 10
         rintro _ S hF hS D hp K hK
         try dsimp only at hF ⊢
         have s5 := hp 5 rfl
         refine d_need (small := [(9, (.slice bs2 NN cp3)), (57, (.bool false))]) ⟨look_b rfl rfl, look_row rfl 5 rfl s5, trivial⟩ ?_
         refine t_guard rfl rfl ?_
         refine tp rfl (lv_move rfl) ?_
         exact d_closes ⟨look_b rfl rfl, look_row rfl 5 rfl s5, trivial⟩ 10 rfl rfl rfl hS (AgreeR.refl _) (t_sat (fun _ h => h) (hK () trivial))
        · -- 11
         rintro _ S hF hS D hp K hK
         try dsimp only at hF ⊢
         have s5 := hp 5 rfl
         have s10 := hp 10 rfl
         refine d_need (small := [(57, (.bool false)), (62, (.slice bs2 NN cp3))]) ⟨look_row rfl 5 rfl s5, look_row rfl 10 rfl s10, trivial⟩ ?_
         refine t_guard rfl rfl ?_
         refine tp rfl (lv_len Tryd.underlying38 rfl rfl) ?_
         exact d_closes ⟨look_row rfl 5 rfl s5, look_row rfl 10 rfl s10, trivial⟩ 11 rfl rfl rfl hS (AgreeR.refl _) (t_sat (fun _ h => h) (hK () trivial))
        · -- 12
         rintro _ S hF hS D hp K hK
         try dsimp only at hF ⊢
         have s5 := hp 5 rfl
         have s9 := hp 9 rfl
         have s11 := hp 11 rfl
         refine d_need (small := [(57, (.bool false)), (61, (.int .i64 ((outs EE ((x : Nat) : Int)).getD i 0))), (63, (.int .i64 ((NN : Nat) : Int)))]) ⟨look_row rfl 5 rfl s5, look_row rfl 9 rfl s9, look_row rfl 11 rfl s11, trivial⟩ ?_
         refine t_guard rfl rfl ?_
         refine tp rfl (lv_geq rfl rfl (decide_eq_false (by omega))) ?_
         exact d_closes ⟨look_row rfl 5 rfl s5, look_row rfl 9 rfl s9, look_row rfl 11 rfl s11, trivial⟩ 12 rfl rfl rfl hS (AgreeR.refl _) (t_sat (fun _ h => h) (hK () trivial))
        · -- 13
         rintro _ S hF hS D hp K hK
         try dsimp only at hF ⊢
         have s5 := hp 5 rfl
         have s12 := hp 12 rfl
         refine d_need (small := [(57, (.bool false)), (64, (.bool false))]) ⟨look_row rfl 5 rfl s5, look_row rfl 12 rfl s12, trivial⟩ ?_
         refine tp rfl (lv_pick_f rfl rfl) ?_
         exact d_closes ⟨look_row rfl 5 rfl s5, look_row rfl 12 rfl s12, trivial⟩ 13 rfl rfl rfl hS (AgreeR.refl _) (t_sat (fun _ h => h) (hK () trivial))
        · -- 14
         rintro _ S hF hS D hp K hK
         try dsimp only at hF ⊢
         have s13 := hp 13 rfl
         refine d_need (small := [(65, (.bool false))]) ⟨look_row rfl 13 rfl s13, trivial⟩ ?_
         refine tp rfl (lv_move rfl) ?_
         exact d_closes ⟨look_row rfl 13 rfl s13, trivial⟩ 14 rfl rfl rfl hS (AgreeR.refl _) (t_sat (fun _ h => h) (hK () trivial))
        · -- 15
         rintro _ S hF hS D hp K hK
         try dsimp only at hF ⊢
         have s14 := hp 14 rfl
         refine d_need (small := [(9, (.slice bs2 NN cp3)), (66, (.bool false))]) ⟨look_b rfl rfl, look_row rfl 14 rfl s14, trivial⟩ ?_
         refine t_guard rfl rfl ?_
         refine tp rfl (lv_move rfl) ?_
         exact d_closes ⟨look_b rfl rfl, look_row rfl 14 rfl s14, trivial⟩ 15 rfl rfl rfl hS (AgreeR.refl _) (t_sat (fun _ h => h) (hK () trivial))
        · -- 16
         rintro _ S hF hS D hp K hK
         try dsimp only at hF ⊢
         have s14 := hp 14 rfl
         refine d_need (small := [(11, (.slice bs7 ((outs EE ((x : Nat) : Int)).length) cp8)), (66, (.bool false))]) ⟨look_b rfl rfl, look_row rfl 14 rfl s14, trivial⟩ ?_
         refine t_guard rfl rfl ?_
         refine tp rfl (lv_move rfl) ?_
         exact d_closes ⟨look_b rfl rfl, look_row rfl 14 rfl s14, trivial⟩ 16 rfl rfl rfl hS (AgreeR.refl _) (t_sat (fun _ h => h) (hK () trivial))
        · -- 17
         rintro _ S hF hS D hp K hK
         try dsimp only at hF ⊢
         have s14 := hp 14 rfl
         refine d_need (small := [(12, (.int .i64 ((i : Nat) : Int))), (66, (.bool false))]) ⟨look_b rfl rfl, look_row rfl 14 rfl s14, trivial⟩ ?_
         refine t_guard rfl rfl ?_
         refine tp rfl (lv_move rfl) ?_
         exact d_closes ⟨look_b rfl rfl, look_row rfl 14 rfl s14, trivial⟩ 17 rfl rfl rfl hS (AgreeR.refl _) (t_sat (fun _ h => h) (hK () trivial))
        · -- 18
         rintro _ S hF hS D hp K hK
         try dsimp only at hF ⊢
         have s14 := hp 14 rfl
         have s16 := hp 16 rfl
         have s17 := hp 17 rfl
         refine d_need (small := [(66, (.bool false)), (68, (.slice bs7 ((outs EE ((x : Nat) : Int)).length) cp8)), (69, (.int .i64 ((i : Nat) : Int)))]) ⟨look_row rfl 14 rfl s14, look_row rfl 16 rfl s16, look_row rfl 17 rfl s17, trivial⟩ ?_
         refine t_guard rfl rfl ?_
         refine tp rfl (lv_indexAddr (k' := i) Tryd.underlying38 Tryd.sizeOf3 rfl rfl hok9 (by omega) (by omega) (by omega)) ?_
         exact d_closes ⟨look_row rfl 14 rfl s14, look_row rfl 16 rfl s16, look_row rfl 17 rfl s17, trivial⟩ 18 rfl rfl rfl hS (AgreeR.refl _) (t_sat (fun _ h => h) (hK () trivial))
        · -- 19
         rintro _ S hF hS D hp K hK
         try dsimp only at hF ⊢
         have s14 := hp 14 rfl
         have s18 := hp 18 rfl
         refine d_need (small := [(66, (.bool false)), (70, (.pointer (some (ad bs7 i))))]) ⟨look_row rfl 14 rfl s14, look_row rfl 18 rfl s18, trivial⟩ ?_
         refine t_guard rfl rfl ?_
         refine tp rfl (lv_load Tryd.isAgg3 rfl (gives_sl (.head _) (ints_get (by omega)))) ?_
         exact d_closes ⟨look_row rfl 14 rfl s14, look_row rfl 18 rfl s18, trivial⟩ 19 rfl rfl rfl hS (AgreeR.refl _) (t_sat (fun _ h => h) (hK () trivial))
        · -- 20
         rintro _ S hF hS D hp K hK
         try dsimp only at hF ⊢
         have s14 := hp 14 rfl
         have s15 := hp 15 rfl
         have s19 := hp 19 rfl
         refine d_need (small := [(66, (.bool false)), (67, (.slice bs2 NN cp3)), (71, (.int .i64 ((outs EE ((x : Nat) : Int)).getD i 0)))]) ⟨look_row rfl 14 rfl s14, look_row rfl 15 rfl s15, look_row rfl 19 rfl s19, trivial⟩ ?_
         refine t_guard rfl rfl ?_
         refine tp rfl (lv_indexAddr (k' := ((outs EE ((x : Nat) : Int)).getD i 0).toNat) Tryd.underlying38 Tryd.sizeOf3 rfl rfl hok4 (by omega) (by omega) (by omega)) ?_
         exact d_closes ⟨look_row rfl 14 rfl s14, look_row rfl 15 rfl s15, look_row rfl 19 rfl s19, trivial⟩ 20 rfl rfl rfl hS (AgreeR.refl _) (t_sat (fun _ h => h) (hK () trivial))
        · -- 21
         rintro _ S hF hS D hp K hK
         try dsimp only at hF ⊢
         have s14 := hp 14 rfl
         have s20 := hp 20 rfl
         refine d_need (small := [(66, (.bool false)), (72, (.pointer (some (ad bs2 (((outs EE ((x : Nat) : Int)).getD i 0).toNat)))))]) ⟨look_row rfl 14 rfl s14, look_row rfl 20 rfl s20, trivial⟩ ?_
         refine t_guard rfl rfl ?_
         refine tp rfl (lv_load Tryd.isAgg3 rfl (gives_sl (.tail _ (.tail _ (.head _))) (ints_get (by omega)))) ?_
         exact d_closes ⟨look_row rfl 14 rfl s14, look_row rfl 20 rfl s20, trivial⟩ 21 rfl rfl rfl hS (AgreeR.refl _) (t_sat (fun _ h => h) (hK () trivial))
        · -- 22
         rintro _ S hF hS D hp K hK
         try dsimp only at hF ⊢
         have s14 := hp 14 rfl
         refine d_need (small := [(9, (.slice bs2 NN cp3)), (66, (.bool false))]) ⟨look_b rfl rfl, look_row rfl 14 rfl s14, trivial⟩ ?_
         refine t_guard rfl rfl ?_
         refine tp rfl (lv_move rfl) ?_
         exact d_closes ⟨look_b rfl rfl, look_row rfl 14 rfl s14, trivial⟩ 22 rfl rfl rfl hS (AgreeR.refl _) (t_sat (fun _ h => h) (hK () trivial))
        · -- 23
         rintro _ S hF hS D hp K hK
         try dsimp only at hF ⊢
         have s14 := hp 14 rfl
         refine d_need (small := [(10, (.int .i64 ((x : Nat) : Int))), (66, (.bool false))]) ⟨look_b rfl rfl, look_row rfl 14 rfl s14, trivial⟩ ?_
         refine t_guard rfl rfl ?_
         refine tp rfl (lv_move rfl) ?_
         exact d_closes ⟨look_b rfl rfl, look_row rfl 14 rfl s14, trivial⟩ 23 rfl rfl rfl hS (AgreeR.refl _) (t_sat (fun _ h => h) (hK () trivial))
        · -- 24
         rintro _ S hF hS D hp K hK
         try dsimp only at hF ⊢
         have s14 := hp 14 rfl
         have s22 := hp 22 rfl
         have s23 := hp 23 rfl
         refine d_need (small := [(66, (.bool false)), (74, (.slice bs2 NN cp3)), (75, (.int .i64 ((x : Nat) : Int)))]) ⟨look_row rfl 14 rfl s14, look_row rfl 22 rfl s22, look_row rfl 23 rfl s23, trivial⟩ ?_
         refine t_guard rfl rfl ?_
         refine tp rfl (lv_indexAddr (k' := x) Tryd.underlying38 Tryd.sizeOf3 rfl rfl hok4 (by omega) (by omega) (by omega)) ?_
         exact d_closes ⟨look_row rfl 14 rfl s14, look_row rfl 22 rfl s22, look_row rfl 23 rfl s23, trivial⟩ 24 rfl rfl rfl hS (AgreeR.refl _) (t_sat (fun _ h => h) (hK () trivial))
        · -- 25
         rintro _ S hF hS D hp K hK
         try dsimp only at hF ⊢
         have s14 := hp 14 rfl
         have s24 := hp 24 rfl
         refine d_need (small := [(66, (.bool false)), (76, (.pointer (some (ad bs2 x))))]) ⟨look_row rfl 14 rfl s14, look_row rfl 24 rfl s24, trivial⟩ ?_
         refine t_guard rfl rfl ?_
         refine tp rfl (lv_load Tryd.isAgg3 rfl (gives_sl (.tail _ (.tail _ (.head _))) (ints_get (by omega)))) ?_
         exact d_closes ⟨look_row rfl 14 rfl s14, look_row rfl 24 rfl s24, trivial⟩ 25 rfl rfl rfl hS (AgreeR.refl _) (t_sat (fun _ h => h) (hK () trivial))
        · -- 26
         rintro _ S hF hS D hp K hK
         try dsimp only at hF ⊢
         have s14 := hp 14 rfl
         have s21 := hp 21 rfl
         have s25 := hp 25 rfl
         refine d_need (small := [(66, (.bool false)), (73, (.int .i64 ((ofL NN EE us).getD (((outs EE ((x : Nat) : Int)).getD i 0).toNat) 0))), (77, (.int .i64 ((ofL NN EE us).getD x 0)))]) ⟨look_row rfl 14 rfl s14, look_row rfl 21 rfl s21, look_row rfl 25 rfl s25, trivial⟩ ?_
         refine t_guard rfl rfl ?_
         refine tp rfl (lv_lss rfl rfl (decide_eq_false (by omega))) ?_
         exact d_closes ⟨look_row rfl 14 rfl s14, look_row rfl 21 rfl s21, look_row rfl 25 rfl s25, trivial⟩ 26 rfl rfl rfl hS (AgreeR.refl _) (t_sat (fun _ h => h) (hK () trivial))
        · -- 27
         rintro _ S hF hS D hp K hK
         try dsimp only at hF ⊢
         have s14 := hp 14 rfl
         have s26 := hp 26 rfl
         refine d_need (small := [(66, (.bool false)), (78, (.bool false))]) ⟨look_row rfl 14 rfl s14, look_row rfl 26 rfl s26, trivial⟩ ?_
         refine tp rfl (lv_pick_f rfl rfl) ?_
         exact d_closes ⟨look_row rfl 14 rfl s14, look_row rfl 26 rfl s26, trivial⟩ 27 rfl rfl rfl hS (AgreeR.refl _) (t_sat (fun _ h => h) (hK () trivial))
      · -- behind
        rintro _ hF
        try dsimp only at hF ⊢
        refine t_weak (E' := [(0, (.int .i64 n)), (1, (.slice beb es.length ceb)), (2, (.slice brb n1 crb)), (7, (.bool true)), (8, (.pointer (some ⟨p1, 0, none⟩))), (9, (.slice bs2 NN cp3)), (10, (.int .i64 ((x : Nat) : Int))), (11, (.slice bs7 ((outs EE ((x : Nat) : Int)).length) cp8)), (12, (.int .i64 ((i : Nat) : Int))), (19, (.bool false)), (32, (.bool false)), (40, (.bool true)), (49, (.bool true)), (79, (.bool false))]) ⟨rfl, rfl, rfl, rfl, rfl, rfl, rfl, rfl, rfl, rfl, rfl, rfl, rfl, rfl, trivial⟩ ?_
        refine q_then_n (hK22 _ _ ?_)
        refine c_false rfl ?_
        refine c_skip ?_
        refine q_in_n ?_
        refine q_then_n (hK21 _ _ ?_)
        refine c_region ?_
        refine tp rfl (lv_move rfl) ?_
        refine tp rfl (lv_add (c := ((i + 1 : Nat) : Int)) rfl rfl (wr_i64_succ (by omega))) ?_
        refine tp rfl (lv_assign rfl) ?_
        refine t_done ?_
        refine q_then_n ?_
        exact t_weak (by exact ⟨rfl, rfl, rfl, rfl, rfl, rfl, rfl, rfl, rfl, rfl, rfl, rfl, trivial⟩) ((hK18 (i + 1) (by omega) (by omega)))
    · -- no
      refine tp rfl (lv_lss rfl rfl (decide_eq_false h11)) ?_
      refine t_done ?_
      refine q_then_n (hK20 _ _ ?_)
      refine c_false rfl ?_
      refine c_exit ?_
      refine q_then_x ?_
      refine q_then_x ?_
      refine q_in_x ?_
      refine q_in_n ?_
      refine q_then_n (hK15 _ _ ?_)
      refine c_region ?_
      refine tp rfl (lv_move rfl) ?_
      refine tp rfl (lv_add (c := ((x + 1 : Nat) : Int)) rfl rfl (wr_i64_succ (by omega))) ?_
      refine tp rfl (lv_assign rfl) ?_
      refine t_done ?_
      refine q_then_n ?_
      refine t_drop ?_
      exact t_weak (by exact ⟨rfl, rfl, rfl, rfl, rfl, rfl, rfl, rfl, rfl, trivial⟩) ((hK12 (x + 1) (by omega) (by omega)))
  · -- no
    refine tp rfl (lv_lss rfl rfl (decide_eq_false h6)) ?_
    refine tp rfl (lv_move rfl) ?_
    refine t_skip rfl rfl rfl ?_
    refine t_skip rfl rfl rfl ?_
    refine tp rfl (lv_pick_f rfl rfl) ?_
    refine t_done ?_
    refine q_then_n (hK14 _ _ ?_)
    refine c_false rfl ?_
    refine c_exit ?_
    refine q_then_x ?_
    refine q_then_x ?_
    refine q_in_x ?_
    refine q_then_n (hK10 _ _ ?_)
    refine c_seq (fun K15 hK15 => ?_)
    refine c_seq (fun K16 hK16 => ?_)
    refine c_region ?_
    refine tp rfl (lv_assign rfl) ?_
    refine t_done ?_
    refine q_then_n (hK16 _ _ ?_)
    refine c_block ?_
    refine c_loop (γ := (Nat)) (fun (k : Nat) => k ≤ n1) (fun (k : Nat) => [(0, (.int .i64 n)), (1, (.slice beb es.length ceb)), (2, (.slice brb n1 crb)), (7, (.bool true)), (8, (.pointer (some ⟨p1, 0, none⟩))), (9, (.slice bs2 NN cp3)), (10, (.int .i64 ((x : Nat) : Int))), (13, (.int .i64 ((k : Nat) : Int))), (19, (.bool false)), (32, (.bool false)), (40, (.bool false))]) (fun (k : Nat) => (GraphO p1 NN EE) :: (SlV 3 1 (.slice bs2 NN cp3) NN (ints .i64 (ofL NN EE us))) :: R) (fun (k : Nat) => n1 - k) (0) (by omega) ⟨rfl, rfl, rfl, rfl, rfl, rfl, rfl, rfl, rfl, rfl, rfl, trivial⟩ (fun _ h => h) ?_
    rintro k K17 hF hK17
    try dsimp only at hF hK17 ⊢
    have hl1 := ofL_len NN EE us
    refine c_seq (fun K18 hK18 => ?_)
    refine c_seq (fun K19 hK19 => ?_)
    refine c_region ?_
    refine tp rfl (lv_move rfl) ?_
    refine tp rfl (lv_move rfl) ?_
    refine tp rfl (lv_len Tryd.underlying23 rfl rfl) ?_
    by_cases h12 : ((k : Nat) : Int) < ((n1 : Nat) : Int)
    · -- yes
      refine tp rfl (lv_lss rfl rfl (decide_eq_true h12)) ?_
      refine t_done ?_
      refine q_then_n (hK19 _ _ ?_)
      refine c_true rfl ?_
      refine c_skip ?_
      refine q_then_n (hK18 _ _ ?_)
      refine c_seq (fun K20 hK20 => ?_)
      refine c_block ?_
      refine c_seq (fun K21 hK21 => ?_)
      by_cases hr1 : ((us.getD k R3.d).x) ≥ 0
      · -- yes
        by_cases hr2 : ((us.getD k R3.d).x) < ((NN : Nat) : Int)
        · -- yes
         refine c_draw (γ := Unit) (n := 32) Tryd.mixed rfl rfl (fun _ S => True) (fun _ => [(0, 86, (.slice brb n1 crb)), (1, 87, (.int .i64 ((k : Nat) : Int))), (2, 88, (.pointer (some (ad brb (k * 3))))), (3, 89, (.pointer (some (ad brb (k * 3))))), (4, 90, (.int .i64 ((us.getD k R3.d).x))), (5, 91, (.bool true)), (6, 92, (.bool true)), (7, 93, (.slice brb n1 crb)), (8, 94, (.int .i64 ((k : Nat) : Int))), (9, 95, (.pointer (some (ad brb (k * 3))))), (10, 96, (.pointer (some (ad brb (k * 3))))), (11, 97, (.int .i64 ((us.getD k R3.d).x))), (12, 98, (.slice bs2 NN cp3)), (13, 99, (.int .i64 ((NN : Nat) : Int))), (14, 100, (.bool true)), (15, 101, (.bool true)), (16, 102, (.bool true)), (17, 103, (.slice bs2 NN cp3)), (18, 104, (.slice brb n1 crb)), (19, 105, (.int .i64 ((k : Nat) : Int))), (20, 106, (.pointer (some (ad brb (k * 3))))), (21, 107, (.pointer (some (ad brb (k * 3))))), (22, 108, (.int .i64 ((us.getD k R3.d).x))), (23, 109, (.pointer (some (ad bs2 (((us.getD k R3.d).x).toNat))))), (24, 110, (.int .i64 ((ofL NN EE us).getD (((us.getD k R3.d).x).toNat) 0))), (25, 111, (.slice brb n1 crb)), (26, 112, (.int .i64 ((k : Nat) : Int))), (27, 113, (.pointer (some (ad brb (k * 3))))), (28, 114, (.pointer (some (ad brb (k * 3 + 2))))), (29, 115, (.int .i64 ((us.getD k R3.d).z))), (30, 116, (.bool false)), (31, 117, (.bool false))]) (fun _ S => (GraphO p1 NN EE) :: (SlV 3 1 (.slice bs2 NN cp3) NN (ints .i64 (ofL NN EE us))) :: R) (()) trivial (fun _ h => h) (fun _ _ h => h) ?_ ?_
         · -- steps
          refine ⟨?_, ?_, ?_, ?_, ?_, ?_, ?_, ?_, ?_, ?_, ?_, ?_, ?_, ?_, ?_, ?_, ?_, ?_, ?_, ?_, ?_, ?_, ?_, ?_, ?_, ?_, ?_, ?_, ?_, ?_, ?_, ?_, trivial⟩
          · -- 0
           rintro _ S hF hS D hp K hK
           try dsimp only at hF ⊢
           refine d_need (small := [(2, (.slice brb n1 crb))]) ⟨look_b rfl rfl, trivial⟩ ?_
           refine tp rfl (lv_move rfl) ?_
           exact d_closes ⟨look_b rfl rfl, trivial⟩ 0 rfl rfl rfl hS (AgreeR.refl _) (t_sat (fun _ h => h) (hK () trivial))
          · -- 1
           rintro _ S hF hS D hp K hK
           try dsimp only at hF ⊢
           refine d_need (small := [(13, (.int .i64 ((k : Nat) : Int)))]) ⟨look_b rfl rfl, trivial⟩ ?_
           refine tp rfl (lv_move rfl) ?_
           exact d_closes ⟨look_b rfl rfl, trivial⟩ 1 rfl rfl rfl hS (AgreeR.refl _) (t_sat (fun _ h => h) (hK () trivial))
          · -- 2
           rintro _ S hF hS D hp K hK
           try dsimp only at hF ⊢
           have s0 := hp 0 rfl
           have s1 := hp 1 rfl
           refine d_need (small := [(86, (.slice brb n1 crb)), (87, (.int .i64 ((k : Nat) : Int)))]) ⟨look_row rfl 0 rfl s0, look_row rfl 1 rfl s1, trivial⟩ ?_
           refine tp rfl (lv_indexAddr (k' := k * 3) Tryd.underlying23 Tryd.sizeOf47 rfl rfl (fun hz => okrb (by omega)) (by omega) (by omega) (by omega)) ?_
           exact d_closes ⟨look_row rfl 0 rfl s0, look_row rfl 1 rfl s1, trivial⟩ 2 rfl rfl rfl hS (AgreeR.refl _) (t_sat (fun _ h => h) (hK () trivial))
          · -- 3
           rintro _ S hF hS D hp K hK
           try dsimp only at hF ⊢
           have s2 := hp 2 rfl
           refine d_need (small := [(88, (.pointer (some (ad brb (k * 3)))))]) ⟨look_row rfl 2 rfl s2, trivial⟩ ?_
           refine tp rfl (lv_fieldAddr_ad (o' := k * 3) Tryd.underlying47 rfl Tryd.sizeOf3 rfl rfl) ?_
           exact d_closes ⟨look_row rfl 2 rfl s2, trivial⟩ 3 rfl rfl rfl hS (AgreeR.refl _) (t_sat (fun _ h => h) (hK () trivial))
          · -- 4
           rintro _ S hF hS D hp K hK
           try dsimp only at hF ⊢
           have s3 := hp 3 rfl
           refine d_need (small := [(89, (.pointer (some (ad brb (k * 3)))))]) ⟨look_row rfl 3 rfl s3, trivial⟩ ?_
           refine tp rfl (lv_load Tryd.isAgg3 rfl (Rd.gives (Rd.cons (Rd.cons rdrb)) ((recs_get (k := k) (j := 0) triF_len (d := R3.d) (by omega) (Nat.le_of_ble_eq_true rfl)).trans rfl))) ?_
           exact d_closes ⟨look_row rfl 3 rfl s3, trivial⟩ 4 rfl rfl rfl hS (AgreeR.refl _) (t_sat (fun _ h => h) (hK () trivial))
          · -- 5
           rintro _ S hF hS D hp K hK
           try dsimp only at hF ⊢
           have s4 := hp 4 rfl
           refine d_need (small := [(90, (.int .i64 ((us.getD k R3.d).x)))]) ⟨look_row rfl 4 rfl s4, trivial⟩ ?_
           refine tp rfl (lv_geq rfl rfl (decide_eq_true hr1)) ?_
           exact d_closes ⟨look_row rfl 4 rfl s4, trivial⟩ 5 rfl rfl rfl hS (AgreeR.refl _) (t_sat (fun _ h => h) (hK () trivial))
          · -- 6
           rintro _ S hF hS D hp K hK
           try dsimp only at hF ⊢
           have s5 := hp 5 rfl
           refine d_need (small := [(91, (.bool true))]) ⟨look_row rfl 5 rfl s5, trivial⟩ ?_
           refine tp rfl (lv_move rfl) ?_
           exact d_closes ⟨look_row rfl 5 rfl s5, trivial⟩ 6 rfl rfl rfl hS (AgreeR.refl _) (t_sat (fun _ h => h) (hK () trivial))
          · -- 7
           rintro _ S hF hS D hp K hK
           try dsimp only at hF ⊢
           have s6 := hp 6 rfl
           refine d_need (small := [(2, (.slice brb n1 crb)), (92, (.bool true))]) ⟨look_b rfl rfl, look_row rfl 6 rfl s6, trivial⟩ ?_
           refine t_guard rfl rfl ?_
           refine tp rfl (lv_move rfl) ?_
           exact d_closes ⟨look_b rfl rfl, look_row rfl 6 rfl s6, trivial⟩ 7 rfl rfl rfl hS (AgreeR.refl _) (t_sat (fun _ h => h) (hK () trivial))
          · -- 8
           rintro _ S hF hS D hp K hK
           try dsimp only at hF ⊢
           have s6 := hp 6 rfl
           refine d_need (small := [(13, (.int .i64 ((k : Nat) : Int))), (92, (.bool true))]) ⟨look_b rfl rfl, look_row rfl 6 rfl s6, trivial⟩ ?_
           refine t_guard rfl rfl ?_
           refine tp rfl (lv_move rfl) ?_
           exact d_closes ⟨look_b rfl rfl, look_row rfl 6 rfl s6, trivial⟩ 8 rfl rfl rfl hS (AgreeR.refl _) (t_sat (fun _ h => h) (hK () trivial))
          · -- 9
           rintro _ S hF hS D hp K hK
           try dsimp only at hF ⊢
           have s6 := hp 6 rfl
           have s7 := hp 7 rfl
           have s8 := hp 8 rfl
           refine d_need (small := [(92, (.bool true)), (93, (.slice brb n1 crb)), (94, (.int .i64 ((k : Nat) : Int)))]) ⟨look_row rfl 6 rfl s6, look_row rfl 7 rfl s7, look_row rfl 8 rfl s8, trivial⟩ ?_
           refine t_guard rfl rfl ?_
           refine tp rfl (lv_indexAddr (k' := k * 3) Tryd.underlying23 Tryd.sizeOf47 rfl rfl (fun hz => okrb (by omega)) (by omega) (by omega) (by omega)) ?_
           exact d_closes ⟨look_row rfl 6 rfl s6, look_row rfl 7 rfl s7, look_row rfl 8 rfl s8, trivial⟩ 9 rfl rfl rfl hS (AgreeR.refl _) (t_sat (fun _ h => h) (hK () trivial))
          · -- 10
           rintro _ S hF hS D hp K hK
           try dsimp only at hF ⊢
           have s6 := hp 6 rfl
           have s9 := hp 9 rfl
           refine d_need (small := [(92, (.bool true)), (95, (.pointer (some (ad brb (k * 3)))))]) ⟨look_row rfl 6 rfl s6, look_row rfl 9 rfl s9, trivial⟩ ?_
           refine t_guard rfl rfl ?_
           refine tp rfl (lv_fieldAddr_ad (o' := k * 3) Tryd.underlying47 rfl Tryd.sizeOf3 rfl rfl) ?_
           exact d_closes ⟨look_row rfl 6 rfl s6, look_row rfl 9 rfl s9, trivial⟩ 10 rfl rfl rfl hS (AgreeR.refl _) (t_sat (fun _ h => h) (hK () trivial))
          · -- 11
           rintro _ S hF hS D hp K hK
           try dsimp only at hF ⊢
           have s6 := hp 6 rfl
           have s10 := hp 10 rfl
           refine d_need (small := [(92, (.bool true)), (96, (.pointer (some (ad brb (k * 3)))))]) ⟨look_row rfl 6 rfl s6, look_row rfl 10 rfl s10, trivial⟩ ?_
           refine t_guard rfl rfl ?_
           refine tp rfl (lv_load Tryd.isAgg3 rfl (Rd.gives (Rd.cons (Rd.cons rdrb)) ((recs_get (k := k) (j := 0) triF_len (d := R3.d) (by omega) (Nat.le_of_ble_eq_true rfl)).trans rfl))) ?_
           exact d_closes ⟨look_row rfl 6 rfl s6, look_row rfl 10 rfl s10, trivial⟩ 11 rfl rfl rfl hS (AgreeR.refl _) (t_sat (fun _ h => h) (hK () trivial))
          · -- 12
           rintro _ S hF hS D hp K hK
           try dsimp only at hF ⊢
           have s6 := hp 6 rfl
           refine d_need (small := [(9, (.slice bs2 NN cp3)), (92, (.bool true))]) ⟨look_b rfl rfl, look_row rfl 6 rfl s6, trivial⟩ ?_
           refine t_guard rfl rfl ?_
           refine tp rfl (lv_move rfl) ?_
           exact d_closes ⟨look_b rfl rfl, look_row rfl 6 rfl s6, trivial⟩ 12 rfl rfl rfl hS (AgreeR.refl _) (t_sat (fun _ h => h) (hK () trivial))
          · -- 13
           rintro _ S hF hS D hp K hK
           try dsimp only at hF ⊢
           have s6 := hp 6 rfl
           have s12 := hp 12 rfl
           refine d_need (small := [(92, (.bool true)), (98, (.slice bs2 NN cp3))]) ⟨look_row rfl 6 rfl s6, look_row rfl 12 rfl s12, trivial⟩ ?_
           refine t_guard rfl rfl ?_
           refine tp rfl (lv_len Tryd.underlying38 rfl rfl) ?_
           exact d_closes ⟨look_row rfl 6 rfl s6, look_row rfl 12 rfl s12, trivial⟩ 13 rfl rfl rfl hS (AgreeR.refl _) (t_sat (fun _ h => h) (hK () trivial))
          · -- 14
           rintro _ S hF hS D hp K hK
           try dsimp only at hF ⊢
           have s6 := hp 6 rfl
           have s11 := hp 11 rfl
           have s13 := hp 13 rfl
           refine d_need (small := [(92, (.bool true)), (97, (.int .i64 ((us.getD k R3.d).x))), (99, (.int .i64 ((NN : Nat) : Int)))]) ⟨look_row rfl 6 rfl s6, look_row rfl 11 rfl s11, look_row rfl 13 rfl s13, trivial⟩ ?_
           refine t_guard rfl rfl ?_
           refine tp rfl (lv_lss rfl rfl (decide_eq_true hr2)) ?_
           exact d_closes ⟨look_row rfl 6 rfl s6, look_row rfl 11 rfl s11, look_row rfl 13 rfl s13, trivial⟩ 14 rfl rfl rfl hS (AgreeR.refl _) (t_sat (fun _ h => h) (hK () trivial))
          · -- 15
           rintro _ S hF hS D hp K hK
           try dsimp only at hF ⊢
           have s6 := hp 6 rfl
           have s14 := hp 14 rfl
           refine d_need (small := [(92, (.bool true)), (100, (.bool true))]) ⟨look_row rfl 6 rfl s6, look_row rfl 14 rfl s14, trivial⟩ ?_
           refine tp rfl (lv_pick_t rfl rfl) ?_
           exact d_closes ⟨look_row rfl 6 rfl s6, look_row rfl 14 rfl s14, trivial⟩ 15 rfl rfl rfl hS (AgreeR.refl _) (t_sat (fun _ h => h) (hK () trivial))
          · -- 16
           rintro _ S hF hS D hp K hK
           try dsimp only at hF ⊢
           have s15 := hp 15 rfl
           refine d_need (small := [(101, (.bool true))]) ⟨look_row rfl 15 rfl s15, trivial⟩ ?_
           refine tp rfl (lv_move rfl) ?_
           exact d_closes ⟨look_row rfl 15 rfl s15, trivial⟩ 16 rfl rfl rfl hS (AgreeR.refl _) (t_sat (fun _ h => h) (hK () trivial))
          · -- 17
           rintro _ S hF hS D hp K hK
           try dsimp only at hF ⊢
           have s16 := hp 16 rfl
           refine d_need (small := [(9, (.slice bs2 NN cp3)), (102, (.bool true))]) ⟨look_b rfl rfl, look_row rfl 16 rfl s16, trivial⟩ ?_
           refine t_guard rfl rfl ?_
           refine tp rfl (lv_move rfl) ?_
           exact d_closes ⟨look_b rfl rfl, look_row rfl 16 rfl s16, trivial⟩ 17 rfl rfl rfl hS (AgreeR.refl _) (t_sat (fun _ h => h) (hK () trivial))
          · -- 18
           rintro _ S hF hS D hp K hK
           try dsimp only at hF ⊢
           have s16 := hp 16 rfl
           refine d_need (small := [(2, (.slice brb n1 crb)), (102, (.bool true))]) ⟨look_b rfl rfl, look_row rfl 16 rfl s16, trivial⟩ ?_
           refine t_guard rfl rfl ?_
           refine tp rfl (lv_move rfl) ?_
           exact d_closes ⟨look_b rfl rfl, look_row rfl 16 rfl s16, trivial⟩ 18 rfl rfl rfl hS (AgreeR.refl _) (t_sat (fun _ h => h) (hK () trivial))
          · -- 19
           rintro _ S hF hS D hp K hK
           try dsimp only at hF ⊢
           have s16 := hp 16 rfl
           refine d_need (small := [(13, (.int .i64 ((k : Nat) : Int))), (102, (.bool true))]) ⟨look_b rfl rfl, look_row rfl 16 rfl s16, trivial⟩ ?_
           refine t_guard rfl rfl ?_
           refine tp rfl (lv_move rfl) ?_
           exact d_closes ⟨look_b rfl rfl, look_row rfl 16 rfl s16, trivial⟩ 19 rfl rfl rfl hS (AgreeR.refl _) (t_sat (fun _ h => h) (hK () trivial))
          · -- 20
           rintro _ S hF hS D hp K hK
           try dsimp only at hF ⊢
           have s16 := hp 16 rfl
           have s18 := hp 18 rfl
           have s19 := hp 19 rfl
           refine d_need (small := [(102, (.bool true)), (104, (.slice brb n1 crb)), (105, (.int .i64 ((k : Nat) : Int)))]) ⟨look_row rfl 16 rfl s16, look_row rfl 18 rfl s18, look_row rfl 19 rfl s19, trivial⟩ ?_
           refine t_guard rfl rfl ?_
           refine tp rfl (lv_indexAddr (k' := k * 3) Tryd.underlying23 Tryd.sizeOf47 rfl rfl (fun hz => okrb (by omega)) (by omega) (by omega) (by omega)) ?_
           exact d_closes ⟨look_row rfl 16 rfl s16, look_row rfl 18 rfl s18, look_row rfl 19 rfl s19, trivial⟩ 20 rfl rfl rfl hS (AgreeR.refl _) (t_sat (fun _ h => h) (hK () trivial))
          · -- 21
           rintro _ S hF hS D hp K hK
           try dsimp only at hF ⊢
           have s16 := hp 16 rfl
           have s20 := hp 20 rfl
           refine d_need (small := [(102, (.bool true)), (106, (.pointer (some (ad brb (k * 3)))))]) ⟨look_row rfl 16 rfl s16, look_row rfl 20 rfl s20, trivial⟩ ?_
           refine t_guard rfl rfl ?_
           refine tp rfl (lv_fieldAddr_ad (o' := k * 3) Tryd.underlying47 rfl Tryd.sizeOf3 rfl rfl) ?_
           exact d_closes ⟨look_row rfl 16 rfl s16, look_row rfl 20 rfl s20, trivial⟩ 21 rfl rfl rfl hS (AgreeR.refl _) (t_sat (fun _ h => h) (hK () trivial))
          · -- 22
           rintro _ S hF hS D hp K hK
           try dsimp only at hF ⊢
           have s16 := hp 16 rfl
           have s21 := hp 21 rfl
           refine d_need (small := [(102, (.bool true)), (107, (.pointer (some (ad brb (k * 3)))))]) ⟨look_row rfl 16 rfl s16, look_row rfl 21 rfl s21, trivial⟩ ?_
           refine t_guard rfl rfl ?_
           refine tp rfl (lv_load Tryd.isAgg3 rfl (Rd.gives (Rd.cons (Rd.cons rdrb)) ((recs_get (k := k) (j := 0) triF_len (d := R3.d) (by omega) (Nat.le_of_ble_eq_true rfl)).trans rfl))) ?_
           exact d_closes ⟨look_row rfl 16 rfl s16, look_row rfl 21 rfl s21, trivial⟩ 22 rfl rfl rfl hS (AgreeR.refl _) (t_sat (fun _ h => h) (hK () trivial))
          · -- 23
           rintro _ S hF hS D hp K hK
           try dsimp only at hF ⊢
           have s16 := hp 16 rfl
           have s17 := hp 17 rfl
           have s22 := hp 22 rfl
           refine d_need (small := [(102, (.bool true)), (103, (.slice bs2 NN cp3)), (108, (.int .i64 ((us.getD k R3.d).x)))]) ⟨look_row rfl 16 rfl s16, look_row rfl 17 rfl s17, look_row rfl 22 rfl s22, trivial⟩ ?_
           refine t_guard rfl rfl ?_
           refine tp rfl (lv_indexAddr (k' := ((us.getD k R3.d).x).toNat) Tryd.underlying38 Tryd.sizeOf3 rfl rfl hok4 (by omega) (by omega) (by omega)) ?_
           exact d_closes ⟨look_row rfl 16 rfl s16, look_row rfl 17 rfl s17, look_row rfl 22 rfl s22, trivial⟩ 23 rfl rfl rfl hS (AgreeR.refl _) (t_sat (fun _ h => h) (hK () trivial))
          · -- 24
           rintro _ S hF hS D hp K hK
           try dsimp only at hF ⊢
           have s16 := hp 16 rfl
           have s23 := hp 23 rfl
           refine d_need (small := [(102, (.bool true)), (109, (.pointer (some (ad bs2 (((us.getD k R3.d).x).toNat)))))]) ⟨look_row rfl 16 rfl s16, look_row rfl 23 rfl s23, trivial⟩ ?_
           refine t_guard rfl rfl ?_
           refine tp rfl (lv_load Tryd.isAgg3 rfl (gives_sl (.tail _ (.head _)) (ints_get (by omega)))) ?_
           exact d_closes ⟨look_row rfl 16 rfl s16, look_row rfl 23 rfl s23, trivial⟩ 24 rfl rfl rfl hS (AgreeR.refl _) (t_sat (fun _ h => h) (hK () trivial))
          · -- 25
           rintro _ S hF hS D hp K hK
           try dsimp only at hF ⊢
           have s16 := hp 16 rfl
           refine d_need (small := [(2, (.slice brb n1 crb)), (102, (.bool true))]) ⟨look_b rfl rfl, look_row rfl 16 rfl s16, trivial⟩ ?_
           refine t_guard rfl rfl ?_
           refine tp rfl (lv_move rfl) ?_
           exact d_closes ⟨look_b rfl rfl, look_row rfl 16 rfl s16, trivial⟩ 25 rfl rfl rfl hS (AgreeR.refl _) (t_sat (fun _ h => h) (hK () trivial))
          · -- 26
           rintro _ S hF hS D hp K hK
           try dsimp only at hF ⊢
           have s16 := hp 16 rfl
           refine d_need (small := [(13, (.int .i64 ((k : Nat) : Int))), (102, (.bool true))]) ⟨look_b rfl rfl, look_row rfl 16 rfl s16, trivial⟩ ?_
           refine t_guard rfl rfl ?_
           refine tp rfl (lv_move rfl) ?_
           exact d_closes ⟨look_b rfl rfl, look_row rfl 16 rfl s16, trivial⟩ 26 rfl rfl rfl hS (AgreeR.refl _) (t_sat (fun _ h => h) (hK () trivial))
          · -- 27
           rintro _ S hF hS D hp K hK
           try dsimp only at hF ⊢
           have s16 := hp 16 rfl
           have s25 := hp 25 rfl
           have s26 := hp 26 rfl
           refine d_need (small := [(102, (.bool true)), (111, (.slice brb n1 crb)), (112, (.int .i64 ((k : Nat) : Int)))]) ⟨look_row rfl 16 rfl s16, look_row rfl 25 rfl s25, look_row rfl 26 rfl s26, trivial⟩ ?_
           refine t_guard rfl rfl ?_
           refine tp rfl (lv_indexAddr (k' := k * 3) Tryd.underlying23 Tryd.sizeOf47 rfl rfl (fun hz => okrb (by omega)) (by omega) (by omega) (by omega)) ?_
           exact d_closes ⟨look_row rfl 16 rfl s16, look_row rfl 25 rfl s25, look_row rfl 26 rfl s26, trivial⟩ 27 rfl rfl rfl hS (AgreeR.refl _) (t_sat (fun _ h => h) (hK () trivial))
          · -- 28
           rintro _ S hF hS D hp K hK
           try dsimp only at hF ⊢
           have s16 := hp 16 rfl
           have s27 := hp 27 rfl
           refine d_need (small := [(102, (.bool true)), (113, (.pointer (some (ad brb (k * 3)))))]) ⟨look_row rfl 16 rfl s16, look_row rfl 27 rfl s27, trivial⟩ ?_
           refine t_guard rfl rfl ?_
           refine tp rfl (lv_fieldAddr_ad (o' := k * 3 + 2) Tryd.underlying47 rfl Tryd.sizeOf3 rfl rfl) ?_
           exact d_closes ⟨look_row rfl 16 rfl s16, look_row rfl 27 rfl s27, trivial⟩ 28 rfl rfl rfl hS (AgreeR.refl _) (t_sat (fun _ h => h) (hK () trivial))
          · -- 29
           rintro _ S hF hS D hp K hK
           try dsimp only at hF ⊢
           have s16 := hp 16 rfl
           have s28 := hp 28 rfl
           refine d_need (small := [(102, (.bool true)), (114, (.pointer (some (ad brb (k * 3 + 2)))))]) ⟨look_row rfl 16 rfl s16, look_row rfl 28 rfl s28, trivial⟩ ?_
           refine t_guard rfl rfl ?_
           refine tp rfl (lv_load Tryd.isAgg3 rfl (Rd.gives (Rd.cons (Rd.cons rdrb)) ((recs_get (k := k) (j := 2) triF_len (d := R3.d) (by omega) (Nat.le_of_ble_eq_true rfl)).trans rfl))) ?_
           exact d_closes ⟨look_row rfl 16 rfl s16, look_row rfl 28 rfl s28, trivial⟩ 29 rfl rfl rfl hS (AgreeR.refl _) (t_sat (fun _ h => h) (hK () trivial))
          · -- 30
           rintro _ S hF hS D hp K hK
           try dsimp only at hF ⊢
           have s16 := hp 16 rfl
           have s24 := hp 24 rfl
           have s29 := hp 29 rfl
           refine d_need (small := [(102, (.bool true)), (110, (.int .i64 ((ofL NN EE us).getD (((us.getD k R3.d).x).toNat) 0))), (115, (.int .i64 ((us.getD k R3.d).z)))]) ⟨look_row rfl 16 rfl s16, look_row rfl 24 rfl s24, look_row rfl 29 rfl s29, trivial⟩ ?_
           refine t_guard rfl rfl ?_
           refine tp rfl (lv_lss rfl rfl (decide_eq_false (by have := of_root (N := NN) (E := EE) (rs := us) (k := k) (by omega) ⟨by omega, by omega⟩; omega))) ?_
           exact d_closes ⟨look_row rfl 16 rfl s16, look_row rfl 24 rfl s24, look_row rfl 29 rfl s29, trivial⟩ 30 rfl rfl rfl hS (AgreeR.refl _) (t_sat (fun _ h => h) (hK () trivial))
          · -- 31
           rintro _ S hF hS D hp K hK
           try dsimp only at hF ⊢
           have s16 := hp 16 rfl
           have s30 := hp 30 rfl
           refine d_need (small := [(102, (.bool true)), (116, (.bool false))]) ⟨look_row rfl 16 rfl s16, look_row rfl 30 rfl s30, trivial⟩ ?_
           refine tp rfl (lv_pick_t rfl rfl) ?_
           exact d_closes ⟨look_row rfl 16 rfl s16, look_row rfl 30 rfl s30, trivial⟩ 31 rfl rfl rfl hS (AgreeR.refl _) (t_sat (fun _ h => h) (hK () trivial))
         · -- behind
          rintro _ hF
          try dsimp only at hF ⊢
          refine t_weak (E' := [(0, (.int .i64 n)), (1, (.slice beb es.length ceb)), (2, (.slice brb n1 crb)), (7, (.bool true)), (8, (.pointer (some ⟨p1, 0, none⟩))), (9, (.slice bs2 NN cp3)), (10, (.int .i64 ((x : Nat) : Int))), (13, (.int .i64 ((k : Nat) : Int))), (19, (.bool false)), (32, (.bool false)), (40, (.bool false)), (83, (.bool true)), (117, (.bool false))]) ⟨rfl, rfl, rfl, rfl, rfl, rfl, rfl, rfl, rfl, rfl, rfl, rfl, rfl, trivial⟩ ?_
          refine q_then_n (hK21 _ _ ?_)
          refine c_false rfl ?_
          refine c_skip ?_
          refine q_in_n ?_
          refine q_then_n (hK20 _ _ ?_)
          refine c_region ?_
          refine tp rfl (lv_move rfl) ?_
          refine tp rfl (lv_add (c := ((k + 1 : Nat) : Int)) rfl rfl (wr_i64_succ (by omega))) ?_
          refine tp rfl (lv_assign rfl) ?_
          refine t_done ?_
          refine q_then_n ?_
          exact t_weak (by exact ⟨rfl, rfl, rfl, rfl, rfl, rfl, rfl, rfl, rfl, rfl, rfl, trivial⟩) ((hK17 (k + 1) (by omega) (by omega)))
        · -- no
         refine c_draw (γ := Unit) (n := 32) Tryd.mixed rfl rfl (fun _ S => True) (fun _ => [(0, 86, (.slice brb n1 crb)), (1, 87, (.int .i64 ((k : Nat) : Int))), (2, 88, (.pointer (some (ad brb (k * 3))))), (3, 89, (.pointer (some (ad brb (k * 3))))), (4, 90, (.int .i64 ((us.getD k R3.d).x))), (5, 91, (.bool true)), (6, 92, (.bool true)), (7, 93, (.slice brb n1 crb)), (8, 94, (.int .i64 ((k : Nat) : Int))), (9, 95, (.pointer (some (ad brb (k * 3))))), (10, 96, (.pointer (some (ad brb (k * 3))))), (11, 97, (.int .i64 ((us.getD k R3.d).x))), (12, 98, (.slice bs2 NN cp3)), (13, 99, (.int .i64 ((NN : Nat) : Int))), (14, 100, (.bool false)), (15, 101, (.bool false)), (16, 102, (.bool false)), (17, 103, undef), (18, 104, undef), (19, 105, undef), (20, 106, undef), (21, 107, undef), (22, 108, undef), (23, 109, undef), (24, 110, undef), (25, 111, undef), (26, 112, undef), (27, 113, undef), (28, 114, undef), (29, 115, undef), (30, 116, undef), (31, 117, (.bool false))]) (fun _ S => (GraphO p1 NN EE) :: (SlV 3 1 (.slice bs2 NN cp3) NN (ints .i64 (ofL NN EE us))) :: R) (()) trivial (fun _ h => h) (fun _ _ h => h) ?_ ?_
         · -- steps
          refine ⟨?_, ?_, ?_, ?_, ?_, ?_, ?_, ?_, ?_, ?_, ?_, ?_, ?_, ?_, ?_, ?_, ?_, ?_, ?_, ?_, ?_, ?_, ?_, ?_, ?_, ?_, ?_, ?_, ?_, ?_, ?_, ?_, trivial⟩
          · -- 0
           rintro _ S hF hS D hp K hK
           try dsimp only at hF ⊢
           refine d_need (small := [(2, (.slice brb n1 crb))]) ⟨look_b rfl rfl, trivial⟩ ?_
           refine tp rfl (lv_move rfl) ?_
           exact d_closes ⟨look_b rfl rfl, trivial⟩ 0 rfl rfl rfl hS (AgreeR.refl _) (t_sat (fun _ h => h) (hK () trivial))
          · -- 1
           rintro _ S hF hS D hp K hK
           try dsimp only at hF ⊢
           refine d_need (small := [(13, (.int .i64 ((k : Nat) : Int)))]) ⟨look_b rfl rfl, trivial⟩ ?_
           refine tp rfl (lv_move rfl) ?_
           exact d_closes ⟨look_b rfl rfl, trivial⟩ 1 rfl rfl rfl hS (AgreeR.refl _) (t_sat (fun _ h => h) (hK () trivial))
          · -- 2
           rintro _ S hF hS D hp K hK
           try dsimp only at hF ⊢
           have s0 := hp 0 rfl
           have s1 := hp 1 rfl
           refine d_need (small := [(86, (.slice brb n1 crb)), (87, (.int .i64 ((k : Nat) : Int)))]) ⟨look_row rfl 0 rfl s0, look_row rfl 1 rfl s1, trivial⟩ ?_
           refine tp rfl (lv_indexAddr (k' := k * 3) Tryd.underlying23 Tryd.sizeOf47 rfl rfl (fun hz => okrb (by omega)) (by omega) (by omega) (by omega)) ?_
           exact d_closes ⟨look_row rfl 0 rfl s0, look_row rfl 1 rfl s1, trivial⟩ 2 rfl rfl rfl hS (AgreeR.refl _) (t_sat (fun _ h => h) (hK () trivial))
          · -- 3
           rintro _ S hF hS D hp K hK
           try dsimp only at hF ⊢
           have s2 := hp 2 rfl
           refine d_need (small := [(88, (.pointer (some (ad brb (k * 3)))))]) ⟨look_row rfl 2 rfl s2, trivial⟩ ?_
           refine tp rfl (lv_fieldAddr_ad (o' := k * 3) Tryd.underlying47 rfl Tryd.sizeOf3 rfl rfl) ?_
           exact d_closes ⟨look_row rfl 2 rfl s2, trivial⟩ 3 rfl rfl rfl hS (AgreeR.refl _) (t_sat (fun _ h => h) (hK () trivial))
          · -- 4
           rintro _ S hF hS D hp K hK
           try dsimp only at hF ⊢
           have s3 := hp 3 rfl
           refine d_need (small := [(89, (.pointer (some (ad brb (k * 3)))))]) ⟨look_row rfl 3 rfl s3, trivial⟩ ?_
           refine tp rfl (lv_load Tryd.isAgg3 rfl (Rd.gives (Rd.cons (Rd.cons rdrb)) ((recs_get (k := k) (j := 0) triF_len (d := R3.d) (by omega) (Nat.le_of_ble_eq_true rfl)).trans rfl))) ?_
           exact d_closes ⟨look_row rfl 3 rfl s3, trivial⟩ 4 rfl rfl rfl hS (AgreeR.refl _) (t_sat (fun _ h => h) (hK () trivial))
          · -- 5
           rintro _ S hF hS D hp K hK
           try dsimp only at hF ⊢
           have s4 := hp 4 rfl
           refine d_need (small := [(90, (.int .i64 ((us.getD k R3.d).x)))]) ⟨look_row rfl 4 rfl s4, trivial⟩ ?_
           refine tp rfl (lv_geq rfl rfl (decide_eq_true hr1)) ?_
           exact d_closes ⟨look_row rfl 4 rfl s4, trivial⟩ 5 rfl rfl rfl hS (AgreeR.refl _) (t_sat (fun _ h => h) (hK () trivial))
          · -- 6
           rintro _ S hF hS D hp K hK
           try dsimp only at hF ⊢
           have s5 := hp 5 rfl
           refine d_need (small := [(91, (.bool true))]) ⟨look_row rfl 5 rfl s5, trivial⟩ ?_
           refine tp rfl (lv_move rfl) ?_
           exact d_closes ⟨look_row rfl 5 rfl s5, trivial⟩ 6 rfl rfl rfl hS (AgreeR.refl _) (t_sat (fun _ h => h) (hK () trivial))
          · -- 7
           rintro _ S hF hS D hp K hK
           try dsimp only at hF ⊢
           have s6 := hp 6 rfl
           refine d_need (small := [(2, (.slice brb n1 crb)), (92, (.bool true))]) ⟨look_b rfl rfl, look_row rfl 6 rfl s6, trivial⟩ ?_
           refine t_guard rfl rfl ?_
           refine tp rfl (lv_move rfl) ?_
           exact d_closes ⟨look_b rfl rfl, look_row rfl 6 rfl s6, trivial⟩ 7 rfl rfl rfl hS (AgreeR.refl _) (t_sat (fun _ h => h) (hK () trivial))
          · -- 8
           rintro _ S hF hS D hp K hK
           try dsimp only at hF ⊢
           have s6 := hp 6 rfl
           refine d_need (small := [(13, (.int .i64 ((k : Nat) : Int))), (92, (.bool true))]) ⟨look_b rfl rfl, look_row rfl 6 rfl s6, trivial⟩ ?_
           refine t_guard rfl rfl ?_
           refine tp rfl (lv_move rfl) ?_
           exact d_closes ⟨look_b rfl rfl, look_row rfl 6 rfl s6, trivial⟩ 8 rfl rfl rfl hS (AgreeR.refl _) (t_sat (fun _ h => h) (hK () trivial))
          · -- 9
           rintro _ S hF hS D hp K hK
           try dsimp only at hF ⊢
           have s6 := hp 6 rfl
           have s7 := hp 7 rfl
           have s8 := hp 8 rfl
           refine d_need (small := [(92, (.bool true)), (93, (.slice brb n1 crb)), (94, (.int .i64 ((k : Nat) : Int)))]) ⟨look_row rfl 6 rfl s6, look_row rfl 7 rfl s7, look_row rfl 8 rfl s8, trivial⟩ ?_
           refine t_guard rfl rfl ?_
           refine tp rfl (lv_indexAddr (k' := k * 3) Tryd.underlying23 Tryd.sizeOf47 rfl rfl (fun hz => okrb (by omega)) (by omega) (by omega) (by omega)) ?_
           exact d_closes ⟨look_row rfl 6 rfl s6, look_row rfl 7 rfl s7, look_row rfl 8 rfl s8, trivial⟩ 9 rfl rfl rfl hS (AgreeR.refl _) (t_sat (fun _ h => h) (hK () trivial))
          · -- 10
           rintro _ S hF hS D hp K hK
           try dsimp only at hF ⊢
           have s6 := hp 6 rfl
           have s9 := hp 9 rfl
           refine d_need (small := [(92, (.bool true)), (95, (.pointer (some (ad brb (k * 3)))))]) ⟨look_row rfl 6 rfl s6, look_row rfl 9 rfl s9, trivial⟩ ?_
           refine t_guard rfl rfl ?_
           refine tp rfl (lv_fieldAddr_ad (o' := k * 3) Tryd.underlying47 rfl Tryd.sizeOf3 rfl rfl) ?_
           exact d_closes ⟨look_row rfl 6 rfl s6, look_row rfl 9 rfl s9, trivial⟩ 10 rfl rfl rfl hS (AgreeR.refl _) (t_sat (fun _ h => h) (hK () trivial))
          · -- 11
           rintro _ S hF hS D hp K hK
           try dsimp only at hF ⊢
           have s6 := hp 6 rfl
           have s10 := hp 10 rfl
           refine d_need (small := [(92, (.bool true)), (96, (.pointer (some (ad brb (k * 3)))))]) ⟨look_row rfl 6 rfl s6, look_row rfl 10 rfl s10, trivial⟩ ?_
           refine t_guard rfl rfl ?_
           refine tp rfl (lv_load Tryd.isAgg3 rfl (Rd.gives (Rd.cons (Rd.cons rdrb)) ((recs_get (k := k) (j := 0) triF_len (d := R3.d) (by omega) (Nat.le_of_ble_eq_true rfl)).trans rfl))) ?_
           exact d_closes ⟨look_row rfl 6 rfl s6, look_row rfl 10 rfl s10, trivial⟩ 11 rfl rfl rfl hS (AgreeR.refl _) (t_sat (fun _ h => h) (hK () trivial))
          · -- 12
           rintro _ S hF hS D hp K hK
           try dsimp only at hF ⊢
           have s6 := hp 6 rfl
           refine d_need (small := [(9, (.slice bs2 NN cp3)), (92, (.bool true))]) ⟨look_b rfl rfl, look_row rfl 6 rfl s6, trivial⟩ ?_
           refine t_guard rfl rfl ?_
           refine tp rfl (lv_move rfl) ?_
           exact d_closes ⟨look_b rfl rfl, look_row rfl 6 rfl s6, trivial⟩ 12 rfl rfl rfl hS (AgreeR.refl _) (t_sat (fun _ h => h) (hK () trivial))
          · -- 13
           rintro _ S hF hS D hp K hK
           try dsimp only at hF ⊢
           have s6 := hp 6 rfl
           have s12 := hp 12 rfl
           refine d_need (small := [(92, (.bool true)), (98, (.slice bs2 NN cp3))]) ⟨look_row rfl 6 rfl s6, look_row rfl 12 rfl s12, trivial⟩ ?_
           refine t_guard rfl rfl ?_
           refine tp rfl (lv_len Tryd.underlying38 rfl rfl) ?_
           exact d_closes ⟨look_row rfl 6 rfl s6, look_row rfl 12 rfl s12, trivial⟩ 13 rfl rfl rfl hS (AgreeR.refl _) (t_sat (fun _ h => h) (hK () trivial))
          · -- 14
           rintro _ S hF hS D hp K hK
           try dsimp only at hF ⊢
           have s6 := hp 6 rfl
           have s11 := hp 11 rfl
           have s13 := hp 13 rfl
           refine d_need (small := [(92, (.bool true)), (97, (.int .i64 ((us.getD k R3.d).x))), (99, (.int .i64 ((NN : Nat) : Int)))]) ⟨look_row rfl 6 rfl s6, look_row rfl 11 rfl s11, look_row rfl 13 rfl s13, trivial⟩ ?_
           refine t_guard rfl rfl ?_
           refine tp rfl (lv_lss rfl rfl (decide_eq_false hr2)) ?_
           exact d_closes ⟨look_row rfl 6 rfl s6, look_row rfl 11 rfl s11, look_row rfl 13 rfl s13, trivial⟩ 14 rfl rfl rfl hS (AgreeR.refl _) (t_sat (fun _ h => h) (hK () trivial))
          · -- 15
           rintro _ S hF hS D hp K hK
           try dsimp only at hF ⊢
           have s6 := hp 6 rfl
           have s14 := hp 14 rfl
           refine d_need (small := [(92, (.bool true)), (100, (.bool false))]) ⟨look_row rfl 6 rfl s6, look_row rfl 14 rfl s14, trivial⟩ ?_
           refine tp rfl (lv_pick_t rfl rfl) ?_
           exact d_closes ⟨look_row rfl 6 rfl s6, look_row rfl 14 rfl s14, trivial⟩ 15 rfl rfl rfl hS (AgreeR.refl _) (t_sat (fun _ h => h) (hK () trivial))
          · -- 16
           rintro _ S hF hS D hp K hK
           try dsimp only at hF ⊢
           have s15 := hp 15 rfl
           refine d_need (small := [(101, (.bool false))]) ⟨look_row rfl 15 rfl s15, trivial⟩ ?_
           refine tp rfl (lv_move rfl) ?_
           exact d_closes ⟨look_row rfl 15 rfl s15, trivial⟩ 16 rfl rfl rfl hS (AgreeR.refl _) (t_sat (fun _ h => h) (hK () trivial))
          · -- 17
           rintro _ S hF hS D hp K hK
           try dsimp only at hF ⊢
           have s16 := hp 16 rfl
           refine d_need (small := [(9, (.slice bs2 NN cp3)), (102, (.bool false))]) ⟨look_b rfl rfl, look_row rfl 16 rfl s16, trivial⟩ ?_
           refine t_skip rfl rfl rfl ?_
           exact d_closes ⟨look_b rfl rfl, look_row rfl 16 rfl s16, trivial⟩ 17 rfl rfl rfl hS (AgreeR.refl _) (t_sat (fun _ h => h) (hK () trivial))
          · -- 18
           rintro _ S hF hS D hp K hK
           try dsimp only at hF ⊢
           have s16 := hp 16 rfl
           refine d_need (small := [(2, (.slice brb n1 crb)), (102, (.bool false))]) ⟨look_b rfl rfl, look_row rfl 16 rfl s16, trivial⟩ ?_
           refine t_skip rfl rfl rfl ?_
           exact d_closes ⟨look_b rfl rfl, look_row rfl 16 rfl s16, trivial⟩ 18 rfl rfl rfl hS (AgreeR.refl _) (t_sat (fun _ h => h) (hK () trivial))
          · -- 19
           rintro _ S hF hS D hp K hK
           try dsimp only at hF ⊢
           have s16 := hp 16 rfl
           refine d_need (small := [(13, (.int .i64 ((k : Nat) : Int))), (102, (.bool false))]) ⟨look_b rfl rfl, look_row rfl 16 rfl s16, trivial⟩ ?_
           refine t_skip rfl rfl rfl ?_
           exact d_closes ⟨look_b rfl rfl, look_row rfl 16 rfl s16, trivial⟩ 19 rfl rfl rfl hS (AgreeR.refl _) (t_sat (fun _ h => h) (hK () trivial))
          · -- 20
           rintro _ S hF hS D hp K hK
           try dsimp only at hF ⊢
           have s16 := hp 16 rfl
           have s18 := hp 18 rfl
           have s19 := hp 19 rfl
           refine d_need (small := [(102, (.bool false)), (104, undef), (105, undef)]) ⟨look_row rfl 16 rfl s16, look_row rfl 18 rfl s18, look_row rfl 19 rfl s19, trivial⟩ ?_
           refine t_skip rfl rfl rfl ?_
           exact d_closes ⟨look_row rfl 16 rfl s16, look_row rfl 18 rfl s18, look_row rfl 19 rfl s19, trivial⟩ 20 rfl rfl rfl hS (AgreeR.refl _) (t_sat (fun _ h => h) (hK () trivial))
          · -- 21
           rintro _ S hF hS D hp K hK
           try dsimp only at hF ⊢
           have s16 := hp 16 rfl
           have s20 := hp 20 rfl
           refine d_need (small := [(102, (.bool false)), (106, undef)]) ⟨look_row rfl 16 rfl s16, look_row rfl 20 rfl s20, trivial⟩ ?_
           refine t_skip rfl rfl rfl ?_
           exact d_closes ⟨look_row rfl 16 rfl s16, look_row rfl 20 rfl s20, trivial⟩ 21 rfl rfl rfl hS (AgreeR.refl _) (t_sat (fun _ h => h) (hK () trivial))
          · -- 22
           rintro _ S hF hS D hp K hK
           try dsimp only at hF ⊢
           have s16 := hp 16 rfl
           have s21 := hp 21 rfl
           refine d_need (small := [(102, (.bool false)), (107, undef)]) ⟨look_row rfl 16 rfl s16, look_row rfl 21 rfl s21, trivial⟩ ?_
           refine t_skip rfl rfl rfl ?_
           exact d_closes ⟨look_row rfl 16 rfl s16, look_row rfl 21 rfl s21, trivial⟩ 22 rfl rfl rfl hS (AgreeR.refl _) (t_sat (fun _ h => h) (hK () trivial))
          · -- 23
           rintro _ S hF hS D hp K hK
           try dsimp only at hF ⊢
           have s16 := hp 16 rfl
           have s17 := hp 17 rfl
           have s22 := hp 22 rfl
           refine d_need (small := [(102, (.bool false)), (103, undef), (108, undef)]) ⟨look_row rfl 16 rfl s16, look_row rfl 17 rfl s17, look_row rfl 22 rfl s22, trivial⟩ ?_
           refine t_skip rfl rfl rfl ?_
           exact d_closes ⟨look_row rfl 16 rfl s16, look_row rfl 17 rfl s17, look_row rfl 22 rfl s22, trivial⟩ 23 rfl rfl rfl hS (AgreeR.refl _) (t_sat (fun _ h => h) (hK () trivial))
          · -- 24
           rintro _ S hF hS D hp K hK
           try dsimp only at hF ⊢
           have s16 := hp 16 rfl
           have s23 := hp 23 rfl
           refine d_need (small := [(102, (.bool false)), (109, undef)]) ⟨look_row rfl 16 rfl s16, look_row rfl 23 rfl s23, trivial⟩ ?_
           refine t_skip rfl rfl rfl ?_
           exact d_closes ⟨look_row rfl 16 rfl s16, look_row rfl 23 rfl s23, trivial⟩ 24 rfl rfl rfl hS (AgreeR.refl _) (t_sat (fun _ h => h) (hK () trivial))
          · -- 25
           rintro _ S hF hS D hp K hK
           try dsimp only at hF ⊢
           have s16 := hp 16 rfl
           refine d_need (small := [(2, (.slice brb n1 crb)), (102, (.bool false))]) ⟨look_b rfl rfl, look_row rfl 16 rfl s16, trivial⟩ ?_
           refine t_skip rfl rfl rfl ?_
           exact d_closes ⟨look_b rfl rfl, look_row rfl 16 rfl s16, trivial⟩ 25 rfl rfl rfl hS (AgreeR.refl _) (t_sat (fun _ h => h) (hK () trivial))
          · -- 26
           rintro _ S hF hS D hp K hK
           try dsimp only at hF ⊢
           have s16 := hp 16 rfl
           refine d_need (small := [(13, (.int .i64 ((k : Nat) : Int))), (102, (.bool false))]) ⟨look_b rfl rfl, look_row rfl 16 rfl s16, trivial⟩ ?_
           refine t_skip rfl rfl rfl ?_
           exact d_closes ⟨look_b rfl rfl, look_row rfl 16 rfl s16, trivial⟩ 26 rfl rfl rfl hS (AgreeR.refl _) (t_sat (fun _ h => h) (hK () trivial))
          · -- 27
           rintro _ S hF hS D hp K hK
           try dsimp only at hF ⊢
           have s16 := hp 16 rfl
           have s25 := hp 25 rfl
           have s26 := hp 26 rfl
           refine d_need (small := [(102, (.bool false)), (111, undef), (112, undef)]) ⟨look_row rfl 16 rfl s16, look_row rfl 25 rfl s25, look_row rfl 26 rfl s26, trivial⟩ ?_
           refine t_skip rfl rfl rfl ?_
           exact d_closes ⟨look_row rfl 16 rfl s16, look_row rfl 25 rfl s25, look_row rfl 26 rfl s26, trivial⟩ 27 rfl rfl rfl hS (AgreeR.refl _) (t_sat (fun _ h => h) (hK () trivial))
          · -- 28
           rintro _ S hF hS D hp K hK
           try dsimp only at hF ⊢
           have s16 := hp 16 rfl
           have s27 := hp 27 rfl
           refine d_need (small := [(102, (.bool false)), (113, undef)]) ⟨look_row rfl 16 rfl s16, look_row rfl 27 rfl s27, trivial⟩ ?_
           refine t_skip rfl rfl rfl ?_
           exact d_closes ⟨look_row rfl 16 rfl s16, look_row rfl 27 rfl s27, trivial⟩ 28 rfl rfl rfl hS (AgreeR.refl _) (t_sat (fun _ h => h) (hK () trivial))
          · -- 29
           rintro _ S hF hS D hp K hK
           try dsimp only at hF ⊢
           have s16 := hp 16 rfl
           have s28 := hp 28 rfl
           refine d_need (small := [(102, (.bool false)), (114, undef)]) ⟨look_row rfl 16 rfl s16, look_row rfl 28 rfl s28, trivial⟩ ?_
           refine t_skip rfl rfl rfl ?_
           exact d_closes ⟨look_row rfl 16 rfl s16, look_row rfl 28 rfl s28, trivial⟩ 29 rfl rfl rfl hS (AgreeR.refl _) (t_sat (fun _ h => h) (hK () trivial))
          · -- 30
           rintro _ S hF hS D hp K hK
           try dsimp only at hF ⊢
           have s16 := hp 16 rfl
           have s24 := hp 24 rfl
           have s29 := hp 29 rfl
           refine d_need (small := [(102, (.bool false)), (110, undef), (115, undef)]) ⟨look_row rfl 16 rfl s16, look_row rfl 24 rfl s24, look_row rfl 29 rfl s29, trivial⟩ ?_
           refine t_skip rfl rfl rfl ?_
           exact d_closes ⟨look_row rfl 16 rfl s16, look_row rfl 24 rfl s24, look_row rfl 29 rfl s29, trivial⟩ 30 rfl rfl rfl hS (AgreeR.refl _) (t_sat (fun _ h => h) (hK () trivial))
          · -- 31
           rintro _ S hF hS D hp K hK
           try dsimp only at hF ⊢
           have s16 := hp 16 rfl
           have s30 := hp 30 rfl
           refine d_need (small := [(102, (.bool false)), (116, undef)]) ⟨look_row rfl 16 rfl s16, look_row rfl 30 rfl s30, trivial⟩ ?_
           refine tp rfl (lv_pick_f rfl rfl) ?_
           exact d_closes ⟨look_row rfl 16 rfl s16, look_row rfl 30 rfl s30, trivial⟩ 31 rfl rfl rfl hS (AgreeR.refl _) (t_sat (fun _ h => h) (hK () trivial))
         · -- behind
          rintro _ hF
          try dsimp only at hF ⊢
          refine t_weak (E' := [(0, (.int .i64 n)), (1, (.slice beb es.length ceb)), (2, (.slice brb n1 crb)), (7, (.bool true)), (8, (.pointer (some ⟨p1, 0, none⟩))), (9, (.slice bs2 NN cp3)), (10, (.int .i64 ((x : Nat) : Int))), (13, (.int .i64 ((k : Nat) : Int))), (19, (.bool false)), (32, (.bool false)), (40, (.bool false)), (83, (.bool true)), (117, (.bool false))]) ⟨rfl, rfl, rfl, rfl, rfl, rfl, rfl, rfl, rfl, rfl, rfl, rfl, rfl, trivial⟩ ?_
          refine q_then_n (hK21 _ _ ?_)
          refine c_false rfl ?_
          refine c_skip ?_
          refine q_in_n ?_
          refine q_then_n (hK20 _ _ ?_)
          refine c_region ?_
          refine tp rfl (lv_move rfl) ?_
          refine tp rfl (lv_add (c := ((k + 1 : Nat) : Int)) rfl rfl (wr_i64_succ (by omega))) ?_
          refine tp rfl (lv_assign rfl) ?_
          refine t_done ?_
          refine q_then_n ?_
          exact t_weak (by exact ⟨rfl, rfl, rfl, rfl, rfl, rfl, rfl, rfl, rfl, rfl, rfl, trivial⟩) ((hK17 (k + 1) (by omega) (by omega)))
      · -- no
        refine c_draw (γ := Unit) (n := 32) Tryd.mixed rfl rfl (fun _ S => True) (fun _ => [(0, 86, (.slice brb n1 crb)), (1, 87, (.int .i64 ((k : Nat) : Int))), (2, 88, (.pointer (some (ad brb (k * 3))))), (3, 89, (.pointer (some (ad brb (k * 3))))), (4, 90, (.int .i64 ((us.getD k R3.d).x))), (5, 91, (.bool false)), (6, 92, (.bool false)), (7, 93, undef), (8, 94, undef), (9, 95, undef), (10, 96, undef), (11, 97, undef), (12, 98, undef), (13, 99, undef), (14, 100, undef), (15, 101, (.bool false)), (16, 102, (.bool false)), (17, 103, undef), (18, 104, undef), (19, 105, undef), (20, 106, undef), (21, 107, undef), (22, 108, undef), (23, 109, undef), (24, 110, undef), (25, 111, undef), (26, 112, undef), (27, 113, undef), (28, 114, undef), (29, 115, undef), (30, 116, undef), (31, 117, (.bool false))]) (fun _ S => (GraphO p1 NN EE) :: (SlV 3 1 (.slice bs2 NN cp3) NN (ints .i64 (ofL NN EE us))) :: R) (()) trivial (fun _ h => h) (fun _ _ h => h) ?_ ?_
        · -- steps
         refine ⟨?_, ?_, ?_, ?_, ?_, ?_, ?_, ?_, ?_, ?_, ?_, ?_, ?_, ?_, ?_, ?_, ?_, ?_, ?_, ?_, ?_, ?_, ?_, ?_, ?_, ?_, ?_, ?_, ?_, ?_, ?_, ?_, trivial⟩
         · -- 0
          rintro _ S hF hS D hp K hK
          try dsimp only at hF ⊢
          refine d_need (small := [(2, (.slice brb n1 crb))]) ⟨look_b rfl rfl, trivial⟩ ?_
          refine tp rfl (lv_move rfl) ?_
          exact d_closes ⟨look_b rfl rfl, trivial⟩ 0 rfl rfl rfl hS (AgreeR.refl _) (t_sat (fun _ h => h) (hK () trivial))
         · -- 1
          rintro _ S hF hS D hp K hK
          try dsimp only at hF ⊢
          refine d_need (small := [(13, (.int .i64 ((k : Nat) : Int)))]) ⟨look_b rfl rfl, trivial⟩ ?_
          refine tp rfl (lv_move rfl) ?_
          exact d_closes ⟨look_b rfl rfl, trivial⟩ 1 rfl rfl rfl hS (AgreeR.refl _) (t_sat (fun _ h => h) (hK () trivial))
         · -- 2
          rintro _ S hF hS D hp K hK
          try dsimp only at hF ⊢
          have s0 := hp 0 rfl
          have s1 := hp 1 rfl
          refine d_need (small := [(86, (.slice brb n1 crb)), (87, (.int .i64 ((k : Nat) : Int)))]) ⟨look_row rfl 0 rfl s0, look_row rfl 1 rfl s1, trivial⟩ ?_
          refine tp rfl (lv_indexAddr (k' := k * 3) Tryd.underlying23 Tryd.sizeOf47 rfl rfl (fun hz => okrb (by omega)) (by omega) (by omega) (by omega)) ?_
          exact d_closes ⟨look_row rfl 0 rfl s0, look_row rfl 1 rfl s1, trivial⟩ 2 rfl rfl rfl hS (AgreeR.refl _) (t_sat (fun _ h => h) (hK () trivial))
         · -- 3
          rintro _ S hF hS D hp K hK
          try dsimp only at hF ⊢
          have s2 := hp 2 rfl
          refine d_need (small := [(88, (.pointer (some (ad brb (k * 3)))))]) ⟨look_row rfl 2 rfl s2, trivial⟩ ?_
          refine tp rfl (lv_fieldAddr_ad (o' := k * 3) Tryd.underlying47 rfl Tryd.sizeOf3 rfl rfl) ?_
          exact d_closes ⟨look_row rfl 2 rfl s2, trivial⟩ 3 rfl rfl rfl hS (AgreeR.refl _) (t_sat (fun _ h => h) (hK () trivial))
         · -- 4
          rintro _ S hF hS D hp K hK
          try dsimp only at hF ⊢
          have s3 := hp 3 rfl
          refine d_need (small := [(89, (.pointer (some (ad brb (k * 3)))))]) ⟨look_row rfl 3 rfl s3, trivial⟩ ?_
          refine tp rfl (lv_load Tryd.isAgg3 rfl (Rd.gives (Rd.cons (Rd.cons rdrb)) ((recs_get (k := k) (j := 0) triF_len (d := R3.d) (by omega) (Nat.le_of_ble_eq_true rfl)).trans rfl))) ?_
          exact d_closes ⟨look_row rfl 3 rfl s3, trivial⟩ 4 rfl rfl rfl hS (AgreeR.refl _) (t_sat (fun _ h => h) (hK () trivial))
         · -- 5
          rintro _ S hF hS D hp K hK
          try dsimp only at hF ⊢
          have s4 := hp 4 rfl
          refine d_need (small := [(90, (.int .i64 ((us.getD k R3.d).x)))]) ⟨look_row rfl 4 rfl s4, trivial⟩ ?_
          refine tp rfl (lv_geq rfl rfl (decide_eq_false hr1)) ?_
          exact d_closes ⟨look_row rfl 4 rfl s4, trivial⟩ 5 rfl rfl rfl hS (AgreeR.refl _) (t_sat (fun _ h => h) (hK () trivial))
         · -- 6
          rintro _ S hF hS D hp K hK
          try dsimp only at hF ⊢
          have s5 := hp 5 rfl
          refine d_need (small := [(91, (.bool false))]) ⟨look_row rfl 5 rfl s5, trivial⟩ ?_
          refine tp rfl (lv_move rfl) ?_
          exact d_closes ⟨look_row rfl 5 rfl s5, trivial⟩ 6 rfl rfl rfl hS (AgreeR.refl _) (t_sat (fun _ h => h) (hK () trivial))
         · -- 7
          rintro _ S hF hS D hp K hK
          try dsimp only at hF ⊢
          have s6 := hp 6 rfl
          refine d_need (small := [(2, (.slice brb n1 crb)), (92, (.bool false))]) ⟨look_b rfl rfl, look_row rfl 6 rfl s6, trivial⟩ ?_
          refine t_skip rfl rfl rfl ?_
          exact d_closes ⟨look_b rfl rfl, look_row rfl 6 rfl s6, trivial⟩ 7 rfl rfl rfl hS (AgreeR.refl _) (t_sat (fun _ h => h) (hK () trivial))
         · -- 8
          rintro _ S hF hS D hp K hK
          try dsimp only at hF ⊢
          have s6 := hp 6 rfl
          refine d_need (small := [(13, (.int .i64 ((k : Nat) : Int))), (92, (.bool false))]) ⟨look_b rfl rfl, look_row rfl 6 rfl s6, trivial⟩ ?_
          refine t_skip rfl rfl rfl ?_
          exact d_closes ⟨look_b rfl rfl, look_row rfl 6 rfl s6, trivial⟩ 8 rfl rfl rfl hS (AgreeR.refl _) (t_sat (fun _ h => h) (hK () trivial))
         · -- 9
          rintro _ S hF hS D hp K hK
          try dsimp only at hF ⊢
          have s6 := hp 6 rfl
          have s7 := hp 7 rfl
          have s8 := hp 8 rfl
          refine d_need (small := [(92, (.bool false)), (93, undef), (94, undef)]) ⟨look_row rfl 6 rfl s6, look_row rfl 7 rfl s7, look_row rfl 8 rfl s8, trivial⟩ ?_
          refine t_skip rfl rfl rfl ?_
          exact d_closes ⟨look_row rfl 6 rfl s6, look_row rfl 7 rfl s7, look_row rfl 8 rfl s8, trivial⟩ 9 rfl rfl rfl hS (AgreeR.refl _) (t_sat (fun _ h => h) (hK () trivial))
         · -- 10
          rintro _ S hF hS D hp K hK
          try dsimp only at hF ⊢
          have s6 := hp 6 rfl
          have s9 := hp 9 rfl
          refine d_need (small := [(92, (.bool false)), (95, undef)]) ⟨look_row rfl 6 rfl s6, look_row rfl 9 rfl s9, trivial⟩ ?_
          refine t_skip rfl rfl rfl ?_
          exact d_closes ⟨look_row rfl 6 rfl s6, look_row rfl 9 rfl s9, trivial⟩ 10 rfl rfl rfl hS (AgreeR.refl _) (t_sat (fun _ h => h) (hK () trivial))
         · -- 11
          rintro _ S hF hS D hp K hK
          try dsimp only at hF ⊢
          have s6 := hp 6 rfl
          have s10 := hp 10 rfl
          refine d_need (small := [(92, (.bool false)), (96, undef)]) ⟨look_row rfl 6 rfl s6, look_row rfl 10 rfl s10, trivial⟩ ?_
          refine t_skip rfl rfl rfl ?_
          exact d_closes ⟨look_row rfl 6 rfl s6, look_row rfl 10 rfl s10, trivial⟩ 11 rfl rfl rfl hS (AgreeR.refl _) (t_sat (fun _ h => h) (hK () trivial))
         · -- 12
          rintro _ S hF hS D hp K hK
          try dsimp only at hF ⊢
          have s6 := hp 6 rfl
          refine d_need (small := [(9, (.slice bs2 NN cp3)), (92, (.bool false))]) ⟨look_b rfl rfl, look_row rfl 6 rfl s6, trivial⟩ ?_
          refine t_skip rfl rfl rfl ?_
          exact d_closes ⟨look_b rfl rfl, look_row rfl 6 rfl s6, trivial⟩ 12 rfl rfl rfl hS (AgreeR.refl _) (t_sat (fun _ h => h) (hK () trivial))
         · -- 13
          rintro _ S hF hS D hp K hK
          try dsimp only at hF ⊢
          have s6 := hp 6 rfl
          have s12 := hp 12 rfl
          refine d_need (small := [(92, (.bool false)), (98, undef)]) ⟨look_row rfl 6 rfl s6, look_row rfl 12 rfl s12, trivial⟩ ?_
          refine t_skip rfl rfl rfl ?_
          exact d_closes ⟨look_row rfl 6 rfl s6, look_row rfl 12 rfl s12, trivial⟩ 13 rfl rfl rfl hS (AgreeR.refl _) (t_sat (fun _ h => h) (hK () trivial))
         · -- 14
          rintro _ S hF hS D hp K hK
          try dsimp only at hF ⊢
          have s6 := hp 6 rfl
          have s11 := hp 11 rfl
          have s13 := hp 13 rfl
          refine d_need (small := [(92, (.bool false)), (97, undef), (99, undef)]) ⟨look_row rfl 6 rfl s6, look_row rfl 11 rfl s11, look_row rfl 13 rfl s13, trivial⟩ ?_
          refine t_skip rfl rfl rfl ?_
          exact d_closes ⟨look_row rfl 6 rfl s6, look_row rfl 11 rfl s11, look_row rfl 13 rfl s13, trivial⟩ 14 rfl rfl rfl hS (AgreeR.refl _) (t_sat (fun _ h => h) (hK () trivial))
         · -- 15
          rintro _ S hF hS D hp K hK
          try dsimp only at hF ⊢
          have s6 := hp 6 rfl
          have s14 := hp 14 rfl
          refine d_need (small := [(92, (.bool false)), (100, undef)]) ⟨look_row rfl 6 rfl s6, look_row rfl 14 rfl s14, trivial⟩ ?_
          refine tp rfl (lv_pick_f rfl rfl) ?_
          exact d_closes ⟨look_row rfl 6 rfl s6, look_row rfl 14 rfl s14, trivial⟩ 15 rfl rfl rfl hS (AgreeR.refl _) (t_sat (fun _ h => h) (hK () trivial))
         · -- 16
          rintro _ S hF hS D hp K hK
          try dsimp only at hF ⊢
          have s15 := hp 15 rfl
          refine d_need (small := [(101, (.bool false))]) ⟨look_row rfl 15 rfl s15, trivial⟩ ?_
          refine tp rfl (lv_move rfl) ?_
          exact d_closes ⟨look_row rfl 15 rfl s15, trivial⟩ 16 rfl rfl rfl hS (AgreeR.refl _) (t_sat (fun _ h => h) (hK () trivial))
         · -- 17
          rintro _ S hF hS D hp K hK
          try dsimp only at hF ⊢
          have s16 := hp 16 rfl
          refine d_need (small := [(9, (.slice bs2 NN cp3)), (102, (.bool false))]) ⟨look_b rfl rfl, look_row rfl 16 rfl s16, trivial⟩ ?_
          refine t_skip rfl rfl rfl ?_
          exact d_closes ⟨look_b rfl rfl, look_row rfl 16 rfl s16, trivial⟩ 17 rfl rfl rfl hS (AgreeR.refl _) (t_sat (fun _ h => h) (hK () trivial))
         · -- 18
          rintro _ S hF hS D hp K hK
          try dsimp only at hF ⊢
          have s16 := hp 16 rfl
          refine d_need (small := [(2, (.slice brb n1 crb)), (102, (.bool false))]) ⟨look_b rfl rfl, look_row rfl 16 rfl s16, trivial⟩ ?_
          refine t_skip rfl rfl rfl ?_
          exact d_closes ⟨look_b rfl rfl, look_row rfl 16 rfl s16, trivial⟩ 18 rfl rfl rfl hS (AgreeR.refl _) (t_sat (fun _ h => h) (hK () trivial))
         · -- 19
          rintro _ S hF hS D hp K hK
          try dsimp only at hF ⊢
          have s16 := hp 16 rfl
          refine d_need (small := [(13, (.int .i64 ((k : Nat) : Int))), (102, (.bool false))]) ⟨look_b rfl rfl, look_row rfl 16 rfl s16, trivial⟩ ?_
          refine t_skip rfl rfl rfl ?_
          exact d_closes ⟨look_b rfl rfl, look_row rfl 16 rfl s16, trivial⟩ 19 rfl rfl rfl hS (AgreeR.refl _) (t_sat (fun _ h => h) (hK () trivial))
         · -- 20
          rintro _ S hF hS D hp K hK
          try dsimp only at hF ⊢
          have s16 := hp 16 rfl
          have s18 := hp 18 rfl
          have s19 := hp 19 rfl
          refine d_need (small := [(102, (.bool false)), (104, undef), (105, undef)]) ⟨look_row rfl 16 rfl s16, look_row rfl 18 rfl s18, look_row rfl 19 rfl s19, trivial⟩ ?_
          refine t_skip rfl rfl rfl ?_
          exact d_closes ⟨look_row rfl 16 rfl s16, look_row rfl 18 rfl s18, look_row rfl 19 rfl s19, trivial⟩ 20 rfl rfl rfl hS (AgreeR.refl _) (t_sat (fun _ h => h) (hK () trivial))
         · -- 21
          rintro _ S hF hS D hp K hK
          try dsimp only at hF ⊢
          have s16 := hp 16 rfl
          have s20 := hp 20 rfl
          refine d_need (small := [(102, (.bool false)), (106, undef)]) ⟨look_row rfl 16 rfl s16, look_row rfl 20 rfl s20, trivial⟩ ?_
          refine t_skip rfl rfl rfl ?_
          exact d_closes ⟨look_row rfl 16 rfl s16, look_row rfl 20 rfl s20, trivial⟩ 21 rfl rfl rfl hS (AgreeR.refl _) (t_sat (fun _ h => h) (hK () trivial))
         · -- 22
          rintro _ S hF hS D hp K hK
          try dsimp only at hF ⊢
          have s16 := hp 16 rfl
          have s21 := hp 21 rfl
          refine d_need (small := [(102, (.bool false)), (107, undef)]) ⟨look_row rfl 16 rfl s16, look_row rfl 21 rfl s21, trivial⟩ ?_
          refine t_skip rfl rfl rfl ?_
          exact d_closes ⟨look_row rfl 16 rfl s16, look_row rfl 21 rfl s21, trivial⟩ 22 rfl rfl rfl hS (AgreeR.refl _) (t_sat (fun _ h => h) (hK () trivial))
         · -- 23
          rintro _ S hF hS D hp K hK
          try dsimp only at hF ⊢
          have s16 := hp 16 rfl
          have s17 := hp 17 rfl
          have s22 := hp 22 rfl
          refine d_need (small := [(102, (.bool false)), (103, undef), (108, undef)]) ⟨look_row rfl 16 rfl s16, look_row rfl 17 rfl s17, look_row rfl 22 rfl s22, trivial⟩ ?_
          refine t_skip rfl rfl rfl ?_
          exact d_closes ⟨look_row rfl 16 rfl s16, look_row rfl 17 rfl s17, look_row rfl 22 rfl s22, trivial⟩ 23 rfl rfl rfl hS (AgreeR.refl _) (t_sat (fun _ h => h) (hK () trivial))
         · -- 24
          rintro _ S hF hS D hp K hK
          try dsimp only at hF ⊢
          have s16 := hp 16 rfl
          have s23 := hp 23 rfl
          refine d_need (small := [(102, (.bool false)), (109, undef)]) ⟨look_row rfl 16 rfl s16, look_row rfl 23 rfl s23, trivial⟩ ?_
          refine t_skip rfl rfl rfl ?_
          exact d_closes ⟨look_row rfl 16 rfl s16, look_row rfl 23 rfl s23, trivial⟩ 24 rfl rfl rfl hS (AgreeR.refl _) (t_sat (fun _ h => h) (hK () trivial))
         · -- 25
          rintro _ S hF hS D hp K hK
          try dsimp only at hF ⊢
          have s16 := hp 16 rfl
          refine d_need (small := [(2, (.slice brb n1 crb)), (102, (.bool false))]) ⟨look_b rfl rfl, look_row rfl 16 rfl s16, trivial⟩ ?_
          refine t_skip rfl rfl rfl ?_
          exact d_closes ⟨look_b rfl rfl, look_row rfl 16 rfl s16, trivial⟩ 25 rfl rfl rfl hS (AgreeR.refl _) (t_sat (fun _ h => h) (hK () trivial))
         · -- 26
          rintro _ S hF hS D hp K hK
          try dsimp only at hF ⊢
          have s16 := hp 16 rfl
          refine d_need (small := [(13, (.int .i64 ((k : Nat) : Int))), (102, (.bool false))]) ⟨look_b rfl rfl, look_row rfl 16 rfl s16, trivial⟩ ?_
          refine t_skip rfl rfl rfl ?_
          exact d_closes ⟨look_b rfl rfl, look_row rfl 16 rfl s16, trivial⟩ 26 rfl rfl rfl hS (AgreeR.refl _) (t_sat (fun _ h => h) (hK () trivial))
         · -- 27
          rintro _ S hF hS D hp K hK
          try dsimp only at hF ⊢
          have s16 := hp 16 rfl
          have s25 := hp 25 rfl
          have s26 := hp 26 rfl
          refine d_need (small := [(102, (.bool false)), (111, undef), (112, undef)]) ⟨look_row rfl 16 rfl s16, look_row rfl 25 rfl s25, look_row rfl 26 rfl s26, trivial⟩ ?_
          refine t_skip rfl rfl rfl ?_
          exact d_closes ⟨look_row rfl 16 rfl s16, look_row rfl 25 rfl s25, look_row rfl 26 rfl s26, trivial⟩ 27 rfl rfl rfl hS (AgreeR.refl _) (t_sat (fun _ h => h) (hK () trivial))
         · -- 28
          rintro _ S hF hS D hp K hK
          try dsimp only at hF ⊢
          have s16 := hp 16 rfl
          have s27 := hp 27 rfl
          refine d_need (small := [(102, (.bool false)), (113, undef)]) ⟨look_row rfl 16 rfl s16, look_row rfl 27 rfl s27, trivial⟩ ?_
          refine t_skip rfl rfl rfl ?_
          exact d_closes ⟨look_row rfl 16 rfl s16, look_row rfl 27 rfl s27, trivial⟩ 28 rfl rfl rfl hS (AgreeR.refl _) (t_sat (fun _ h => h) (hK () trivial))
         · -- 29
          rintro _ S hF hS D hp K hK
          try dsimp only at hF ⊢
          have s16 := hp 16 rfl
          have s28 := hp 28 rfl
          refine d_need (small := [(102, (.bool false)), (114, undef)]) ⟨look_row rfl 16 rfl s16, look_row rfl 28 rfl s28, trivial⟩ ?_
          refine t_skip rfl rfl rfl ?_
          exact d_closes ⟨look_row rfl 16 rfl s16, look_row rfl 28 rfl s28, trivial⟩ 29 rfl rfl rfl hS (AgreeR.refl _) (t_sat (fun _ h => h) (hK () trivial))
         · -- 30
          rintro _ S hF hS D hp K hK
          try dsimp only at hF ⊢
          have s16 := hp 16 rfl
          have s24 := hp 24 rfl
          have s29 := hp 29 rfl
          refine d_need (small := [(102, (.bool false)), (110, undef), (115, undef)]) ⟨look_row rfl 16 rfl s16, look_row rfl 24 rfl s24, look_row rfl 29 rfl s29, trivial⟩ ?_
          refine t_skip rfl rfl rfl ?_
          exact d_closes ⟨look_row rfl 16 rfl s16, look_row rfl 24 rfl s24, look_row rfl 29 rfl s29, trivial⟩ 30 rfl rfl rfl hS (AgreeR.refl _) (t_sat (fun _ h => h) (hK () trivial))
         · -- 31
          rintro _ S hF hS D hp K hK
          try dsimp only at hF ⊢
          have s16 := hp 16 rfl
          have s30 := hp 30 rfl
          refine d_need (small := [(102, (.bool false)), (116, undef)]) ⟨look_row rfl 16 rfl s16, look_row rfl 30 rfl s30, trivial⟩ ?_
          refine tp rfl (lv_pick_f rfl rfl) ?_
          exact d_closes ⟨look_row rfl 16 rfl s16, look_row rfl 30 rfl s30, trivial⟩ 31 rfl rfl rfl hS (AgreeR.refl _) (t_sat (fun _ h => h) (hK () trivial))
        · -- behind
         rintro _ hF
         try dsimp only at hF ⊢
         refine t_weak (E' := [(0, (.int .i64 n)), (1, (.slice beb es.length ceb)), (2, (.slice brb n1 crb)), (7, (.bool true)), (8, (.pointer (some ⟨p1, 0, none⟩))), (9, (.slice bs2 NN cp3)), (10, (.int .i64 ((x : Nat) : Int))), (13, (.int .i64 ((k : Nat) : Int))), (19, (.bool false)), (32, (.bool false)), (40, (.bool false)), (83, (.bool true)), (117, (.bool false))]) ⟨rfl, rfl, rfl, rfl, rfl, rfl, rfl, rfl, rfl, rfl, rfl, rfl, rfl, trivial⟩ ?_
         refine q_then_n (hK21 _ _ ?_)
         refine c_false rfl ?_
         refine c_skip ?_
         refine q_in_n ?_
         refine q_then_n (hK20 _ _ ?_)
         refine c_region ?_
         refine tp rfl (lv_move rfl) ?_
         refine tp rfl (lv_add (c := ((k + 1 : Nat) : Int)) rfl rfl (wr_i64_succ (by omega))) ?_
         refine tp rfl (lv_assign rfl) ?_
         refine t_done ?_
         refine q_then_n ?_
         exact t_weak (by exact ⟨rfl, rfl, rfl, rfl, rfl, rfl, rfl, rfl, rfl, rfl, rfl, trivial⟩) ((hK17 (k + 1) (by omega) (by omega)))
    · -- no
      refine tp rfl (lv_lss rfl rfl (decide_eq_false h12)) ?_
      refine t_done ?_
      refine q_then_n (hK19 _ _ ?_)
      refine c_false rfl ?_
      refine c_exit ?_
      refine q_then_x ?_
      refine q_then_x ?_
      refine q_in_x ?_
      refine q_then_n (hK15 _ _ ?_)
      refine c_seq (fun K20 hK20 => ?_)
      refine c_region ?_
      refine tp rfl (lv_move rfl) ?_
      refine tp rfl (lv_assign rfl) ?_
      refine t_done ?_
      refine q_then_n (hK20 _ _ ?_)
      refine c_ret ?_
      refine t_drop ?_
      refine t_drop ?_
      refine q_ret rfl rfl ?_
      exact ⟨rfl, rfl⟩
end Go.Proofs.YtlkcgpcgnhdnmaaDoor
