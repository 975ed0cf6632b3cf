/- PrioOne: the law's walk. -/
import Derived.Test.YtlkcgpcgnhdnmaaDoorLa
import Derived.Test.YtlkcgpcgnhdnmaaDoorPrp
import Derived.Test.YtlkcgpcgnhdnmaaDoorApk
set_option maxRecDepth 100000
set_option linter.unusedVariables false
set_option linter.unusedSimpArgs false
namespace Go.Proofs.YtlkcgpcgnhdnmaaDoor
open Go Go.Proofs Sp
set_option maxHeartbeats 20000000 in
theorem one_law {R : List HP} (n : Int) {beb : Option Addr} {ceb : Nat} (es : List (Int × Int)) (heb : Rd R beb (pairs es)) (okeb : SlOk beb es.length) (leb : es.length ≤ 9223372036854775807) (lceb : es.length ≤ ceb) {brb : Option Addr} {crb : Nat} (xr : List R3) (hrb : Rd R brb (recs triF xr)) (okrb : SlOk brb xr.length) (lrb : xr.length ≤ 9223372036854775807) (lcrb : xr.length ≤ crb) (q0 q1 q2 e0 e1 : Int) (hT : Tab R) :
    Ok Tryd.prog 4 [(.int .i64 n), (.slice beb es.length ceb), (.slice brb xr.length crb), (.agg #[(.int .i64 q0), (.int .i64 q1), (.int .i64 q2)]), (.agg #[(.int .i64 e0), (.int .i64 e1)])] R
      (fun v M => v = .bool true ∧ M = R) := by
  have hgk : GOk (clampN (min n 30)) (madeE (clampN (min n 30)) (es.take 100)) := GOk.made (clampN_le _) _
  have hcn := clampN_le (min n 30)
  obtain ⟨n1, hn1n⟩ : ∃ n, n = min xr.length 20 := ⟨_, rfl⟩
  obtain ⟨us, husl⟩ : ∃ l, l = xr.take n1 := ⟨_, rfl⟩
  have usn : us.length = n1 := by rw [husl, List.length_take]; omega
  have rdrb : Rd R brb (recs triF us) := by rw [husl]; exact rd_tk_recs triF_len n1 hrb
  refine ok_of (N := 159) Tryd.func4 rfl rfl rfl (fun W => ?_)
  refine c_seq (fun K1 hK1 => ?_)
  refine c_region ?_
  refine tm rfl (mv_box rfl rfl) ?_
  rintro _ _ ⟨b1, rfl, rfl⟩
  refine tm rfl (mv_box rfl rfl) ?_
  rintro _ _ ⟨b2, rfl, rfl⟩
  refine tp rfl (lv_assign rfl) ?_
  refine t_done ?_
  refine q_then_n (hK1 _ _ ?_)
  refine c_seq (fun K2 hK2 => ?_)
  refine c_region ?_
  refine tc rfl (en_fn Tryd.call8 rfl) (shown_ok (Tab.cons (Tab.cons hT))) ?_
  rintro _ _ ⟨rfl, rfl⟩
  refine tp rfl (lv_assign rfl) ?_
  refine t_done ?_
  refine q_then_n (hK2 _ _ ?_)
  refine c_seq (fun K3 hK3 => ?_)
  refine c_region ?_
  refine tp rfl (lv_move rfl) ?_
  refine tp rfl (lv_move rfl) ?_
  refine tc rfl (en_fn Tryd.call9 rfl) (made_ok n es (Rd.cons (Rd.cons heb)) (fun hz => okeb (by first | exact hz | omega)) (by first | omega | decide)) ?_
  rintro _ _ ⟨p3, rfl, rfl⟩
  refine tp rfl (lv_assign rfl) ?_
  refine t_done ?_
  refine q_then_n (hK3 _ _ ?_)
  refine c_seq (fun K4 hK4 => ?_)
  refine c_seq (fun K5 hK5 => ?_)
  refine c_region ?_
  refine tp rfl (lv_move rfl) ?_
  refine tp rfl (lv_eqnil Tryd.underlying25 rfl rfl) ?_
  refine t_done ?_
  refine q_then_n (hK5 _ _ ?_)
  refine c_false rfl ?_
  refine c_skip ?_
  refine q_then_n (hK4 _ _ ?_)
  refine c_seq (fun K6 hK6 => ?_)
  refine c_region ?_
  obtain ⟨EE, hEE⟩ : ∃ x, madeE (clampN (min n 30)) (es.take 100) = x := ⟨_, rfl⟩
  rw [hEE] at hgk ⊢
  obtain ⟨NN, hNN⟩ : ∃ x, clampN (min n 30) = x := ⟨_, rfl⟩
  rw [hNN] at hgk hcn ⊢
  refine tm rfl (mv_buildSlice (cs := []) Tryd.underlying23 Tryd.sizeOf47 Tryd.zeroValue47 (by decide) rfl rfl rfl rfl) ?_
  rintro _ _ ⟨bs4, cp5, hok6, hle7, rfl, rfl⟩
  refine tp rfl (lv_move rfl) ?_
  refine tp rfl (lv_move rfl) ?_
  refine tp rfl (lv_len Tryd.underlying23 rfl rfl) ?_
  refine tp rfl (lv_min (c := ((n1 : Nat) : Int)) rfl rfl (by omega)) ?_
  refine tp rfl (lv_slice (l := 0) (h := n1) (m := crb) (v := (.slice brb n1 crb)) Tryd.underlying23 Tryd.sizeOf47 rfl rfl rfl rfl (.inr ⟨rfl, rfl⟩) (.inl ⟨_, _, rfl, (by omega), (by omega), (by omega)⟩) (.inr ⟨rfl, rfl⟩) (by simp) (by rw [sbase_zero]; rfl)) ?_
  refine tm rfl (mv_append (i := Tryd.t47) Tryd.underlying23 Tryd.type47 rfl rfl rfl (by decide) rfl rfl (fun hz => okrb (by omega)) (by rw [recs_len triF_len, usn]) (Rd.cons (Rd.cons (Rd.cons (Rd.cons rdrb)))) (recs_one triF_one) (by rw [show Tryd.t47.bytes = 24 from rfl]; omega)) ?_
  rintro _ _ ⟨bs8, cp9, hok10, hle11, rfl, rfl⟩
  simp only [Nat.zero_add] at hok10 hle11 ⊢
  rw [List.nil_append]
  refine tp rfl (lv_assign rfl) ?_
  refine t_done ?_
  refine q_then_n (hK6 _ _ ?_)
  refine c_seq (fun K7 hK7 => ?_)
  refine c_region ?_
  refine tp rfl (lv_move rfl) ?_
  refine tp rfl (lv_move rfl) ?_
  refine t_f1 ?_
  refine tc rfl (en_fn Tryd.call15 rfl) (of_ok us (by first | rfl | omega | (simp; done) | (simp; omega)) (rd_sl (.head _)) (fun hz => hok10 (by first | exact hz | omega)) (by first | rfl | omega | (simp; done) | (simp; omega)) (Tab.cons (Tab.cons (Tab.cons hT)))) ?_
  rintro _ _ ⟨bs12, cp13, hok14, hle15, rfl, rfl⟩
  refine tp rfl (lv_assign rfl) ?_
  refine t_done ?_
  refine q_then_n (hK7 _ _ ?_)
  refine c_seq (fun K8 hK8 => ?_)
  refine c_seq (fun K9 hK9 => ?_)
  refine c_region ?_
  refine tp rfl (lv_assign rfl) ?_
  refine t_done ?_
  refine q_then_n (hK9 _ _ ?_)
  refine c_block ?_
  refine c_loop (γ := (Nat)) (fun (x : Nat) => x ≤ NN) (fun (x : Nat) => [(0, (.int .i64 n)), (1, (.slice beb es.length ceb)), (2, (.slice bs8 n1 cp9)), (3, (.agg #[(.int .i64 q0), (.int .i64 q1), (.int .i64 q2)])), (4, (.agg #[(.int .i64 e0), (.int .i64 e1)])), (8, (.pointer (some ⟨b1, 0, none⟩))), (9, (.pointer (some ⟨b2, 0, none⟩))), (11, (.bool true)), (12, (.pointer (some ⟨p3, 0, none⟩))), (13, (.slice bs12 NN cp13)), (14, (.int .i64 ((x : Nat) : Int))), (26, (.bool false))]) (fun (x : Nat) => (SlV 3 1 (.slice bs12 NN cp13) NN (ints .i64 (ofL NN EE us))) :: (GraphO p3 NN EE) :: (SlV 47 3 (.slice bs8 n1 cp9) n1 (recs triF us)) :: (Blk b2 [(.int .i64 e0), (.int .i64 e1)] 33) :: (Blk b1 [(.int .i64 q0), (.int .i64 q1), (.int .i64 q2)] 47) :: R) (fun (x : Nat) => NN - x) (0) (by omega) ⟨rfl, rfl, rfl, rfl, rfl, rfl, rfl, rfl, rfl, rfl, rfl, rfl, trivial⟩ (fun _ h => h) ?_
  rintro x K10 hF hK10
  try dsimp only at hF hK10 ⊢
  have hl0 := ofL_len NN EE us
  have hrl := rchN_len NN EE us ((x : Nat) : Int) n1
  refine c_seq (fun K11 hK11 => ?_)
  refine c_seq (fun K12 hK12 => ?_)
  refine c_region ?_
  refine tp rfl (lv_move rfl) ?_
  refine tp rfl (lv_move rfl) ?_
  refine tp rfl (lv_len Tryd.underlying38 rfl rfl) ?_
  by_cases h16 : ((x : Nat) : Int) < ((NN : Nat) : Int)
  · -- yes
    refine tp rfl (lv_lss rfl rfl (decide_eq_true h16)) ?_
    refine t_done ?_
    refine q_then_n (hK12 _ _ ?_)
    refine c_true rfl ?_
    refine c_skip ?_
    refine q_then_n (hK11 _ _ ?_)
    refine c_seq (fun K13 hK13 => ?_)
    refine c_block ?_
    refine c_seq (fun K14 hK14 => ?_)
    refine c_region ?_
    refine tp rfl (lv_move rfl) ?_
    refine tp rfl (lv_move rfl) ?_
    refine tp rfl (lv_move rfl) ?_
    refine t_f1 ?_
    refine tc rfl (en_fn Tryd.call13 rfl) (reached_ok us ((x : Nat) : Int) (by first | rfl | omega | (simp; done) | (simp; omega)) (rd_sl (.tail _ (.head _))) (fun hz => hok10 (by first | exact hz | omega)) (by first | rfl | omega | (simp; done) | (simp; omega)) (Tab.cons (Tab.cons (Tab.cons (Tab.cons hT))))) ?_
    rintro _ _ ⟨bs17, cp18, hok19, hle20, rfl, rfl⟩
    refine tp rfl (lv_assign rfl) ?_
    refine t_done ?_
    refine q_then_n (hK14 _ _ ?_)
    refine c_seq (fun K15 hK15 => ?_)
    refine c_region ?_
    refine tp rfl (lv_move rfl) ?_
    refine tp rfl (lv_move rfl) ?_
    refine tp rfl (lv_indexAddr (k' := x) Tryd.underlying38 Tryd.sizeOf3 rfl rfl hok14 (by omega) (by omega) (by omega)) ?_
    refine tp rfl (lv_load Tryd.isAgg3 rfl (gives_sl (.tail _ (.tail _ (.head _))) (ints_get (by omega)))) ?_
    refine tp rfl (lv_eql rfl rfl rfl) ?_
    refine tp rfl (lv_assign rfl) ?_
    refine t_done ?_
    refine q_then_n (hK15 _ _ ?_)
    refine c_seq (fun K16 hK16 => ?_)
    refine c_seq (fun K17 hK17 => ?_)
    refine c_region ?_
    refine tp rfl (lv_assign rfl) ?_
    refine t_done ?_
    refine q_then_n (hK17 _ _ ?_)
    refine c_block ?_
    refine c_loop (γ := (Nat)) (fun (i : Nat) => i ≤ (rchN NN EE us ((x : Nat) : Int) n1).length) (fun (i : Nat) => [(0, (.int .i64 n)), (1, (.slice beb es.length ceb)), (2, (.slice bs8 n1 cp9)), (3, (.agg #[(.int .i64 q0), (.int .i64 q1), (.int .i64 q2)])), (4, (.agg #[(.int .i64 e0), (.int .i64 e1)])), (8, (.pointer (some ⟨b1, 0, none⟩))), (9, (.pointer (some ⟨b2, 0, none⟩))), (11, (.bool true)), (12, (.pointer (some ⟨p3, 0, none⟩))), (13, (.slice bs12 NN cp13)), (14, (.int .i64 ((x : Nat) : Int))), (15, (.slice bs17 ((rchN NN EE us ((x : Nat) : Int) n1).length) cp18)), (16, (.bool (anyN us (rchN NN EE us ((x : Nat) : Int) n1) ((ofL NN EE us).getD x 0) i))), (17, (.int .i64 ((i : Nat) : Int))), (26, (.bool false)), (40, (.bool true))]) (fun (i : Nat) => (SlV 3 1 (.slice bs17 ((rchN NN EE us ((x : Nat) : Int) n1).length) cp18) ((rchN NN EE us ((x : Nat) : Int) n1).length) (ints .i64 (rchN NN EE us ((x : Nat) : Int) n1))) :: (GraphO p3 NN EE) :: (SlV 3 1 (.slice bs12 NN cp13) NN (ints .i64 (ofL NN EE us))) :: (SlV 47 3 (.slice bs8 n1 cp9) n1 (recs triF us)) :: (Blk b2 [(.int .i64 e0), (.int .i64 e1)] 33) :: (Blk b1 [(.int .i64 q0), (.int .i64 q1), (.int .i64 q2)] 47) :: R) (fun (i : Nat) => (rchN NN EE us ((x : Nat) : Int) n1).length - i) (0) (by omega) ⟨rfl, rfl, rfl, rfl, rfl, rfl, rfl, rfl, rfl, rfl, rfl, rfl, (by unfold anyN; rw [List.take_zero, List.any_nil, Bool.or_false]; rfl), rfl, rfl, rfl, trivial⟩ (fun _ h => h) ?_
    rintro i K18 hF hK18
    try dsimp only at hF hK18 ⊢
    refine c_seq (fun K19 hK19 => ?_)
    refine c_seq (fun K20 hK20 => ?_)
    refine c_region ?_
    refine tp rfl (lv_move rfl) ?_
    refine tp rfl (lv_move rfl) ?_
    refine tp rfl (lv_len Tryd.underlying38 rfl rfl) ?_
    by_cases h21 : ((i : Nat) : Int) < (((rchN NN EE us ((x : Nat) : Int) n1).length : Nat) : Int)
    · -- yes
      refine tp rfl (lv_lss rfl rfl (decide_eq_true h21)) ?_
      refine t_done ?_
      refine q_then_n (hK20 _ _ ?_)
      refine c_true rfl ?_
      refine c_skip ?_
      refine q_then_n (hK19 _ _ ?_)
      refine c_seq (fun K21 hK21 => ?_)
      refine c_block ?_
      refine c_seq (fun K22 hK22 => ?_)
      refine c_seq (fun K23 hK23 => ?_)
      obtain ⟨k0, hk0, hk1, hk2⟩ := rch_at (show i < (rchN NN EE us ((x : Nat) : Int) n1).length by omega)
      have hkl := rch_le (rs := us) (show x < NN by omega) (show k0 < us.length by omega) hk2
      have hkn : ((rchN NN EE us ((x : Nat) : Int) n1).getD i 0).toNat = k0 := by omega
      refine c_draw (γ := Unit) (n := 29) Tryd.mixed rfl rfl (fun _ S => True) (fun _ => [(0, 58, (.slice bs17 ((rchN NN EE us ((x : Nat) : Int) n1).length) cp18)), (1, 59, (.int .i64 ((i : Nat) : Int))), (2, 60, (.pointer (some (ad bs17 i)))), (3, 61, (.int .i64 ((rchN NN EE us ((x : Nat) : Int) n1).getD i 0))), (4, 62, (.bool false)), (5, 63, (.bool false)), (6, 64, (.slice bs17 ((rchN NN EE us ((x : Nat) : Int) n1).length) cp18)), (7, 65, (.int .i64 ((i : Nat) : Int))), (8, 66, (.pointer (some (ad bs17 i)))), (9, 67, (.int .i64 ((rchN NN EE us ((x : Nat) : Int) n1).getD i 0))), (10, 68, (.slice bs8 n1 cp9)), (11, 69, (.int .i64 ((n1 : Nat) : Int))), (12, 70, (.bool false)), (13, 71, (.bool false)), (14, 72, (.bool false)), (15, 73, (.slice bs8 n1 cp9)), (16, 74, (.slice bs17 ((rchN NN EE us ((x : Nat) : Int) n1).length) cp18)), (17, 75, (.int .i64 ((i : Nat) : Int))), (18, 76, (.pointer (some (ad bs17 i)))), (19, 77, (.int .i64 ((rchN NN EE us ((x : Nat) : Int) n1).getD i 0))), (20, 78, (.pointer (some (ad bs8 ((((rchN NN EE us ((x : Nat) : Int) n1).getD i 0).toNat) * 3))))), (21, 79, (.pointer (some (ad bs8 ((((rchN NN EE us ((x : Nat) : Int) n1).getD i 0).toNat) * 3 + 2))))), (22, 80, (.int .i64 ((us.getD (((rchN NN EE us ((x : Nat) : Int) n1).getD i 0).toNat) R3.d).z))), (23, 81, (.slice bs12 NN cp13)), (24, 82, (.int .i64 ((x : Nat) : Int))), (25, 83, (.pointer (some (ad bs12 x)))), (26, 84, (.int .i64 ((ofL NN EE us).getD x 0))), (27, 85, (.bool false)), (28, 86, (.bool false))]) (fun _ S => (SlV 3 1 (.slice bs17 ((rchN NN EE us ((x : Nat) : Int) n1).length) cp18) ((rchN NN EE us ((x : Nat) : Int) n1).length) (ints .i64 (rchN NN EE us ((x : Nat) : Int) n1))) :: (GraphO p3 NN EE) :: (SlV 3 1 (.slice bs12 NN cp13) NN (ints .i64 (ofL NN EE us))) :: (SlV 47 3 (.slice bs8 n1 cp9) n1 (recs triF us)) :: (Blk b2 [(.int .i64 e0), (.int .i64 e1)] 33) :: (Blk b1 [(.int .i64 q0), (.int .i64 q1), (.int .i64 q2)] 47) :: R) (()) trivial (fun _ h => h) (fun _ _ h => h) ?_ ?_
      · -- steps
        refine ⟨?_, ?_, ?_, ?_, ?_, ?_, ?_, ?_, ?_, ?_, ?_, ?_, ?_, ?_, ?_, ?_, ?_, ?_, ?_, ?_, ?_, ?_, ?_, ?_, ?_, ?_, ?_, ?_, ?_, trivial⟩
        · -- 0
         rintro _ S hF hS D hp K hK
         try dsimp only at hF ⊢
         refine d_need (small := [(15, (.slice bs17 ((rchN NN EE us ((x : Nat) : Int) n1).length) cp18))]) ⟨look_b rfl rfl, trivial⟩ ?_
         refine tp rfl (lv_move rfl) ?_
         exact d_closes ⟨look_b rfl rfl, trivial⟩ 0 rfl rfl rfl hS (AgreeR.refl _) (t_sat (fun _ h => h) (hK () trivial))
        · -- 1
         rintro _ S hF hS D hp K hK
         try dsimp only at hF ⊢
         refine d_need (small := [(17, (.int .i64 ((i : Nat) : Int)))]) ⟨look_b rfl rfl, trivial⟩ ?_
         refine tp rfl (lv_move rfl) ?_
         exact d_closes ⟨look_b rfl rfl, trivial⟩ 1 rfl rfl rfl hS (AgreeR.refl _) (t_sat (fun _ h => h) (hK () trivial))
        · -- 2
         rintro _ S hF hS D hp K hK
         try dsimp only at hF ⊢
         have s0 := hp 0 rfl
         have s1 := hp 1 rfl
         refine d_need (small := [(58, (.slice bs17 ((rchN NN EE us ((x : Nat) : Int) n1).length) cp18)), (59, (.int .i64 ((i : Nat) : Int)))]) ⟨look_row rfl 0 rfl s0, look_row rfl 1 rfl s1, trivial⟩ ?_
         refine tp rfl (lv_indexAddr (k' := i) Tryd.underlying38 Tryd.sizeOf3 rfl rfl hok19 (by omega) (by omega) (by omega)) ?_
         exact d_closes ⟨look_row rfl 0 rfl s0, look_row rfl 1 rfl s1, trivial⟩ 2 rfl rfl rfl hS (AgreeR.refl _) (t_sat (fun _ h => h) (hK () trivial))
        · -- 3
         rintro _ S hF hS D hp K hK
         try dsimp only at hF ⊢
         have s2 := hp 2 rfl
         refine d_need (small := [(60, (.pointer (some (ad bs17 i))))]) ⟨look_row rfl 2 rfl s2, trivial⟩ ?_
         refine tp rfl (lv_load Tryd.isAgg3 rfl (gives_sl (.head _) (ints_get (by omega)))) ?_
         exact d_closes ⟨look_row rfl 2 rfl s2, trivial⟩ 3 rfl rfl rfl hS (AgreeR.refl _) (t_sat (fun _ h => h) (hK () trivial))
        · -- 4
         rintro _ S hF hS D hp K hK
         try dsimp only at hF ⊢
         have s3 := hp 3 rfl
         refine d_need (small := [(61, (.int .i64 ((rchN NN EE us ((x : Nat) : Int) n1).getD i 0)))]) ⟨look_row rfl 3 rfl s3, trivial⟩ ?_
         refine tp rfl (lv_lss rfl rfl (decide_eq_false (by omega))) ?_
         exact d_closes ⟨look_row rfl 3 rfl s3, trivial⟩ 4 rfl rfl rfl hS (AgreeR.refl _) (t_sat (fun _ h => h) (hK () trivial))
        · -- 5
         rintro _ S hF hS D hp K hK
         try dsimp only at hF ⊢
         have s4 := hp 4 rfl
         refine d_need (small := [(62, (.bool false))]) ⟨look_row rfl 4 rfl s4, trivial⟩ ?_
         refine tp rfl (lv_move rfl) ?_
         exact d_closes ⟨look_row rfl 4 rfl s4, trivial⟩ 5 rfl rfl rfl hS (AgreeR.refl _) (t_sat (fun _ h => h) (hK () trivial))
        · -- 6
         rintro _ S hF hS D hp K hK
         try dsimp only at hF ⊢
         have s5 := hp 5 rfl
         refine d_need (small := [(15, (.slice bs17 ((rchN NN EE us ((x : Nat) : Int) n1).length) cp18)), (63, (.bool false))]) ⟨look_b rfl rfl, look_row rfl 5 rfl s5, trivial⟩ ?_
         refine t_guard rfl rfl ?_
         refine tp rfl (lv_move rfl) ?_
         exact d_closes ⟨look_b rfl rfl, look_row rfl 5 rfl s5, trivial⟩ 6 rfl rfl rfl hS (AgreeR.refl _) (t_sat (fun _ h => h) (hK () trivial))
        · -- 7
         rintro _ S hF hS D hp K hK
         try dsimp only at hF ⊢
         have s5 := hp 5 rfl
         refine d_need (small := [(17, (.int .i64 ((i : Nat) : Int))), (63, (.bool false))]) ⟨look_b rfl rfl, look_row rfl 5 rfl s5, trivial⟩ ?_
         refine t_guard rfl rfl ?_
         refine tp rfl (lv_move rfl) ?_
         exact d_closes ⟨look_b rfl rfl, look_row rfl 5 rfl s5, trivial⟩ 7 rfl rfl rfl hS (AgreeR.refl _) (t_sat (fun _ h => h) (hK () trivial))
        · -- 8
         rintro _ S hF hS D hp K hK
         try dsimp only at hF ⊢
         have s5 := hp 5 rfl
         have s6 := hp 6 rfl
         have s7 := hp 7 rfl
         refine d_need (small := [(63, (.bool false)), (64, (.slice bs17 ((rchN NN EE us ((x : Nat) : Int) n1).length) cp18)), (65, (.int .i64 ((i : Nat) : Int)))]) ⟨look_row rfl 5 rfl s5, look_row rfl 6 rfl s6, look_row rfl 7 rfl s7, trivial⟩ ?_
         refine t_guard rfl rfl ?_
         refine tp rfl (lv_indexAddr (k' := i) Tryd.underlying38 Tryd.sizeOf3 rfl rfl hok19 (by omega) (by omega) (by omega)) ?_
         exact d_closes ⟨look_row rfl 5 rfl s5, look_row rfl 6 rfl s6, look_row rfl 7 rfl s7, trivial⟩ 8 rfl rfl rfl hS (AgreeR.refl _) (t_sat (fun _ h => h) (hK () trivial))
        · -- 9
         rintro _ S hF hS D hp K hK
         try dsimp only at hF ⊢
         have s5 := hp 5 rfl
         have s8 := hp 8 rfl
         refine d_need (small := [(63, (.bool false)), (66, (.pointer (some (ad bs17 i))))]) ⟨look_row rfl 5 rfl s5, look_row rfl 8 rfl s8, trivial⟩ ?_
         refine t_guard rfl rfl ?_
         refine tp rfl (lv_load Tryd.isAgg3 rfl (gives_sl (.head _) (ints_get (by omega)))) ?_
         exact d_closes ⟨look_row rfl 5 rfl s5, look_row rfl 8 rfl s8, trivial⟩ 9 rfl rfl rfl hS (AgreeR.refl _) (t_sat (fun _ h => h) (hK () trivial))
        · -- 10
         rintro _ S hF hS D hp K hK
         try dsimp only at hF ⊢
         have s5 := hp 5 rfl
         refine d_need (small := [(2, (.slice bs8 n1 cp9)), (63, (.bool false))]) ⟨look_b rfl rfl, look_row rfl 5 rfl s5, trivial⟩ ?_
         refine t_guard rfl rfl ?_
         refine tp rfl (lv_move rfl) ?_
         exact d_closes ⟨look_b rfl rfl, look_row rfl 5 rfl s5, trivial⟩ 10 rfl rfl rfl hS (AgreeR.refl _) (t_sat (fun _ h => h) (hK () trivial))
        · -- 11
         rintro _ S hF hS D hp K hK
         try dsimp only at hF ⊢
         have s5 := hp 5 rfl
         have s10 := hp 10 rfl
         refine d_need (small := [(63, (.bool false)), (68, (.slice bs8 n1 cp9))]) ⟨look_row rfl 5 rfl s5, look_row rfl 10 rfl s10, trivial⟩ ?_
         refine t_guard rfl rfl ?_
         refine tp rfl (lv_len Tryd.underlying23 rfl rfl) ?_
         exact d_closes ⟨look_row rfl 5 rfl s5, look_row rfl 10 rfl s10, trivial⟩ 11 rfl rfl rfl hS (AgreeR.refl _) (t_sat (fun _ h => h) (hK () trivial))
        · -- 12
         rintro _ S hF hS D hp K hK
         try dsimp only at hF ⊢
         have s5 := hp 5 rfl
         have s9 := hp 9 rfl
         have s11 := hp 11 rfl
         refine d_need (small := [(63, (.bool false)), (67, (.int .i64 ((rchN NN EE us ((x : Nat) : Int) n1).getD i 0))), (69, (.int .i64 ((n1 : Nat) : Int)))]) ⟨look_row rfl 5 rfl s5, look_row rfl 9 rfl s9, look_row rfl 11 rfl s11, trivial⟩ ?_
         refine t_guard rfl rfl ?_
         refine tp rfl (lv_geq rfl rfl (decide_eq_false (by omega))) ?_
         exact d_closes ⟨look_row rfl 5 rfl s5, look_row rfl 9 rfl s9, look_row rfl 11 rfl s11, trivial⟩ 12 rfl rfl rfl hS (AgreeR.refl _) (t_sat (fun _ h => h) (hK () trivial))
        · -- 13
         rintro _ S hF hS D hp K hK
         try dsimp only at hF ⊢
         have s5 := hp 5 rfl
         have s12 := hp 12 rfl
         refine d_need (small := [(63, (.bool false)), (70, (.bool false))]) ⟨look_row rfl 5 rfl s5, look_row rfl 12 rfl s12, trivial⟩ ?_
         refine tp rfl (lv_pick_f rfl rfl) ?_
         exact d_closes ⟨look_row rfl 5 rfl s5, look_row rfl 12 rfl s12, trivial⟩ 13 rfl rfl rfl hS (AgreeR.refl _) (t_sat (fun _ h => h) (hK () trivial))
        · -- 14
         rintro _ S hF hS D hp K hK
         try dsimp only at hF ⊢
         have s13 := hp 13 rfl
         refine d_need (small := [(71, (.bool false))]) ⟨look_row rfl 13 rfl s13, trivial⟩ ?_
         refine tp rfl (lv_move rfl) ?_
         exact d_closes ⟨look_row rfl 13 rfl s13, trivial⟩ 14 rfl rfl rfl hS (AgreeR.refl _) (t_sat (fun _ h => h) (hK () trivial))
        · -- 15
         rintro _ S hF hS D hp K hK
         try dsimp only at hF ⊢
         have s14 := hp 14 rfl
         refine d_need (small := [(2, (.slice bs8 n1 cp9)), (72, (.bool false))]) ⟨look_b rfl rfl, look_row rfl 14 rfl s14, trivial⟩ ?_
         refine t_guard rfl rfl ?_
         refine tp rfl (lv_move rfl) ?_
         exact d_closes ⟨look_b rfl rfl, look_row rfl 14 rfl s14, trivial⟩ 15 rfl rfl rfl hS (AgreeR.refl _) (t_sat (fun _ h => h) (hK () trivial))
        · -- 16
         rintro _ S hF hS D hp K hK
         try dsimp only at hF ⊢
         have s14 := hp 14 rfl
         refine d_need (small := [(15, (.slice bs17 ((rchN NN EE us ((x : Nat) : Int) n1).length) cp18)), (72, (.bool false))]) ⟨look_b rfl rfl, look_row rfl 14 rfl s14, trivial⟩ ?_
         refine t_guard rfl rfl ?_
         refine tp rfl (lv_move rfl) ?_
         exact d_closes ⟨look_b rfl rfl, look_row rfl 14 rfl s14, trivial⟩ 16 rfl rfl rfl hS (AgreeR.refl _) (t_sat (fun _ h => h) (hK () trivial))
        · -- 17
         rintro _ S hF hS D hp K hK
         try dsimp only at hF ⊢
         have s14 := hp 14 rfl
         refine d_need (small := [(17, (.int .i64 ((i : Nat) : Int))), (72, (.bool false))]) ⟨look_b rfl rfl, look_row rfl 14 rfl s14, trivial⟩ ?_
         refine t_guard rfl rfl ?_
         refine tp rfl (lv_move rfl) ?_
         exact d_closes ⟨look_b rfl rfl, look_row rfl 14 rfl s14, trivial⟩ 17 rfl rfl rfl hS (AgreeR.refl _) (t_sat (fun _ h => h) (hK () trivial))
        · -- 18
         rintro _ S hF hS D hp K hK
         try dsimp only at hF ⊢
         have s14 := hp 14 rfl
         have s16 := hp 16 rfl
         have s17 := hp 17 rfl
         refine d_need (small := [(72, (.bool false)), (74, (.slice bs17 ((rchN NN EE us ((x : Nat) : Int) n1).length) cp18)), (75, (.int .i64 ((i : Nat) : Int)))]) ⟨look_row rfl 14 rfl s14, look_row rfl 16 rfl s16, look_row rfl 17 rfl s17, trivial⟩ ?_
         refine t_guard rfl rfl ?_
         refine tp rfl (lv_indexAddr (k' := i) Tryd.underlying38 Tryd.sizeOf3 rfl rfl hok19 (by omega) (by omega) (by omega)) ?_
         exact d_closes ⟨look_row rfl 14 rfl s14, look_row rfl 16 rfl s16, look_row rfl 17 rfl s17, trivial⟩ 18 rfl rfl rfl hS (AgreeR.refl _) (t_sat (fun _ h => h) (hK () trivial))
        · -- 19
         rintro _ S hF hS D hp K hK
         try dsimp only at hF ⊢
         have s14 := hp 14 rfl
         have s18 := hp 18 rfl
         refine d_need (small := [(72, (.bool false)), (76, (.pointer (some (ad bs17 i))))]) ⟨look_row rfl 14 rfl s14, look_row rfl 18 rfl s18, trivial⟩ ?_
         refine t_guard rfl rfl ?_
         refine tp rfl (lv_load Tryd.isAgg3 rfl (gives_sl (.head _) (ints_get (by omega)))) ?_
         exact d_closes ⟨look_row rfl 14 rfl s14, look_row rfl 18 rfl s18, trivial⟩ 19 rfl rfl rfl hS (AgreeR.refl _) (t_sat (fun _ h => h) (hK () trivial))
        · -- 20
         rintro _ S hF hS D hp K hK
         try dsimp only at hF ⊢
         have s14 := hp 14 rfl
         have s15 := hp 15 rfl
         have s19 := hp 19 rfl
         refine d_need (small := [(72, (.bool false)), (73, (.slice bs8 n1 cp9)), (77, (.int .i64 ((rchN NN EE us ((x : Nat) : Int) n1).getD i 0)))]) ⟨look_row rfl 14 rfl s14, look_row rfl 15 rfl s15, look_row rfl 19 rfl s19, trivial⟩ ?_
         refine t_guard rfl rfl ?_
         refine tp rfl (lv_indexAddr (k' := (((rchN NN EE us ((x : Nat) : Int) n1).getD i 0).toNat) * 3) Tryd.underlying23 Tryd.sizeOf47 rfl rfl hok10 (by omega) (by omega) (by omega)) ?_
         exact d_closes ⟨look_row rfl 14 rfl s14, look_row rfl 15 rfl s15, look_row rfl 19 rfl s19, trivial⟩ 20 rfl rfl rfl hS (AgreeR.refl _) (t_sat (fun _ h => h) (hK () trivial))
        · -- 21
         rintro _ S hF hS D hp K hK
         try dsimp only at hF ⊢
         have s14 := hp 14 rfl
         have s20 := hp 20 rfl
         refine d_need (small := [(72, (.bool false)), (78, (.pointer (some (ad bs8 ((((rchN NN EE us ((x : Nat) : Int) n1).getD i 0).toNat) * 3)))))]) ⟨look_row rfl 14 rfl s14, look_row rfl 20 rfl s20, trivial⟩ ?_
         refine t_guard rfl rfl ?_
         refine tp rfl (lv_fieldAddr_ad (o' := (((rchN NN EE us ((x : Nat) : Int) n1).getD i 0).toNat) * 3 + 2) Tryd.underlying47 rfl Tryd.sizeOf3 rfl rfl) ?_
         exact d_closes ⟨look_row rfl 14 rfl s14, look_row rfl 20 rfl s20, trivial⟩ 21 rfl rfl rfl hS (AgreeR.refl _) (t_sat (fun _ h => h) (hK () trivial))
        · -- 22
         rintro _ S hF hS D hp K hK
         try dsimp only at hF ⊢
         have s14 := hp 14 rfl
         have s21 := hp 21 rfl
         refine d_need (small := [(72, (.bool false)), (79, (.pointer (some (ad bs8 ((((rchN NN EE us ((x : Nat) : Int) n1).getD i 0).toNat) * 3 + 2)))))]) ⟨look_row rfl 14 rfl s14, look_row rfl 21 rfl s21, trivial⟩ ?_
         refine t_guard rfl rfl ?_
         refine tp rfl (lv_load Tryd.isAgg3 rfl (gives_sl (.tail _ (.tail _ (.tail _ (.head _)))) ((recs_get (k := (((rchN NN EE us ((x : Nat) : Int) n1).getD i 0).toNat)) (j := 2) triF_len (d := R3.d) (by omega) (Nat.le_of_ble_eq_true rfl)).trans rfl))) ?_
         exact d_closes ⟨look_row rfl 14 rfl s14, look_row rfl 21 rfl s21, trivial⟩ 22 rfl rfl rfl hS (AgreeR.refl _) (t_sat (fun _ h => h) (hK () trivial))
        · -- 23
         rintro _ S hF hS D hp K hK
         try dsimp only at hF ⊢
         have s14 := hp 14 rfl
         refine d_need (small := [(13, (.slice bs12 NN cp13)), (72, (.bool false))]) ⟨look_b rfl rfl, look_row rfl 14 rfl s14, trivial⟩ ?_
         refine t_guard rfl rfl ?_
         refine tp rfl (lv_move rfl) ?_
         exact d_closes ⟨look_b rfl rfl, look_row rfl 14 rfl s14, trivial⟩ 23 rfl rfl rfl hS (AgreeR.refl _) (t_sat (fun _ h => h) (hK () trivial))
        · -- 24
         rintro _ S hF hS D hp K hK
         try dsimp only at hF ⊢
         have s14 := hp 14 rfl
         refine d_need (small := [(14, (.int .i64 ((x : Nat) : Int))), (72, (.bool false))]) ⟨look_b rfl rfl, look_row rfl 14 rfl s14, trivial⟩ ?_
         refine t_guard rfl rfl ?_
         refine tp rfl (lv_move rfl) ?_
         exact d_closes ⟨look_b rfl rfl, look_row rfl 14 rfl s14, trivial⟩ 24 rfl rfl rfl hS (AgreeR.refl _) (t_sat (fun _ h => h) (hK () trivial))
        · -- 25
         rintro _ S hF hS D hp K hK
         try dsimp only at hF ⊢
         have s14 := hp 14 rfl
         have s23 := hp 23 rfl
         have s24 := hp 24 rfl
         refine d_need (small := [(72, (.bool false)), (81, (.slice bs12 NN cp13)), (82, (.int .i64 ((x : Nat) : Int)))]) ⟨look_row rfl 14 rfl s14, look_row rfl 23 rfl s23, look_row rfl 24 rfl s24, trivial⟩ ?_
         refine t_guard rfl rfl ?_
         refine tp rfl (lv_indexAddr (k' := x) Tryd.underlying38 Tryd.sizeOf3 rfl rfl hok14 (by omega) (by omega) (by omega)) ?_
         exact d_closes ⟨look_row rfl 14 rfl s14, look_row rfl 23 rfl s23, look_row rfl 24 rfl s24, trivial⟩ 25 rfl rfl rfl hS (AgreeR.refl _) (t_sat (fun _ h => h) (hK () trivial))
        · -- 26
         rintro _ S hF hS D hp K hK
         try dsimp only at hF ⊢
         have s14 := hp 14 rfl
         have s25 := hp 25 rfl
         refine d_need (small := [(72, (.bool false)), (83, (.pointer (some (ad bs12 x))))]) ⟨look_row rfl 14 rfl s14, look_row rfl 25 rfl s25, trivial⟩ ?_
         refine t_guard rfl rfl ?_
         refine tp rfl (lv_load Tryd.isAgg3 rfl (gives_sl (.tail _ (.tail _ (.head _))) (ints_get (by omega)))) ?_
         exact d_closes ⟨look_row rfl 14 rfl s14, look_row rfl 25 rfl s25, trivial⟩ 26 rfl rfl rfl hS (AgreeR.refl _) (t_sat (fun _ h => h) (hK () trivial))
        · -- 27
         rintro _ S hF hS D hp K hK
         try dsimp only at hF ⊢
         have s14 := hp 14 rfl
         have s22 := hp 22 rfl
         have s26 := hp 26 rfl
         refine d_need (small := [(72, (.bool false)), (80, (.int .i64 ((us.getD (((rchN NN EE us ((x : Nat) : Int) n1).getD i 0).toNat) R3.d).z))), (84, (.int .i64 ((ofL NN EE us).getD x 0)))]) ⟨look_row rfl 14 rfl s14, look_row rfl 22 rfl s22, look_row rfl 26 rfl s26, trivial⟩ ?_
         refine t_guard rfl rfl ?_
         refine tp rfl (lv_gtr rfl rfl (decide_eq_false (by rw [hkn]; omega))) ?_
         exact d_closes ⟨look_row rfl 14 rfl s14, look_row rfl 22 rfl s22, look_row rfl 26 rfl s26, trivial⟩ 27 rfl rfl rfl hS (AgreeR.refl _) (t_sat (fun _ h => h) (hK () trivial))
        · -- 28
         rintro _ S hF hS D hp K hK
         try dsimp only at hF ⊢
         have s14 := hp 14 rfl
         have s27 := hp 27 rfl
         refine d_need (small := [(72, (.bool false)), (85, (.bool false))]) ⟨look_row rfl 14 rfl s14, look_row rfl 27 rfl s27, trivial⟩ ?_
         refine tp rfl (lv_pick_f rfl rfl) ?_
         exact d_closes ⟨look_row rfl 14 rfl s14, look_row rfl 27 rfl s27, trivial⟩ 28 rfl rfl rfl hS (AgreeR.refl _) (t_sat (fun _ h => h) (hK () trivial))
      · -- behind
        rintro _ hF
        try dsimp only at hF ⊢
        refine t_weak (E' := [(0, (.int .i64 n)), (1, (.slice beb es.length ceb)), (2, (.slice bs8 n1 cp9)), (3, (.agg #[(.int .i64 q0), (.int .i64 q1), (.int .i64 q2)])), (4, (.agg #[(.int .i64 e0), (.int .i64 e1)])), (8, (.pointer (some ⟨b1, 0, none⟩))), (9, (.pointer (some ⟨b2, 0, none⟩))), (11, (.bool true)), (12, (.pointer (some ⟨p3, 0, none⟩))), (13, (.slice bs12 NN cp13)), (14, (.int .i64 ((x : Nat) : Int))), (15, (.slice bs17 ((rchN NN EE us ((x : Nat) : Int) n1).length) cp18)), (16, (.bool (anyN us (rchN NN EE us ((x : Nat) : Int) n1) ((ofL NN EE us).getD x 0) i))), (17, (.int .i64 ((i : Nat) : Int))), (26, (.bool false)), (40, (.bool true)), (55, (.bool true)), (86, (.bool false))]) ⟨rfl, rfl, rfl, rfl, rfl, rfl, rfl, rfl, rfl, rfl, rfl, rfl, rfl, rfl, rfl, rfl, rfl, rfl, trivial⟩ ?_
        refine q_then_n (hK23 _ _ ?_)
        refine c_false rfl ?_
        refine c_skip ?_
        refine q_then_n (hK22 _ _ ?_)
        rcases hh22 : anyN us (rchN NN EE us ((x : Nat) : Int) n1) ((ofL NN EE us).getD x 0) i with _ | _
        · -- false
         refine c_draw (γ := Unit) (n := 17) Tryd.mixed rfl rfl (fun _ S => True) (fun _ => [(0, 87, (.bool false)), (1, 88, (.bool false)), (2, 89, (.slice bs8 n1 cp9)), (3, 90, (.slice bs17 ((rchN NN EE us ((x : Nat) : Int) n1).length) cp18)), (4, 91, (.int .i64 ((i : Nat) : Int))), (5, 92, (.pointer (some (ad bs17 i)))), (6, 93, (.int .i64 ((rchN NN EE us ((x : Nat) : Int) n1).getD i 0))), (7, 94, (.pointer (some (ad bs8 ((((rchN NN EE us ((x : Nat) : Int) n1).getD i 0).toNat) * 3))))), (8, 95, (.pointer (some (ad bs8 ((((rchN NN EE us ((x : Nat) : Int) n1).getD i 0).toNat) * 3 + 2))))), (9, 96, (.int .i64 ((us.getD (((rchN NN EE us ((x : Nat) : Int) n1).getD i 0).toNat) R3.d).z))), (10, 97, (.slice bs12 NN cp13)), (11, 98, (.int .i64 ((x : Nat) : Int))), (12, 99, (.pointer (some (ad bs12 x)))), (13, 100, (.int .i64 ((ofL NN EE us).getD x 0))), (14, 101, (.bool (((us.getD (((rchN NN EE us ((x : Nat) : Int) n1).getD i 0).toNat) R3.d).z) == ((ofL NN EE us).getD x 0)))), (15, 102, (.bool (((us.getD (((rchN NN EE us ((x : Nat) : Int) n1).getD i 0).toNat) R3.d).z) == ((ofL NN EE us).getD x 0)))), (16, 16, (.bool (((us.getD (((rchN NN EE us ((x : Nat) : Int) n1).getD i 0).toNat) R3.d).z) == ((ofL NN EE us).getD x 0))))]) (fun _ S => (SlV 3 1 (.slice bs17 ((rchN NN EE us ((x : Nat) : Int) n1).length) cp18) ((rchN NN EE us ((x : Nat) : Int) n1).length) (ints .i64 (rchN NN EE us ((x : Nat) : Int) n1))) :: (GraphO p3 NN EE) :: (SlV 3 1 (.slice bs12 NN cp13) NN (ints .i64 (ofL NN EE us))) :: (SlV 47 3 (.slice bs8 n1 cp9) n1 (recs triF us)) :: (Blk b2 [(.int .i64 e0), (.int .i64 e1)] 33) :: (Blk b1 [(.int .i64 q0), (.int .i64 q1), (.int .i64 q2)] 47) :: R) (()) trivial (fun _ h => h) (fun _ _ h => h) ?_ ?_
         · -- steps
          refine ⟨?_, ?_, ?_, ?_, ?_, ?_, ?_, ?_, ?_, ?_, ?_, ?_, ?_, ?_, ?_, ?_, ?_, trivial⟩
          · -- 0
           rintro _ S hF hS D hp K hK
           try dsimp only at hF ⊢
           refine d_need (small := [(16, (.bool false))]) ⟨look_b1 16 (nf hS D (k := 16) (i := 0) rfl) rfl rfl, trivial⟩ ?_
           refine tp rfl (lv_move rfl) ?_
           exact d_closes ⟨look_b1 16 (nf hS D (k := 16) (i := 0) rfl) rfl rfl, trivial⟩ 0 rfl rfl rfl hS (AgreeR.refl _) (t_sat (fun _ h => h) (hK () trivial))
          · -- 1
           rintro _ S hF hS D hp K hK
           try dsimp only at hF ⊢
           have s0 := hp 0 rfl
           refine d_need (small := [(87, (.bool false))]) ⟨look_row rfl 0 rfl s0, trivial⟩ ?_
           refine tp rfl (lv_move rfl) ?_
           exact d_closes ⟨look_row rfl 0 rfl s0, trivial⟩ 1 rfl rfl rfl hS (AgreeR.refl _) (t_sat (fun _ h => h) (hK () trivial))
          · -- 2
           rintro _ S hF hS D hp K hK
           try dsimp only at hF ⊢
           have s1 := hp 1 rfl
           refine d_need (small := [(2, (.slice bs8 n1 cp9)), (88, (.bool false))]) ⟨look_b rfl rfl, look_row rfl 1 rfl s1, trivial⟩ ?_
           refine t_guard rfl rfl ?_
           refine tp rfl (lv_move rfl) ?_
           exact d_closes ⟨look_b rfl rfl, look_row rfl 1 rfl s1, trivial⟩ 2 rfl rfl rfl hS (AgreeR.refl _) (t_sat (fun _ h => h) (hK () trivial))
          · -- 3
           rintro _ S hF hS D hp K hK
           try dsimp only at hF ⊢
           have s1 := hp 1 rfl
           refine d_need (small := [(15, (.slice bs17 ((rchN NN EE us ((x : Nat) : Int) n1).length) cp18)), (88, (.bool false))]) ⟨look_b rfl rfl, look_row rfl 1 rfl s1, trivial⟩ ?_
           refine t_guard rfl rfl ?_
           refine tp rfl (lv_move rfl) ?_
           exact d_closes ⟨look_b rfl rfl, look_row rfl 1 rfl s1, trivial⟩ 3 rfl rfl rfl hS (AgreeR.refl _) (t_sat (fun _ h => h) (hK () trivial))
          · -- 4
           rintro _ S hF hS D hp K hK
           try dsimp only at hF ⊢
           have s1 := hp 1 rfl
           refine d_need (small := [(17, (.int .i64 ((i : Nat) : Int))), (88, (.bool false))]) ⟨look_b rfl rfl, look_row rfl 1 rfl s1, trivial⟩ ?_
           refine t_guard rfl rfl ?_
           refine tp rfl (lv_move rfl) ?_
           exact d_closes ⟨look_b rfl rfl, look_row rfl 1 rfl s1, trivial⟩ 4 rfl rfl rfl hS (AgreeR.refl _) (t_sat (fun _ h => h) (hK () trivial))
          · -- 5
           rintro _ S hF hS D hp K hK
           try dsimp only at hF ⊢
           have s1 := hp 1 rfl
           have s3 := hp 3 rfl
           have s4 := hp 4 rfl
           refine d_need (small := [(88, (.bool false)), (90, (.slice bs17 ((rchN NN EE us ((x : Nat) : Int) n1).length) cp18)), (91, (.int .i64 ((i : Nat) : Int)))]) ⟨look_row rfl 1 rfl s1, look_row rfl 3 rfl s3, look_row rfl 4 rfl s4, trivial⟩ ?_
           refine t_guard rfl rfl ?_
           refine tp rfl (lv_indexAddr (k' := i) Tryd.underlying38 Tryd.sizeOf3 rfl rfl hok19 (by omega) (by omega) (by omega)) ?_
           exact d_closes ⟨look_row rfl 1 rfl s1, look_row rfl 3 rfl s3, look_row rfl 4 rfl s4, trivial⟩ 5 rfl rfl rfl hS (AgreeR.refl _) (t_sat (fun _ h => h) (hK () trivial))
          · -- 6
           rintro _ S hF hS D hp K hK
           try dsimp only at hF ⊢
           have s1 := hp 1 rfl
           have s5 := hp 5 rfl
           refine d_need (small := [(88, (.bool false)), (92, (.pointer (some (ad bs17 i))))]) ⟨look_row rfl 1 rfl s1, look_row rfl 5 rfl s5, trivial⟩ ?_
           refine t_guard rfl rfl ?_
           refine tp rfl (lv_load Tryd.isAgg3 rfl (gives_sl (.head _) (ints_get (by omega)))) ?_
           exact d_closes ⟨look_row rfl 1 rfl s1, look_row rfl 5 rfl s5, trivial⟩ 6 rfl rfl rfl hS (AgreeR.refl _) (t_sat (fun _ h => h) (hK () trivial))
          · -- 7
           rintro _ S hF hS D hp K hK
           try dsimp only at hF ⊢
           have s1 := hp 1 rfl
           have s2 := hp 2 rfl
           have s6 := hp 6 rfl
           refine d_need (small := [(88, (.bool false)), (89, (.slice bs8 n1 cp9)), (93, (.int .i64 ((rchN NN EE us ((x : Nat) : Int) n1).getD i 0)))]) ⟨look_row rfl 1 rfl s1, look_row rfl 2 rfl s2, look_row rfl 6 rfl s6, trivial⟩ ?_
           refine t_guard rfl rfl ?_
           refine tp rfl (lv_indexAddr (k' := (((rchN NN EE us ((x : Nat) : Int) n1).getD i 0).toNat) * 3) Tryd.underlying23 Tryd.sizeOf47 rfl rfl hok10 (by omega) (by omega) (by omega)) ?_
           exact d_closes ⟨look_row rfl 1 rfl s1, look_row rfl 2 rfl s2, look_row rfl 6 rfl s6, trivial⟩ 7 rfl rfl rfl hS (AgreeR.refl _) (t_sat (fun _ h => h) (hK () trivial))
          · -- 8
           rintro _ S hF hS D hp K hK
           try dsimp only at hF ⊢
           have s1 := hp 1 rfl
           have s7 := hp 7 rfl
           refine d_need (small := [(88, (.bool false)), (94, (.pointer (some (ad bs8 ((((rchN NN EE us ((x : Nat) : Int) n1).getD i 0).toNat) * 3)))))]) ⟨look_row rfl 1 rfl s1, look_row rfl 7 rfl s7, trivial⟩ ?_
           refine t_guard rfl rfl ?_
           refine tp rfl (lv_fieldAddr_ad (o' := (((rchN NN EE us ((x : Nat) : Int) n1).getD i 0).toNat) * 3 + 2) Tryd.underlying47 rfl Tryd.sizeOf3 rfl rfl) ?_
           exact d_closes ⟨look_row rfl 1 rfl s1, look_row rfl 7 rfl s7, trivial⟩ 8 rfl rfl rfl hS (AgreeR.refl _) (t_sat (fun _ h => h) (hK () trivial))
          · -- 9
           rintro _ S hF hS D hp K hK
           try dsimp only at hF ⊢
           have s1 := hp 1 rfl
           have s8 := hp 8 rfl
           refine d_need (small := [(88, (.bool false)), (95, (.pointer (some (ad bs8 ((((rchN NN EE us ((x : Nat) : Int) n1).getD i 0).toNat) * 3 + 2)))))]) ⟨look_row rfl 1 rfl s1, look_row rfl 8 rfl s8, trivial⟩ ?_
           refine t_guard rfl rfl ?_
           refine tp rfl (lv_load Tryd.isAgg3 rfl (gives_sl (.tail _ (.tail _ (.tail _ (.head _)))) ((recs_get (k := (((rchN NN EE us ((x : Nat) : Int) n1).getD i 0).toNat)) (j := 2) triF_len (d := R3.d) (by omega) (Nat.le_of_ble_eq_true rfl)).trans rfl))) ?_
           exact d_closes ⟨look_row rfl 1 rfl s1, look_row rfl 8 rfl s8, trivial⟩ 9 rfl rfl rfl hS (AgreeR.refl _) (t_sat (fun _ h => h) (hK () trivial))
          · -- 10
           rintro _ S hF hS D hp K hK
           try dsimp only at hF ⊢
           have s1 := hp 1 rfl
           refine d_need (small := [(13, (.slice bs12 NN cp13)), (88, (.bool false))]) ⟨look_b rfl rfl, look_row rfl 1 rfl s1, trivial⟩ ?_
           refine t_guard rfl rfl ?_
           refine tp rfl (lv_move rfl) ?_
           exact d_closes ⟨look_b rfl rfl, look_row rfl 1 rfl s1, trivial⟩ 10 rfl rfl rfl hS (AgreeR.refl _) (t_sat (fun _ h => h) (hK () trivial))
          · -- 11
           rintro _ S hF hS D hp K hK
           try dsimp only at hF ⊢
           have s1 := hp 1 rfl
           refine d_need (small := [(14, (.int .i64 ((x : Nat) : Int))), (88, (.bool false))]) ⟨look_b rfl rfl, look_row rfl 1 rfl s1, trivial⟩ ?_
           refine t_guard rfl rfl ?_
           refine tp rfl (lv_move rfl) ?_
           exact d_closes ⟨look_b rfl rfl, look_row rfl 1 rfl s1, trivial⟩ 11 rfl rfl rfl hS (AgreeR.refl _) (t_sat (fun _ h => h) (hK () trivial))
          · -- 12
           rintro _ S hF hS D hp K hK
           try dsimp only at hF ⊢
           have s1 := hp 1 rfl
           have s10 := hp 10 rfl
           have s11 := hp 11 rfl
           refine d_need (small := [(88, (.bool false)), (97, (.slice bs12 NN cp13)), (98, (.int .i64 ((x : Nat) : Int)))]) ⟨look_row rfl 1 rfl s1, look_row rfl 10 rfl s10, look_row rfl 11 rfl s11, trivial⟩ ?_
           refine t_guard rfl rfl ?_
           refine tp rfl (lv_indexAddr (k' := x) Tryd.underlying38 Tryd.sizeOf3 rfl rfl hok14 (by omega) (by omega) (by omega)) ?_
           exact d_closes ⟨look_row rfl 1 rfl s1, look_row rfl 10 rfl s10, look_row rfl 11 rfl s11, trivial⟩ 12 rfl rfl rfl hS (AgreeR.refl _) (t_sat (fun _ h => h) (hK () trivial))
          · -- 13
           rintro _ S hF hS D hp K hK
           try dsimp only at hF ⊢
           have s1 := hp 1 rfl
           have s12 := hp 12 rfl
           refine d_need (small := [(88, (.bool false)), (99, (.pointer (some (ad bs12 x))))]) ⟨look_row rfl 1 rfl s1, look_row rfl 12 rfl s12, trivial⟩ ?_
           refine t_guard rfl rfl ?_
           refine tp rfl (lv_load Tryd.isAgg3 rfl (gives_sl (.tail _ (.tail _ (.head _))) (ints_get (by omega)))) ?_
           exact d_closes ⟨look_row rfl 1 rfl s1, look_row rfl 12 rfl s12, trivial⟩ 13 rfl rfl rfl hS (AgreeR.refl _) (t_sat (fun _ h => h) (hK () trivial))
          · -- 14
           rintro _ S hF hS D hp K hK
           try dsimp only at hF ⊢
           have s1 := hp 1 rfl
           have s9 := hp 9 rfl
           have s13 := hp 13 rfl
           refine d_need (small := [(88, (.bool false)), (96, (.int .i64 ((us.getD (((rchN NN EE us ((x : Nat) : Int) n1).getD i 0).toNat) R3.d).z))), (100, (.int .i64 ((ofL NN EE us).getD x 0)))]) ⟨look_row rfl 1 rfl s1, look_row rfl 9 rfl s9, look_row rfl 13 rfl s13, trivial⟩ ?_
           refine t_guard rfl rfl ?_
           refine tp rfl (lv_eql rfl rfl rfl) ?_
           exact d_closes ⟨look_row rfl 1 rfl s1, look_row rfl 9 rfl s9, look_row rfl 13 rfl s13, trivial⟩ 14 rfl rfl rfl hS (AgreeR.refl _) (t_sat (fun _ h => h) (hK () trivial))
          · -- 15
           rintro _ S hF hS D hp K hK
           try dsimp only at hF ⊢
           have s1 := hp 1 rfl
           have s14 := hp 14 rfl
           refine d_need (small := [(88, (.bool false)), (101, (.bool (((us.getD (((rchN NN EE us ((x : Nat) : Int) n1).getD i 0).toNat) R3.d).z) == ((ofL NN EE us).getD x 0))))]) ⟨look_row rfl 1 rfl s1, look_row rfl 14 rfl s14, trivial⟩ ?_
           refine tp rfl (lv_pick_f rfl rfl) ?_
           exact d_closes ⟨look_row rfl 1 rfl s1, look_row rfl 14 rfl s14, trivial⟩ 15 rfl rfl rfl hS (AgreeR.refl _) (t_sat (fun _ h => h) (hK () trivial))
          · -- 16
           rintro _ S hF hS D hp K hK
           try dsimp only at hF ⊢
           have s15 := hp 15 rfl
           refine d_need (small := [(102, (.bool (((us.getD (((rchN NN EE us ((x : Nat) : Int) n1).getD i 0).toNat) R3.d).z) == ((ofL NN EE us).getD x 0))))]) ⟨look_row rfl 15 rfl s15, trivial⟩ ?_
           refine tp rfl (lv_assign rfl) ?_
           exact d_closes ⟨look_row rfl 15 rfl s15, trivial⟩ 16 rfl rfl rfl hS (AgreeR.refl _) (t_sat (fun _ h => h) (hK () trivial))
         · -- behind
          rintro _ hF
          try dsimp only at hF ⊢
          refine t_weak (E' := [(0, (.int .i64 n)), (1, (.slice beb es.length ceb)), (2, (.slice bs8 n1 cp9)), (3, (.agg #[(.int .i64 q0), (.int .i64 q1), (.int .i64 q2)])), (4, (.agg #[(.int .i64 e0), (.int .i64 e1)])), (8, (.pointer (some ⟨b1, 0, none⟩))), (9, (.pointer (some ⟨b2, 0, none⟩))), (11, (.bool true)), (12, (.pointer (some ⟨p3, 0, none⟩))), (13, (.slice bs12 NN cp13)), (14, (.int .i64 ((x : Nat) : Int))), (15, (.slice bs17 ((rchN NN EE us ((x : Nat) : Int) n1).length) cp18)), (16, (.bool (((us.getD (((rchN NN EE us ((x : Nat) : Int) n1).getD i 0).toNat) R3.d).z) == ((ofL NN EE us).getD x 0)))), (17, (.int .i64 ((i : Nat) : Int))), (26, (.bool false)), (40, (.bool true)), (55, (.bool true)), (86, (.bool false))]) ⟨rfl, rfl, rfl, rfl, rfl, rfl, rfl, rfl, rfl, rfl, rfl, rfl, rfl, rfl, rfl, rfl, rfl, rfl, trivial⟩ ?_
          refine q_in_n ?_
          refine q_then_n (hK21 _ _ ?_)
          refine c_region ?_
          refine tp rfl (lv_move rfl) ?_
          refine tp rfl (lv_add (c := ((i + 1 : Nat) : Int)) rfl rfl (wr_i64_succ (by omega))) ?_
          refine tp rfl (lv_assign rfl) ?_
          refine t_done ?_
          refine q_then_n ?_
          exact t_weak (by exact ⟨rfl, rfl, rfl, rfl, rfl, rfl, rfl, rfl, rfl, rfl, rfl, rfl, (by rw [anyN_succ (by omega), hh22]; rfl), rfl, rfl, rfl, trivial⟩) ((hK18 (i + 1) (by omega) (by omega)))
        · -- true
         refine c_draw (γ := Unit) (n := 17) Tryd.mixed rfl rfl (fun _ S => True) (fun _ => [(0, 87, (.bool true)), (1, 88, (.bool true)), (2, 89, undef), (3, 90, undef), (4, 91, undef), (5, 92, undef), (6, 93, undef), (7, 94, undef), (8, 95, undef), (9, 96, undef), (10, 97, undef), (11, 98, undef), (12, 99, undef), (13, 100, undef), (14, 101, undef), (15, 102, (.bool true)), (16, 16, (.bool true))]) (fun _ S => (SlV 3 1 (.slice bs17 ((rchN NN EE us ((x : Nat) : Int) n1).length) cp18) ((rchN NN EE us ((x : Nat) : Int) n1).length) (ints .i64 (rchN NN EE us ((x : Nat) : Int) n1))) :: (GraphO p3 NN EE) :: (SlV 3 1 (.slice bs12 NN cp13) NN (ints .i64 (ofL NN EE us))) :: (SlV 47 3 (.slice bs8 n1 cp9) n1 (recs triF us)) :: (Blk b2 [(.int .i64 e0), (.int .i64 e1)] 33) :: (Blk b1 [(.int .i64 q0), (.int .i64 q1), (.int .i64 q2)] 47) :: R) (()) trivial (fun _ h => h) (fun _ _ h => h) ?_ ?_
         · -- steps
          refine ⟨?_, ?_, ?_, ?_, ?_, ?_, ?_, ?_, ?_, ?_, ?_, ?_, ?_, ?_, ?_, ?_, ?_, trivial⟩
          · -- 0
           rintro _ S hF hS D hp K hK
           try dsimp only at hF ⊢
           refine d_need (small := [(16, (.bool true))]) ⟨look_b1 16 (nf hS D (k := 16) (i := 0) rfl) rfl rfl, trivial⟩ ?_
           refine tp rfl (lv_move rfl) ?_
           exact d_closes ⟨look_b1 16 (nf hS D (k := 16) (i := 0) rfl) rfl rfl, trivial⟩ 0 rfl rfl rfl hS (AgreeR.refl _) (t_sat (fun _ h => h) (hK () trivial))
          · -- 1
           rintro _ S hF hS D hp K hK
           try dsimp only at hF ⊢
           have s0 := hp 0 rfl
           refine d_need (small := [(87, (.bool true))]) ⟨look_row rfl 0 rfl s0, trivial⟩ ?_
           refine tp rfl (lv_move rfl) ?_
           exact d_closes ⟨look_row rfl 0 rfl s0, trivial⟩ 1 rfl rfl rfl hS (AgreeR.refl _) (t_sat (fun _ h => h) (hK () trivial))
          · -- 2
           rintro _ S hF hS D hp K hK
           try dsimp only at hF ⊢
           have s1 := hp 1 rfl
           refine d_need (small := [(2, (.slice bs8 n1 cp9)), (88, (.bool true))]) ⟨look_b rfl rfl, look_row rfl 1 rfl s1, trivial⟩ ?_
           refine t_skip rfl rfl rfl ?_
           exact d_closes ⟨look_b rfl rfl, look_row rfl 1 rfl s1, trivial⟩ 2 rfl rfl rfl hS (AgreeR.refl _) (t_sat (fun _ h => h) (hK () trivial))
          · -- 3
           rintro _ S hF hS D hp K hK
           try dsimp only at hF ⊢
           have s1 := hp 1 rfl
           refine d_need (small := [(15, (.slice bs17 ((rchN NN EE us ((x : Nat) : Int) n1).length) cp18)), (88, (.bool true))]) ⟨look_b rfl rfl, look_row rfl 1 rfl s1, trivial⟩ ?_
           refine t_skip rfl rfl rfl ?_
           exact d_closes ⟨look_b rfl rfl, look_row rfl 1 rfl s1, trivial⟩ 3 rfl rfl rfl hS (AgreeR.refl _) (t_sat (fun _ h => h) (hK () trivial))
          · -- 4
           rintro _ S hF hS D hp K hK
           try dsimp only at hF ⊢
           have s1 := hp 1 rfl
           refine d_need (small := [(17, (.int .i64 ((i : Nat) : Int))), (88, (.bool true))]) ⟨look_b rfl rfl, look_row rfl 1 rfl s1, trivial⟩ ?_
           refine t_skip rfl rfl rfl ?_
           exact d_closes ⟨look_b rfl rfl, look_row rfl 1 rfl s1, trivial⟩ 4 rfl rfl rfl hS (AgreeR.refl _) (t_sat (fun _ h => h) (hK () trivial))
          · -- 5
           rintro _ S hF hS D hp K hK
           try dsimp only at hF ⊢
           have s1 := hp 1 rfl
           have s3 := hp 3 rfl
           have s4 := hp 4 rfl
           refine d_need (small := [(88, (.bool true)), (90, undef), (91, undef)]) ⟨look_row rfl 1 rfl s1, look_row rfl 3 rfl s3, look_row rfl 4 rfl s4, trivial⟩ ?_
           refine t_skip rfl rfl rfl ?_
           exact d_closes ⟨look_row rfl 1 rfl s1, look_row rfl 3 rfl s3, look_row rfl 4 rfl s4, trivial⟩ 5 rfl rfl rfl hS (AgreeR.refl _) (t_sat (fun _ h => h) (hK () trivial))
          · -- 6
           rintro _ S hF hS D hp K hK
           try dsimp only at hF ⊢
           have s1 := hp 1 rfl
           have s5 := hp 5 rfl
           refine d_need (small := [(88, (.bool true)), (92, undef)]) ⟨look_row rfl 1 rfl s1, look_row rfl 5 rfl s5, trivial⟩ ?_
           refine t_skip rfl rfl rfl ?_
           exact d_closes ⟨look_row rfl 1 rfl s1, look_row rfl 5 rfl s5, trivial⟩ 6 rfl rfl rfl hS (AgreeR.refl _) (t_sat (fun _ h => h) (hK () trivial))
          · -- 7
           rintro _ S hF hS D hp K hK
           try dsimp only at hF ⊢
           have s1 := hp 1 rfl
           have s2 := hp 2 rfl
           have s6 := hp 6 rfl
           refine d_need (small := [(88, (.bool true)), (89, undef), (93, undef)]) ⟨look_row rfl 1 rfl s1, look_row rfl 2 rfl s2, look_row rfl 6 rfl s6, trivial⟩ ?_
           refine t_skip rfl rfl rfl ?_
           exact d_closes ⟨look_row rfl 1 rfl s1, look_row rfl 2 rfl s2, look_row rfl 6 rfl s6, trivial⟩ 7 rfl rfl rfl hS (AgreeR.refl _) (t_sat (fun _ h => h) (hK () trivial))
          · -- 8
           rintro _ S hF hS D hp K hK
           try dsimp only at hF ⊢
           have s1 := hp 1 rfl
           have s7 := hp 7 rfl
           refine d_need (small := [(88, (.bool true)), (94, undef)]) ⟨look_row rfl 1 rfl s1, look_row rfl 7 rfl s7, trivial⟩ ?_
           refine t_skip rfl rfl rfl ?_
           exact d_closes ⟨look_row rfl 1 rfl s1, look_row rfl 7 rfl s7, trivial⟩ 8 rfl rfl rfl hS (AgreeR.refl _) (t_sat (fun _ h => h) (hK () trivial))
          · -- 9
           rintro _ S hF hS D hp K hK
           try dsimp only at hF ⊢
           have s1 := hp 1 rfl
           have s8 := hp 8 rfl
           refine d_need (small := [(88, (.bool true)), (95, undef)]) ⟨look_row rfl 1 rfl s1, look_row rfl 8 rfl s8, trivial⟩ ?_
           refine t_skip rfl rfl rfl ?_
           exact d_closes ⟨look_row rfl 1 rfl s1, look_row rfl 8 rfl s8, trivial⟩ 9 rfl rfl rfl hS (AgreeR.refl _) (t_sat (fun _ h => h) (hK () trivial))
          · -- 10
           rintro _ S hF hS D hp K hK
           try dsimp only at hF ⊢
           have s1 := hp 1 rfl
           refine d_need (small := [(13, (.slice bs12 NN cp13)), (88, (.bool true))]) ⟨look_b rfl rfl, look_row rfl 1 rfl s1, trivial⟩ ?_
           refine t_skip rfl rfl rfl ?_
           exact d_closes ⟨look_b rfl rfl, look_row rfl 1 rfl s1, trivial⟩ 10 rfl rfl rfl hS (AgreeR.refl _) (t_sat (fun _ h => h) (hK () trivial))
          · -- 11
           rintro _ S hF hS D hp K hK
           try dsimp only at hF ⊢
           have s1 := hp 1 rfl
           refine d_need (small := [(14, (.int .i64 ((x : Nat) : Int))), (88, (.bool true))]) ⟨look_b rfl rfl, look_row rfl 1 rfl s1, trivial⟩ ?_
           refine t_skip rfl rfl rfl ?_
           exact d_closes ⟨look_b rfl rfl, look_row rfl 1 rfl s1, trivial⟩ 11 rfl rfl rfl hS (AgreeR.refl _) (t_sat (fun _ h => h) (hK () trivial))
          · -- 12
           rintro _ S hF hS D hp K hK
           try dsimp only at hF ⊢
           have s1 := hp 1 rfl
           have s10 := hp 10 rfl
           have s11 := hp 11 rfl
           refine d_need (small := [(88, (.bool true)), (97, undef), (98, undef)]) ⟨look_row rfl 1 rfl s1, look_row rfl 10 rfl s10, look_row rfl 11 rfl s11, trivial⟩ ?_
           refine t_skip rfl rfl rfl ?_
           exact d_closes ⟨look_row rfl 1 rfl s1, look_row rfl 10 rfl s10, look_row rfl 11 rfl s11, trivial⟩ 12 rfl rfl rfl hS (AgreeR.refl _) (t_sat (fun _ h => h) (hK () trivial))
          · -- 13
           rintro _ S hF hS D hp K hK
           try dsimp only at hF ⊢
           have s1 := hp 1 rfl
           have s12 := hp 12 rfl
           refine d_need (small := [(88, (.bool true)), (99, undef)]) ⟨look_row rfl 1 rfl s1, look_row rfl 12 rfl s12, trivial⟩ ?_
           refine t_skip rfl rfl rfl ?_
           exact d_closes ⟨look_row rfl 1 rfl s1, look_row rfl 12 rfl s12, trivial⟩ 13 rfl rfl rfl hS (AgreeR.refl _) (t_sat (fun _ h => h) (hK () trivial))
          · -- 14
           rintro _ S hF hS D hp K hK
           try dsimp only at hF ⊢
           have s1 := hp 1 rfl
           have s9 := hp 9 rfl
           have s13 := hp 13 rfl
           refine d_need (small := [(88, (.bool true)), (96, undef), (100, undef)]) ⟨look_row rfl 1 rfl s1, look_row rfl 9 rfl s9, look_row rfl 13 rfl s13, trivial⟩ ?_
           refine t_skip rfl rfl rfl ?_
           exact d_closes ⟨look_row rfl 1 rfl s1, look_row rfl 9 rfl s9, look_row rfl 13 rfl s13, trivial⟩ 14 rfl rfl rfl hS (AgreeR.refl _) (t_sat (fun _ h => h) (hK () trivial))
          · -- 15
           rintro _ S hF hS D hp K hK
           try dsimp only at hF ⊢
           have s1 := hp 1 rfl
           have s14 := hp 14 rfl
           refine d_need (small := [(88, (.bool true)), (101, undef)]) ⟨look_row rfl 1 rfl s1, look_row rfl 14 rfl s14, trivial⟩ ?_
           refine tp rfl (lv_pick_t rfl rfl) ?_
           exact d_closes ⟨look_row rfl 1 rfl s1, look_row rfl 14 rfl s14, trivial⟩ 15 rfl rfl rfl hS (AgreeR.refl _) (t_sat (fun _ h => h) (hK () trivial))
          · -- 16
           rintro _ S hF hS D hp K hK
           try dsimp only at hF ⊢
           have s15 := hp 15 rfl
           refine d_need (small := [(102, (.bool true))]) ⟨look_row rfl 15 rfl s15, trivial⟩ ?_
           refine tp rfl (lv_assign rfl) ?_
           exact d_closes ⟨look_row rfl 15 rfl s15, trivial⟩ 16 rfl rfl rfl hS (AgreeR.refl _) (t_sat (fun _ h => h) (hK () trivial))
         · -- behind
          rintro _ hF
          try dsimp only at hF ⊢
          refine t_weak (E' := [(0, (.int .i64 n)), (1, (.slice beb es.length ceb)), (2, (.slice bs8 n1 cp9)), (3, (.agg #[(.int .i64 q0), (.int .i64 q1), (.int .i64 q2)])), (4, (.agg #[(.int .i64 e0), (.int .i64 e1)])), (8, (.pointer (some ⟨b1, 0, none⟩))), (9, (.pointer (some ⟨b2, 0, none⟩))), (11, (.bool true)), (12, (.pointer (some ⟨p3, 0, none⟩))), (13, (.slice bs12 NN cp13)), (14, (.int .i64 ((x : Nat) : Int))), (15, (.slice bs17 ((rchN NN EE us ((x : Nat) : Int) n1).length) cp18)), (16, (.bool true)), (17, (.int .i64 ((i : Nat) : Int))), (26, (.bool false)), (40, (.bool true)), (55, (.bool true)), (86, (.bool false))]) ⟨rfl, rfl, rfl, rfl, rfl, rfl, rfl, rfl, rfl, rfl, rfl, rfl, rfl, rfl, rfl, rfl, rfl, rfl, trivial⟩ ?_
          refine q_in_n ?_
          refine q_then_n (hK21 _ _ ?_)
          refine c_region ?_
          refine tp rfl (lv_move rfl) ?_
          refine tp rfl (lv_add (c := ((i + 1 : Nat) : Int)) rfl rfl (wr_i64_succ (by omega))) ?_
          refine tp rfl (lv_assign rfl) ?_
          refine t_done ?_
          refine q_then_n ?_
          exact t_weak (by exact ⟨rfl, rfl, rfl, rfl, rfl, rfl, rfl, rfl, rfl, rfl, rfl, rfl, (by rw [anyN_succ (by omega), hh22]; rfl), rfl, rfl, rfl, trivial⟩) ((hK18 (i + 1) (by omega) (by omega)))
    · -- no
      refine tp rfl (lv_lss rfl rfl (decide_eq_false h21)) ?_
      refine t_done ?_
      refine q_then_n (hK20 _ _ ?_)
      refine c_false rfl ?_
      refine c_exit ?_
      refine q_then_x ?_
      refine q_then_x ?_
      refine q_in_x ?_
      refine q_then_n (hK16 _ _ ?_)
      refine c_seq (fun K21 hK21 => ?_)
      refine c_region ?_
      rw [show anyN us (rchN NN EE us ((x : Nat) : Int) n1) ((ofL NN EE us).getD x 0) i = true from any_all (by omega) usn (by omega)]
      refine tp rfl (lv_move rfl) ?_
      refine tp rfl (lv_not (c := false) rfl rfl) ?_
      refine t_done ?_
      refine q_then_n (hK21 _ _ ?_)
      refine c_false rfl ?_
      refine c_skip ?_
      refine q_in_n ?_
      refine q_then_n (hK13 _ _ ?_)
      refine c_region ?_
      refine tp rfl (lv_move rfl) ?_
      refine tp rfl (lv_add (c := ((x + 1 : Nat) : Int)) rfl rfl (wr_i64_succ (by omega))) ?_
      refine tp rfl (lv_assign rfl) ?_
      refine t_done ?_
      refine q_then_n ?_
      refine t_drop ?_
      refine t_f1 ?_
      exact t_weak (by exact ⟨rfl, rfl, rfl, rfl, rfl, rfl, rfl, rfl, rfl, rfl, rfl, rfl, trivial⟩) ((hK10 (x + 1) (by omega) (by omega)))
  · -- no
    refine tp rfl (lv_lss rfl rfl (decide_eq_false h16)) ?_
    refine t_done ?_
    refine q_then_n (hK12 _ _ ?_)
    refine c_false rfl ?_
    refine c_exit ?_
    refine q_then_x ?_
    refine q_then_x ?_
    refine q_in_x ?_
    refine q_then_n (hK8 _ _ ?_)
    refine c_seq (fun K13 hK13 => ?_)
    refine c_region ?_
    refine tp rfl (lv_move rfl) ?_
    refine tp rfl (lv_move rfl) ?_
    refine tp rfl (lv_loadAgg (cs := [(.int .i64 q0), (.int .i64 q1), (.int .i64 q2)]) Tryd.isAgg47 Tryd.sizeOf47 rfl (gives_all3 (gives_blk (.tail _ (.tail _ (.tail _ (.tail _ (.head _))))) rfl) (gives_blk (.tail _ (.tail _ (.tail _ (.tail _ (.head _))))) rfl) (gives_blk (.tail _ (.tail _ (.tail _ (.tail _ (.head _))))) rfl))) ?_
    refine tm rfl (mv_buildSlice (cs := [(.int .i64 q0), (.int .i64 q1), (.int .i64 q2)]) Tryd.underlying23 Tryd.sizeOf47 Tryd.zeroValue47 (by decide) rfl rfl rfl rfl) ?_
    rintro _ _ ⟨bs23, cp24, hok25, hle26, rfl, rfl⟩
    refine t_f3 ?_
    refine tm rfl (mv_appendKeep (i := Tryd.t47) Tryd.underlying23 Tryd.type47 rfl rfl rfl (by decide) rfl rfl hok25 (by omega) (by first | rfl | (simp; done)) (rd_sl (.tail _ (.head _))) (by simp [Value.oneCell']) (by rw [show Tryd.t47.bytes = 24 from rfl]; omega)) ?_
    rintro _ _ (⟨hok29, hle30, rfl, rfl⟩ | ⟨bs27, cp28, hok29, hle30, rfl, rfl⟩)
    · -- shared
      rw [show recs triF us ++ [(.int .i64 q0), (.int .i64 q1), (.int .i64 q2)] = recs triF (us ++ [(⟨q0, q1, q2⟩ : R3)]) from recs_snoc triF us (⟨q0, q1, q2⟩ : R3)]
      refine t_f3 ?_
      refine tc rfl (en_fn Tryd.call15 rfl) (of_ok (us ++ [(⟨q0, q1, q2⟩ : R3)]) (by first | rfl | omega | (simp; done) | (simp; omega)) (rd_sl (.head _)) (fun hz => hok29 (by first | exact hz | omega)) (by first | rfl | omega | (simp; done) | (simp; omega)) (Tab.cons (Tab.cons (Tab.cons (Tab.cons (Tab.cons hT)))))) ?_
      rintro _ _ ⟨bs31, cp32, hok33, hle34, rfl, rfl⟩
      refine tp rfl (lv_assign rfl) ?_
      refine t_done ?_
      refine q_then_n (hK13 _ _ ?_)
      refine c_seq (fun K14 hK14 => ?_)
      refine c_region ?_
      refine tp rfl (lv_move rfl) ?_
      refine tp rfl (lv_fieldAddr (o' := 0) Tryd.underlying33 rfl Tryd.sizeOf3 rfl rfl) ?_
      refine tp rfl (lv_load Tryd.isAgg3 rfl (gives_blk (.tail _ (.tail _ (.tail _ (.tail _ (.tail _ (.head _)))))) rfl)) ?_
      refine tp rfl (lv_fieldAddr (o' := 1) Tryd.underlying33 rfl Tryd.sizeOf3 rfl rfl) ?_
      refine tp rfl (lv_load Tryd.isAgg3 rfl (gives_blk (.tail _ (.tail _ (.tail _ (.tail _ (.tail _ (.head _)))))) rfl)) ?_
      refine t_f1 ?_
      refine tc rfl (en_fn Tryd.call19 rfl) (add_ok (N := NN) (es := EE) e0 e1) ?_
      rintro _ _ ⟨rfl, rfl⟩
      refine t_done ?_
      refine q_then_n (hK14 _ _ ?_)
      refine c_seq (fun K15 hK15 => ?_)
      refine c_region ?_
      refine tp rfl (lv_move rfl) ?_
      refine tp rfl (lv_move rfl) ?_
      refine tc rfl (en_fn Tryd.call15 rfl) (of_ok ((us ++ [(⟨q0, q1, q2⟩ : R3)]).take n1) (by rw [List.length_take, List.length_append]; omega) (rd_tk_recs triF_len n1 (rd_sl (.tail _ (.head _)))) (fun hz => hok29 (by first | exact hz | omega)) (by first | rfl | omega | (simp; done) | (simp; omega)) (Tab.cons (Tab.cons (Tab.cons (Tab.cons (Tab.cons (Tab.cons hT))))))) ?_
      rintro _ _ ⟨bs35, cp36, hok37, hle38, rfl, rfl⟩
      rw [show (us ++ [(⟨q0, q1, q2⟩ : R3)]).take n1 = us from (by rw [List.take_append_of_le_length (by omega), List.take_of_length_le (by omega)])]
      refine tp rfl (lv_assign rfl) ?_
      refine t_done ?_
      refine q_then_n (hK15 _ _ ?_)
      refine c_seq (fun K16 hK16 => ?_)
      refine c_seq (fun K17 hK17 => ?_)
      refine c_region ?_
      refine tp rfl (lv_move rfl) ?_
      refine tp rfl (lv_len Tryd.underlying38 rfl rfl) ?_
      refine tp rfl (lv_move rfl) ?_
      refine tp rfl (lv_len Tryd.underlying38 rfl rfl) ?_
      refine tp rfl (lv_neq rfl rfl (bne_eq_false_iff_eq.2 rfl)) ?_
      refine tp rfl (lv_move rfl) ?_
      refine t_guard rfl rfl ?_
      refine tp rfl (lv_move rfl) ?_
      refine t_guard rfl rfl ?_
      refine tp rfl (lv_len Tryd.underlying38 rfl rfl) ?_
      refine t_guard rfl rfl ?_
      refine tp rfl (lv_move rfl) ?_
      refine t_guard rfl rfl ?_
      refine tp rfl (lv_len Tryd.underlying38 rfl rfl) ?_
      refine t_guard rfl rfl ?_
      refine tp rfl (lv_neq rfl rfl (bne_eq_false_iff_eq.2 rfl)) ?_
      refine tp rfl (lv_pick_f rfl rfl) ?_
      refine t_done ?_
      refine q_then_n (hK17 _ _ ?_)
      refine c_false rfl ?_
      refine c_skip ?_
      refine q_then_n (hK16 _ _ ?_)
      refine c_seq (fun K18 hK18 => ?_)
      refine c_seq (fun K19 hK19 => ?_)
      refine c_region ?_
      refine tp rfl (lv_assign rfl) ?_
      refine t_done ?_
      refine q_then_n (hK19 _ _ ?_)
      refine c_block ?_
      refine t_f4 ?_
      refine t_drop ?_
      refine c_loop (γ := (Nat)) (fun (y : Nat) => y ≤ NN) (fun (y : Nat) => [(0, (.int .i64 n)), (1, (.slice beb es.length ceb)), (2, (.slice bs8 n1 cp9)), (3, (.agg #[(.int .i64 q0), (.int .i64 q1), (.int .i64 q2)])), (4, (.agg #[(.int .i64 e0), (.int .i64 e1)])), (8, (.pointer (some ⟨b1, 0, none⟩))), (9, (.pointer (some ⟨b2, 0, none⟩))), (11, (.bool true)), (12, (.pointer (some ⟨p3, 0, none⟩))), (13, (.slice bs12 NN cp13)), (14, (.int .i64 ((x : Nat) : Int))), (18, (.slice bs31 NN cp32)), (19, (.slice bs35 NN cp36)), (20, (.int .i64 ((y : Nat) : Int))), (26, (.bool false)), (40, (.bool false)), (131, (.bool false))]) (fun (y : Nat) => (SlV 3 1 (.slice bs35 NN cp36) NN (ints .i64 (ofL NN (addE NN EE e0 e1) (us)))) :: (GraphO p3 NN (addE NN EE e0 e1)) :: (SlV 3 1 (.slice bs31 NN cp32) NN (ints .i64 (ofL NN EE (us ++ [(⟨q0, q1, q2⟩ : R3)])))) :: (SlV 47 3 (.slice bs8 (n1 + 1) cp9) (n1 + 1) (recs triF (us ++ [(⟨q0, q1, q2⟩ : R3)]))) :: (SlV 3 1 (.slice bs12 NN cp13) NN (ints .i64 (ofL NN EE us))) :: (Blk b2 [(.int .i64 e0), (.int .i64 e1)] 33) :: (Blk b1 [(.int .i64 q0), (.int .i64 q1), (.int .i64 q2)] 47) :: R) (fun (y : Nat) => NN - y) (0) (by omega) ⟨rfl, rfl, rfl, rfl, rfl, rfl, rfl, rfl, rfl, rfl, rfl, rfl, rfl, rfl, rfl, rfl, rfl, trivial⟩ (fun _ h => h) ?_
      rintro y K20 hF hK20
      try dsimp only at hF hK20 ⊢
      have hl0 := ofL_len NN EE us
      have hl1 := ofL_len NN EE (us ++ [(⟨q0, q1, q2⟩ : R3)])
      have hl2 := ofL_len NN (addE NN EE e0 e1) us
      refine c_seq (fun K21 hK21 => ?_)
      refine c_seq (fun K22 hK22 => ?_)
      refine c_region ?_
      refine tp rfl (lv_move rfl) ?_
      refine tp rfl (lv_move rfl) ?_
      refine tp rfl (lv_len Tryd.underlying38 rfl rfl) ?_
      by_cases h39 : ((y : Nat) : Int) < ((NN : Nat) : Int)
      · -- yes
        refine tp rfl (lv_lss rfl rfl (decide_eq_true h39)) ?_
        refine t_done ?_
        refine q_then_n (hK22 _ _ ?_)
        refine c_true rfl ?_
        refine c_skip ?_
        refine q_then_n (hK21 _ _ ?_)
        refine c_seq (fun K23 hK23 => ?_)
        refine c_block ?_
        refine c_seq (fun K24 hK24 => ?_)
        refine c_draw (γ := Unit) (n := 20) Tryd.mixed rfl rfl (fun _ S => True) (fun _ => [(0, 138, (.slice bs31 NN cp32)), (1, 139, (.int .i64 ((y : Nat) : Int))), (2, 140, (.pointer (some (ad bs31 y)))), (3, 141, (.int .i64 ((ofL NN EE (us ++ [(⟨q0, q1, q2⟩ : R3)])).getD y 0))), (4, 142, (.slice bs12 NN cp13)), (5, 143, (.int .i64 ((y : Nat) : Int))), (6, 144, (.pointer (some (ad bs12 y)))), (7, 145, (.int .i64 ((ofL NN EE us).getD y 0))), (8, 146, (.bool false)), (9, 147, (.bool false)), (10, 148, (.slice bs35 NN cp36)), (11, 149, (.int .i64 ((y : Nat) : Int))), (12, 150, (.pointer (some (ad bs35 y)))), (13, 151, (.int .i64 ((ofL NN (addE NN EE e0 e1) (us)).getD y 0))), (14, 152, (.slice bs12 NN cp13)), (15, 153, (.int .i64 ((y : Nat) : Int))), (16, 154, (.pointer (some (ad bs12 y)))), (17, 155, (.int .i64 ((ofL NN EE us).getD y 0))), (18, 156, (.bool false)), (19, 157, (.bool false))]) (fun _ S => (SlV 3 1 (.slice bs35 NN cp36) NN (ints .i64 (ofL NN (addE NN EE e0 e1) (us)))) :: (GraphO p3 NN (addE NN EE e0 e1)) :: (SlV 3 1 (.slice bs31 NN cp32) NN (ints .i64 (ofL NN EE (us ++ [(⟨q0, q1, q2⟩ : R3)])))) :: (SlV 47 3 (.slice bs8 (n1 + 1) cp9) (n1 + 1) (recs triF (us ++ [(⟨q0, q1, q2⟩ : R3)]))) :: (SlV 3 1 (.slice bs12 NN cp13) NN (ints .i64 (ofL NN EE us))) :: (Blk b2 [(.int .i64 e0), (.int .i64 e1)] 33) :: (Blk b1 [(.int .i64 q0), (.int .i64 q1), (.int .i64 q2)] 47) :: R) (()) trivial (fun _ h => h) (fun _ _ h => h) ?_ ?_
        · -- steps
         refine ⟨?_, ?_, ?_, ?_, ?_, ?_, ?_, ?_, ?_, ?_, ?_, ?_, ?_, ?_, ?_, ?_, ?_, ?_, ?_, ?_, trivial⟩
         · -- 0
          rintro _ S hF hS D hp K hK
          try dsimp only at hF ⊢
          refine d_need (small := [(18, (.slice bs31 NN cp32))]) ⟨look_b rfl rfl, trivial⟩ ?_
          refine tp rfl (lv_move rfl) ?_
          exact d_closes ⟨look_b rfl rfl, trivial⟩ 0 rfl rfl rfl hS (AgreeR.refl _) (t_sat (fun _ h => h) (hK () trivial))
         · -- 1
          rintro _ S hF hS D hp K hK
          try dsimp only at hF ⊢
          refine d_need (small := [(20, (.int .i64 ((y : Nat) : Int)))]) ⟨look_b rfl rfl, trivial⟩ ?_
          refine tp rfl (lv_move rfl) ?_
          exact d_closes ⟨look_b rfl rfl, trivial⟩ 1 rfl rfl rfl hS (AgreeR.refl _) (t_sat (fun _ h => h) (hK () trivial))
         · -- 2
          rintro _ S hF hS D hp K hK
          try dsimp only at hF ⊢
          have s0 := hp 0 rfl
          have s1 := hp 1 rfl
          refine d_need (small := [(138, (.slice bs31 NN cp32)), (139, (.int .i64 ((y : Nat) : Int)))]) ⟨look_row rfl 0 rfl s0, look_row rfl 1 rfl s1, trivial⟩ ?_
          refine tp rfl (lv_indexAddr (k' := y) Tryd.underlying38 Tryd.sizeOf3 rfl rfl hok33 (by omega) (by omega) (by omega)) ?_
          exact d_closes ⟨look_row rfl 0 rfl s0, look_row rfl 1 rfl s1, trivial⟩ 2 rfl rfl rfl hS (AgreeR.refl _) (t_sat (fun _ h => h) (hK () trivial))
         · -- 3
          rintro _ S hF hS D hp K hK
          try dsimp only at hF ⊢
          have s2 := hp 2 rfl
          refine d_need (small := [(140, (.pointer (some (ad bs31 y))))]) ⟨look_row rfl 2 rfl s2, trivial⟩ ?_
          refine tp rfl (lv_load Tryd.isAgg3 rfl (gives_sl (.tail _ (.tail _ (.head _))) (ints_get (by omega)))) ?_
          exact d_closes ⟨look_row rfl 2 rfl s2, trivial⟩ 3 rfl rfl rfl hS (AgreeR.refl _) (t_sat (fun _ h => h) (hK () trivial))
         · -- 4
          rintro _ S hF hS D hp K hK
          try dsimp only at hF ⊢
          refine d_need (small := [(13, (.slice bs12 NN cp13))]) ⟨look_b rfl rfl, trivial⟩ ?_
          refine tp rfl (lv_move rfl) ?_
          exact d_closes ⟨look_b rfl rfl, trivial⟩ 4 rfl rfl rfl hS (AgreeR.refl _) (t_sat (fun _ h => h) (hK () trivial))
         · -- 5
          rintro _ S hF hS D hp K hK
          try dsimp only at hF ⊢
          refine d_need (small := [(20, (.int .i64 ((y : Nat) : Int)))]) ⟨look_b rfl rfl, trivial⟩ ?_
          refine tp rfl (lv_move rfl) ?_
          exact d_closes ⟨look_b rfl rfl, trivial⟩ 5 rfl rfl rfl hS (AgreeR.refl _) (t_sat (fun _ h => h) (hK () trivial))
         · -- 6
          rintro _ S hF hS D hp K hK
          try dsimp only at hF ⊢
          have s4 := hp 4 rfl
          have s5 := hp 5 rfl
          refine d_need (small := [(142, (.slice bs12 NN cp13)), (143, (.int .i64 ((y : Nat) : Int)))]) ⟨look_row rfl 4 rfl s4, look_row rfl 5 rfl s5, trivial⟩ ?_
          refine tp rfl (lv_indexAddr (k' := y) Tryd.underlying38 Tryd.sizeOf3 rfl rfl hok14 (by omega) (by omega) (by omega)) ?_
          exact d_closes ⟨look_row rfl 4 rfl s4, look_row rfl 5 rfl s5, trivial⟩ 6 rfl rfl rfl hS (AgreeR.refl _) (t_sat (fun _ h => h) (hK () trivial))
         · -- 7
          rintro _ S hF hS D hp K hK
          try dsimp only at hF ⊢
          have s6 := hp 6 rfl
          refine d_need (small := [(144, (.pointer (some (ad bs12 y))))]) ⟨look_row rfl 6 rfl s6, trivial⟩ ?_
          refine tp rfl (lv_load Tryd.isAgg3 rfl (gives_sl (.tail _ (.tail _ (.tail _ (.tail _ (.head _))))) (ints_get (by omega)))) ?_
          exact d_closes ⟨look_row rfl 6 rfl s6, trivial⟩ 7 rfl rfl rfl hS (AgreeR.refl _) (t_sat (fun _ h => h) (hK () trivial))
         · -- 8
          rintro _ S hF hS D hp K hK
          try dsimp only at hF ⊢
          have s3 := hp 3 rfl
          have s7 := hp 7 rfl
          refine d_need (small := [(141, (.int .i64 ((ofL NN EE (us ++ [(⟨q0, q1, q2⟩ : R3)])).getD y 0))), (145, (.int .i64 ((ofL NN EE us).getD y 0)))]) ⟨look_row rfl 3 rfl s3, look_row rfl 7 rfl s7, trivial⟩ ?_
          refine tp rfl (lv_lss rfl rfl (decide_eq_false (by have := of_more (N := NN) (E := EE) (rs := us) (r := (⟨q0, q1, q2⟩ : R3)) (x := y) (by omega); omega))) ?_
          exact d_closes ⟨look_row rfl 3 rfl s3, look_row rfl 7 rfl s7, trivial⟩ 8 rfl rfl rfl hS (AgreeR.refl _) (t_sat (fun _ h => h) (hK () trivial))
         · -- 9
          rintro _ S hF hS D hp K hK
          try dsimp only at hF ⊢
          have s8 := hp 8 rfl
          refine d_need (small := [(146, (.bool false))]) ⟨look_row rfl 8 rfl s8, trivial⟩ ?_
          refine tp rfl (lv_move rfl) ?_
          exact d_closes ⟨look_row rfl 8 rfl s8, trivial⟩ 9 rfl rfl rfl hS (AgreeR.refl _) (t_sat (fun _ h => h) (hK () trivial))
         · -- 10
          rintro _ S hF hS D hp K hK
          try dsimp only at hF ⊢
          have s9 := hp 9 rfl
          refine d_need (small := [(19, (.slice bs35 NN cp36)), (147, (.bool false))]) ⟨look_b rfl rfl, look_row rfl 9 rfl s9, trivial⟩ ?_
          refine t_guard rfl rfl ?_
          refine tp rfl (lv_move rfl) ?_
          exact d_closes ⟨look_b rfl rfl, look_row rfl 9 rfl s9, trivial⟩ 10 rfl rfl rfl hS (AgreeR.refl _) (t_sat (fun _ h => h) (hK () trivial))
         · -- 11
          rintro _ S hF hS D hp K hK
          try dsimp only at hF ⊢
          have s9 := hp 9 rfl
          refine d_need (small := [(20, (.int .i64 ((y : Nat) : Int))), (147, (.bool false))]) ⟨look_b rfl rfl, look_row rfl 9 rfl s9, trivial⟩ ?_
          refine t_guard rfl rfl ?_
          refine tp rfl (lv_move rfl) ?_
          exact d_closes ⟨look_b rfl rfl, look_row rfl 9 rfl s9, trivial⟩ 11 rfl rfl rfl hS (AgreeR.refl _) (t_sat (fun _ h => h) (hK () trivial))
         · -- 12
          rintro _ S hF hS D hp K hK
          try dsimp only at hF ⊢
          have s9 := hp 9 rfl
          have s10 := hp 10 rfl
          have s11 := hp 11 rfl
          refine d_need (small := [(147, (.bool false)), (148, (.slice bs35 NN cp36)), (149, (.int .i64 ((y : Nat) : Int)))]) ⟨look_row rfl 9 rfl s9, look_row rfl 10 rfl s10, look_row rfl 11 rfl s11, trivial⟩ ?_
          refine t_guard rfl rfl ?_
          refine tp rfl (lv_indexAddr (k' := y) Tryd.underlying38 Tryd.sizeOf3 rfl rfl hok37 (by omega) (by omega) (by omega)) ?_
          exact d_closes ⟨look_row rfl 9 rfl s9, look_row rfl 10 rfl s10, look_row rfl 11 rfl s11, trivial⟩ 12 rfl rfl rfl hS (AgreeR.refl _) (t_sat (fun _ h => h) (hK () trivial))
         · -- 13
          rintro _ S hF hS D hp K hK
          try dsimp only at hF ⊢
          have s9 := hp 9 rfl
          have s12 := hp 12 rfl
          refine d_need (small := [(147, (.bool false)), (150, (.pointer (some (ad bs35 y))))]) ⟨look_row rfl 9 rfl s9, look_row rfl 12 rfl s12, trivial⟩ ?_
          refine t_guard rfl rfl ?_
          refine tp rfl (lv_load Tryd.isAgg3 rfl (gives_sl (.head _) (ints_get (by omega)))) ?_
          exact d_closes ⟨look_row rfl 9 rfl s9, look_row rfl 12 rfl s12, trivial⟩ 13 rfl rfl rfl hS (AgreeR.refl _) (t_sat (fun _ h => h) (hK () trivial))
         · -- 14
          rintro _ S hF hS D hp K hK
          try dsimp only at hF ⊢
          have s9 := hp 9 rfl
          refine d_need (small := [(13, (.slice bs12 NN cp13)), (147, (.bool false))]) ⟨look_b rfl rfl, look_row rfl 9 rfl s9, trivial⟩ ?_
          refine t_guard rfl rfl ?_
          refine tp rfl (lv_move rfl) ?_
          exact d_closes ⟨look_b rfl rfl, look_row rfl 9 rfl s9, trivial⟩ 14 rfl rfl rfl hS (AgreeR.refl _) (t_sat (fun _ h => h) (hK () trivial))
         · -- 15
          rintro _ S hF hS D hp K hK
          try dsimp only at hF ⊢
          have s9 := hp 9 rfl
          refine d_need (small := [(20, (.int .i64 ((y : Nat) : Int))), (147, (.bool false))]) ⟨look_b rfl rfl, look_row rfl 9 rfl s9, trivial⟩ ?_
          refine t_guard rfl rfl ?_
          refine tp rfl (lv_move rfl) ?_
          exact d_closes ⟨look_b rfl rfl, look_row rfl 9 rfl s9, trivial⟩ 15 rfl rfl rfl hS (AgreeR.refl _) (t_sat (fun _ h => h) (hK () trivial))
         · -- 16
          rintro _ S hF hS D hp K hK
          try dsimp only at hF ⊢
          have s9 := hp 9 rfl
          have s14 := hp 14 rfl
          have s15 := hp 15 rfl
          refine d_need (small := [(147, (.bool false)), (152, (.slice bs12 NN cp13)), (153, (.int .i64 ((y : Nat) : Int)))]) ⟨look_row rfl 9 rfl s9, look_row rfl 14 rfl s14, look_row rfl 15 rfl s15, trivial⟩ ?_
          refine t_guard rfl rfl ?_
          refine tp rfl (lv_indexAddr (k' := y) Tryd.underlying38 Tryd.sizeOf3 rfl rfl hok14 (by omega) (by omega) (by omega)) ?_
          exact d_closes ⟨look_row rfl 9 rfl s9, look_row rfl 14 rfl s14, look_row rfl 15 rfl s15, trivial⟩ 16 rfl rfl rfl hS (AgreeR.refl _) (t_sat (fun _ h => h) (hK () trivial))
         · -- 17
          rintro _ S hF hS D hp K hK
          try dsimp only at hF ⊢
          have s9 := hp 9 rfl
          have s16 := hp 16 rfl
          refine d_need (small := [(147, (.bool false)), (154, (.pointer (some (ad bs12 y))))]) ⟨look_row rfl 9 rfl s9, look_row rfl 16 rfl s16, trivial⟩ ?_
          refine t_guard rfl rfl ?_
          refine tp rfl (lv_load Tryd.isAgg3 rfl (gives_sl (.tail _ (.tail _ (.tail _ (.tail _ (.head _))))) (ints_get (by omega)))) ?_
          exact d_closes ⟨look_row rfl 9 rfl s9, look_row rfl 16 rfl s16, trivial⟩ 17 rfl rfl rfl hS (AgreeR.refl _) (t_sat (fun _ h => h) (hK () trivial))
         · -- 18
          rintro _ S hF hS D hp K hK
          try dsimp only at hF ⊢
          have s9 := hp 9 rfl
          have s13 := hp 13 rfl
          have s17 := hp 17 rfl
          refine d_need (small := [(147, (.bool false)), (151, (.int .i64 ((ofL NN (addE NN EE e0 e1) (us)).getD y 0))), (155, (.int .i64 ((ofL NN EE us).getD y 0)))]) ⟨look_row rfl 9 rfl s9, look_row rfl 13 rfl s13, look_row rfl 17 rfl s17, trivial⟩ ?_
          refine t_guard rfl rfl ?_
          refine tp rfl (lv_lss rfl rfl (decide_eq_false (by have := of_edge (N := NN) (E := EE) (rs := us) (a := e0) (b := e1) (x := y) (by omega); omega))) ?_
          exact d_closes ⟨look_row rfl 9 rfl s9, look_row rfl 13 rfl s13, look_row rfl 17 rfl s17, trivial⟩ 18 rfl rfl rfl hS (AgreeR.refl _) (t_sat (fun _ h => h) (hK () trivial))
         · -- 19
          rintro _ S hF hS D hp K hK
          try dsimp only at hF ⊢
          have s9 := hp 9 rfl
          have s18 := hp 18 rfl
          refine d_need (small := [(147, (.bool false)), (156, (.bool false))]) ⟨look_row rfl 9 rfl s9, look_row rfl 18 rfl s18, trivial⟩ ?_
          refine tp rfl (lv_pick_f rfl rfl) ?_
          exact d_closes ⟨look_row rfl 9 rfl s9, look_row rfl 18 rfl s18, trivial⟩ 19 rfl rfl rfl hS (AgreeR.refl _) (t_sat (fun _ h => h) (hK () trivial))
        · -- behind
         rintro _ hF
         try dsimp only at hF ⊢
         refine t_weak (E' := [(0, (.int .i64 n)), (1, (.slice beb es.length ceb)), (2, (.slice bs8 n1 cp9)), (3, (.agg #[(.int .i64 q0), (.int .i64 q1), (.int .i64 q2)])), (4, (.agg #[(.int .i64 e0), (.int .i64 e1)])), (8, (.pointer (some ⟨b1, 0, none⟩))), (9, (.pointer (some ⟨b2, 0, none⟩))), (11, (.bool true)), (12, (.pointer (some ⟨p3, 0, none⟩))), (13, (.slice bs12 NN cp13)), (14, (.int .i64 ((x : Nat) : Int))), (18, (.slice bs31 NN cp32)), (19, (.slice bs35 NN cp36)), (20, (.int .i64 ((y : Nat) : Int))), (26, (.bool false)), (40, (.bool false)), (131, (.bool false)), (135, (.bool true)), (157, (.bool false))]) ⟨rfl, rfl, rfl, rfl, rfl, rfl, rfl, rfl, rfl, rfl, rfl, rfl, rfl, rfl, rfl, rfl, rfl, rfl, rfl, trivial⟩ ?_
         refine q_then_n (hK24 _ _ ?_)
         refine c_false rfl ?_
         refine c_skip ?_
         refine q_in_n ?_
         refine q_then_n (hK23 _ _ ?_)
         refine c_region ?_
         refine tp rfl (lv_move rfl) ?_
         refine tp rfl (lv_add (c := ((y + 1 : Nat) : Int)) rfl rfl (wr_i64_succ (by omega))) ?_
         refine tp rfl (lv_assign rfl) ?_
         refine t_done ?_
         refine q_then_n ?_
         exact t_weak (by exact ⟨rfl, rfl, rfl, rfl, rfl, rfl, rfl, rfl, rfl, rfl, rfl, rfl, rfl, rfl, rfl, rfl, rfl, trivial⟩) ((hK20 (y + 1) (by omega) (by omega)))
      · -- no
        refine tp rfl (lv_lss rfl rfl (decide_eq_false h39)) ?_
        refine t_done ?_
        refine q_then_n (hK22 _ _ ?_)
        refine c_false rfl ?_
        refine c_exit ?_
        refine q_then_x ?_
        refine q_then_x ?_
        refine q_in_x ?_
        refine q_then_n (hK18 _ _ ?_)
        refine c_seq (fun K23 hK23 => ?_)
        refine c_region ?_
        refine tp rfl (lv_move rfl) ?_
        refine tp rfl (lv_assign rfl) ?_
        refine t_done ?_
        refine q_then_n (hK23 _ _ ?_)
        refine c_ret ?_
        refine t_drop ?_
        refine t_drop ?_
        refine t_drop ?_
        refine t_drop ?_
        refine t_drop ?_
        refine t_drop ?_
        refine t_drop ?_
        refine q_ret rfl rfl ?_
        exact ⟨rfl, rfl⟩
    · -- grown
      rw [show recs triF us ++ [(.int .i64 q0), (.int .i64 q1), (.int .i64 q2)] = recs triF (us ++ [(⟨q0, q1, q2⟩ : R3)]) from recs_snoc triF us (⟨q0, q1, q2⟩ : R3)]
      refine t_f4 ?_
      refine tc rfl (en_fn Tryd.call15 rfl) (of_ok (us ++ [(⟨q0, q1, q2⟩ : R3)]) (by first | rfl | omega | (simp; done) | (simp; omega)) (rd_sl (.head _)) (fun hz => hok29 (by first | exact hz | omega)) (by first | rfl | omega | (simp; done) | (simp; omega)) (Tab.cons (Tab.cons (Tab.cons (Tab.cons (Tab.cons (Tab.cons hT))))))) ?_
      rintro _ _ ⟨bs40, cp41, hok42, hle43, rfl, rfl⟩
      refine tp rfl (lv_assign rfl) ?_
      refine t_done ?_
      refine q_then_n (hK13 _ _ ?_)
      refine c_seq (fun K14 hK14 => ?_)
      refine c_region ?_
      refine tp rfl (lv_move rfl) ?_
      refine tp rfl (lv_fieldAddr (o' := 0) Tryd.underlying33 rfl Tryd.sizeOf3 rfl rfl) ?_
      refine tp rfl (lv_load Tryd.isAgg3 rfl (gives_blk (.tail _ (.tail _ (.tail _ (.tail _ (.tail _ (.tail _ (.head _))))))) rfl)) ?_
      refine tp rfl (lv_fieldAddr (o' := 1) Tryd.underlying33 rfl Tryd.sizeOf3 rfl rfl) ?_
      refine tp rfl (lv_load Tryd.isAgg3 rfl (gives_blk (.tail _ (.tail _ (.tail _ (.tail _ (.tail _ (.tail _ (.head _))))))) rfl)) ?_
      refine t_f1 ?_
      refine tc rfl (en_fn Tryd.call19 rfl) (add_ok (N := NN) (es := EE) e0 e1) ?_
      rintro _ _ ⟨rfl, rfl⟩
      refine t_done ?_
      refine q_then_n (hK14 _ _ ?_)
      refine c_seq (fun K15 hK15 => ?_)
      refine c_region ?_
      refine tp rfl (lv_move rfl) ?_
      refine tp rfl (lv_move rfl) ?_
      refine tc rfl (en_fn Tryd.call15 rfl) (of_ok us (by first | rfl | omega | (simp; done) | (simp; omega)) (rd_sl (.tail _ (.tail _ (.head _)))) (fun hz => hok10 (by first | exact hz | omega)) (by first | rfl | omega | (simp; done) | (simp; omega)) (Tab.cons (Tab.cons (Tab.cons (Tab.cons (Tab.cons (Tab.cons (Tab.cons hT)))))))) ?_
      rintro _ _ ⟨bs44, cp45, hok46, hle47, rfl, rfl⟩
      refine tp rfl (lv_assign rfl) ?_
      refine t_done ?_
      refine q_then_n (hK15 _ _ ?_)
      refine c_seq (fun K16 hK16 => ?_)
      refine c_seq (fun K17 hK17 => ?_)
      refine c_region ?_
      refine tp rfl (lv_move rfl) ?_
      refine tp rfl (lv_len Tryd.underlying38 rfl rfl) ?_
      refine tp rfl (lv_move rfl) ?_
      refine tp rfl (lv_len Tryd.underlying38 rfl rfl) ?_
      refine tp rfl (lv_neq rfl rfl (bne_eq_false_iff_eq.2 rfl)) ?_
      refine tp rfl (lv_move rfl) ?_
      refine t_guard rfl rfl ?_
      refine tp rfl (lv_move rfl) ?_
      refine t_guard rfl rfl ?_
      refine tp rfl (lv_len Tryd.underlying38 rfl rfl) ?_
      refine t_guard rfl rfl ?_
      refine tp rfl (lv_move rfl) ?_
      refine t_guard rfl rfl ?_
      refine tp rfl (lv_len Tryd.underlying38 rfl rfl) ?_
      refine t_guard rfl rfl ?_
      refine tp rfl (lv_neq rfl rfl (bne_eq_false_iff_eq.2 rfl)) ?_
      refine tp rfl (lv_pick_f rfl rfl) ?_
      refine t_done ?_
      refine q_then_n (hK17 _ _ ?_)
      refine c_false rfl ?_
      refine c_skip ?_
      refine q_then_n (hK16 _ _ ?_)
      refine c_seq (fun K18 hK18 => ?_)
      refine c_seq (fun K19 hK19 => ?_)
      refine c_region ?_
      refine tp rfl (lv_assign rfl) ?_
      refine t_done ?_
      refine q_then_n (hK19 _ _ ?_)
      refine c_block ?_
      refine t_f3 ?_
      refine t_drop ?_
      refine t_f4 ?_
      refine t_drop ?_
      refine c_loop (γ := (Nat)) (fun (y : Nat) => y ≤ NN) (fun (y : Nat) => [(0, (.int .i64 n)), (1, (.slice beb es.length ceb)), (2, (.slice bs8 n1 cp9)), (3, (.agg #[(.int .i64 q0), (.int .i64 q1), (.int .i64 q2)])), (4, (.agg #[(.int .i64 e0), (.int .i64 e1)])), (8, (.pointer (some ⟨b1, 0, none⟩))), (9, (.pointer (some ⟨b2, 0, none⟩))), (11, (.bool true)), (12, (.pointer (some ⟨p3, 0, none⟩))), (13, (.slice bs12 NN cp13)), (14, (.int .i64 ((x : Nat) : Int))), (18, (.slice bs40 NN cp41)), (19, (.slice bs44 NN cp45)), (20, (.int .i64 ((y : Nat) : Int))), (26, (.bool false)), (40, (.bool false)), (131, (.bool false))]) (fun (y : Nat) => (SlV 3 1 (.slice bs44 NN cp45) NN (ints .i64 (ofL NN (addE NN EE e0 e1) us))) :: (GraphO p3 NN (addE NN EE e0 e1)) :: (SlV 3 1 (.slice bs40 NN cp41) NN (ints .i64 (ofL NN EE (us ++ [(⟨q0, q1, q2⟩ : R3)])))) :: (SlV 47 3 (.slice bs8 n1 cp9) n1 (recs triF us)) :: (SlV 3 1 (.slice bs12 NN cp13) NN (ints .i64 (ofL NN EE us))) :: (Blk b2 [(.int .i64 e0), (.int .i64 e1)] 33) :: (Blk b1 [(.int .i64 q0), (.int .i64 q1), (.int .i64 q2)] 47) :: R) (fun (y : Nat) => NN - y) (0) (by omega) ⟨rfl, rfl, rfl, rfl, rfl, rfl, rfl, rfl, rfl, rfl, rfl, rfl, rfl, rfl, rfl, rfl, rfl, trivial⟩ (fun _ h => h) ?_
      rintro y K20 hF hK20
      try dsimp only at hF hK20 ⊢
      have hl0 := ofL_len NN EE us
      have hl1 := ofL_len NN EE (us ++ [(⟨q0, q1, q2⟩ : R3)])
      have hl2 := ofL_len NN (addE NN EE e0 e1) us
      refine c_seq (fun K21 hK21 => ?_)
      refine c_seq (fun K22 hK22 => ?_)
      refine c_region ?_
      refine tp rfl (lv_move rfl) ?_
      refine tp rfl (lv_move rfl) ?_
      refine tp rfl (lv_len Tryd.underlying38 rfl rfl) ?_
      by_cases h48 : ((y : Nat) : Int) < ((NN : Nat) : Int)
      · -- yes
        refine tp rfl (lv_lss rfl rfl (decide_eq_true h48)) ?_
        refine t_done ?_
        refine q_then_n (hK22 _ _ ?_)
        refine c_true rfl ?_
        refine c_skip ?_
        refine q_then_n (hK21 _ _ ?_)
        refine c_seq (fun K23 hK23 => ?_)
        refine c_block ?_
        refine c_seq (fun K24 hK24 => ?_)
        refine c_draw (γ := Unit) (n := 20) Tryd.mixed rfl rfl (fun _ S => True) (fun _ => [(0, 138, (.slice bs40 NN cp41)), (1, 139, (.int .i64 ((y : Nat) : Int))), (2, 140, (.pointer (some (ad bs40 y)))), (3, 141, (.int .i64 ((ofL NN EE (us ++ [(⟨q0, q1, q2⟩ : R3)])).getD y 0))), (4, 142, (.slice bs12 NN cp13)), (5, 143, (.int .i64 ((y : Nat) : Int))), (6, 144, (.pointer (some (ad bs12 y)))), (7, 145, (.int .i64 ((ofL NN EE us).getD y 0))), (8, 146, (.bool false)), (9, 147, (.bool false)), (10, 148, (.slice bs44 NN cp45)), (11, 149, (.int .i64 ((y : Nat) : Int))), (12, 150, (.pointer (some (ad bs44 y)))), (13, 151, (.int .i64 ((ofL NN (addE NN EE e0 e1) us).getD y 0))), (14, 152, (.slice bs12 NN cp13)), (15, 153, (.int .i64 ((y : Nat) : Int))), (16, 154, (.pointer (some (ad bs12 y)))), (17, 155, (.int .i64 ((ofL NN EE us).getD y 0))), (18, 156, (.bool false)), (19, 157, (.bool false))]) (fun _ S => (SlV 3 1 (.slice bs44 NN cp45) NN (ints .i64 (ofL NN (addE NN EE e0 e1) us))) :: (GraphO p3 NN (addE NN EE e0 e1)) :: (SlV 3 1 (.slice bs40 NN cp41) NN (ints .i64 (ofL NN EE (us ++ [(⟨q0, q1, q2⟩ : R3)])))) :: (SlV 47 3 (.slice bs8 n1 cp9) n1 (recs triF us)) :: (SlV 3 1 (.slice bs12 NN cp13) NN (ints .i64 (ofL NN EE us))) :: (Blk b2 [(.int .i64 e0), (.int .i64 e1)] 33) :: (Blk b1 [(.int .i64 q0), (.int .i64 q1), (.int .i64 q2)] 47) :: R) (()) trivial (fun _ h => h) (fun _ _ h => h) ?_ ?_
        · -- steps
         refine ⟨?_, ?_, ?_, ?_, ?_, ?_, ?_, ?_, ?_, ?_, ?_, ?_, ?_, ?_, ?_, ?_, ?_, ?_, ?_, ?_, trivial⟩
         · -- 0
          rintro _ S hF hS D hp K hK
          try dsimp only at hF ⊢
          refine d_need (small := [(18, (.slice bs40 NN cp41))]) ⟨look_b rfl rfl, trivial⟩ ?_
          refine tp rfl (lv_move rfl) ?_
          exact d_closes ⟨look_b rfl rfl, trivial⟩ 0 rfl rfl rfl hS (AgreeR.refl _) (t_sat (fun _ h => h) (hK () trivial))
         · -- 1
          rintro _ S hF hS D hp K hK
          try dsimp only at hF ⊢
          refine d_need (small := [(20, (.int .i64 ((y : Nat) : Int)))]) ⟨look_b rfl rfl, trivial⟩ ?_
          refine tp rfl (lv_move rfl) ?_
          exact d_closes ⟨look_b rfl rfl, trivial⟩ 1 rfl rfl rfl hS (AgreeR.refl _) (t_sat (fun _ h => h) (hK () trivial))
         · -- 2
          rintro _ S hF hS D hp K hK
          try dsimp only at hF ⊢
          have s0 := hp 0 rfl
          have s1 := hp 1 rfl
          refine d_need (small := [(138, (.slice bs40 NN cp41)), (139, (.int .i64 ((y : Nat) : Int)))]) ⟨look_row rfl 0 rfl s0, look_row rfl 1 rfl s1, trivial⟩ ?_
          refine tp rfl (lv_indexAddr (k' := y) Tryd.underlying38 Tryd.sizeOf3 rfl rfl hok42 (by omega) (by omega) (by omega)) ?_
          exact d_closes ⟨look_row rfl 0 rfl s0, look_row rfl 1 rfl s1, trivial⟩ 2 rfl rfl rfl hS (AgreeR.refl _) (t_sat (fun _ h => h) (hK () trivial))
         · -- 3
          rintro _ S hF hS D hp K hK
          try dsimp only at hF ⊢
          have s2 := hp 2 rfl
          refine d_need (small := [(140, (.pointer (some (ad bs40 y))))]) ⟨look_row rfl 2 rfl s2, trivial⟩ ?_
          refine tp rfl (lv_load Tryd.isAgg3 rfl (gives_sl (.tail _ (.tail _ (.head _))) (ints_get (by omega)))) ?_
          exact d_closes ⟨look_row rfl 2 rfl s2, trivial⟩ 3 rfl rfl rfl hS (AgreeR.refl _) (t_sat (fun _ h => h) (hK () trivial))
         · -- 4
          rintro _ S hF hS D hp K hK
          try dsimp only at hF ⊢
          refine d_need (small := [(13, (.slice bs12 NN cp13))]) ⟨look_b rfl rfl, trivial⟩ ?_
          refine tp rfl (lv_move rfl) ?_
          exact d_closes ⟨look_b rfl rfl, trivial⟩ 4 rfl rfl rfl hS (AgreeR.refl _) (t_sat (fun _ h => h) (hK () trivial))
         · -- 5
          rintro _ S hF hS D hp K hK
          try dsimp only at hF ⊢
          refine d_need (small := [(20, (.int .i64 ((y : Nat) : Int)))]) ⟨look_b rfl rfl, trivial⟩ ?_
          refine tp rfl (lv_move rfl) ?_
          exact d_closes ⟨look_b rfl rfl, trivial⟩ 5 rfl rfl rfl hS (AgreeR.refl _) (t_sat (fun _ h => h) (hK () trivial))
         · -- 6
          rintro _ S hF hS D hp K hK
          try dsimp only at hF ⊢
          have s4 := hp 4 rfl
          have s5 := hp 5 rfl
          refine d_need (small := [(142, (.slice bs12 NN cp13)), (143, (.int .i64 ((y : Nat) : Int)))]) ⟨look_row rfl 4 rfl s4, look_row rfl 5 rfl s5, trivial⟩ ?_
          refine tp rfl (lv_indexAddr (k' := y) Tryd.underlying38 Tryd.sizeOf3 rfl rfl hok14 (by omega) (by omega) (by omega)) ?_
          exact d_closes ⟨look_row rfl 4 rfl s4, look_row rfl 5 rfl s5, trivial⟩ 6 rfl rfl rfl hS (AgreeR.refl _) (t_sat (fun _ h => h) (hK () trivial))
         · -- 7
          rintro _ S hF hS D hp K hK
          try dsimp only at hF ⊢
          have s6 := hp 6 rfl
          refine d_need (small := [(144, (.pointer (some (ad bs12 y))))]) ⟨look_row rfl 6 rfl s6, trivial⟩ ?_
          refine tp rfl (lv_load Tryd.isAgg3 rfl (gives_sl (.tail _ (.tail _ (.tail _ (.tail _ (.head _))))) (ints_get (by omega)))) ?_
          exact d_closes ⟨look_row rfl 6 rfl s6, trivial⟩ 7 rfl rfl rfl hS (AgreeR.refl _) (t_sat (fun _ h => h) (hK () trivial))
         · -- 8
          rintro _ S hF hS D hp K hK
          try dsimp only at hF ⊢
          have s3 := hp 3 rfl
          have s7 := hp 7 rfl
          refine d_need (small := [(141, (.int .i64 ((ofL NN EE (us ++ [(⟨q0, q1, q2⟩ : R3)])).getD y 0))), (145, (.int .i64 ((ofL NN EE us).getD y 0)))]) ⟨look_row rfl 3 rfl s3, look_row rfl 7 rfl s7, trivial⟩ ?_
          refine tp rfl (lv_lss rfl rfl (decide_eq_false (by have := of_more (N := NN) (E := EE) (rs := us) (r := (⟨q0, q1, q2⟩ : R3)) (x := y) (by omega); omega))) ?_
          exact d_closes ⟨look_row rfl 3 rfl s3, look_row rfl 7 rfl s7, trivial⟩ 8 rfl rfl rfl hS (AgreeR.refl _) (t_sat (fun _ h => h) (hK () trivial))
         · -- 9
          rintro _ S hF hS D hp K hK
          try dsimp only at hF ⊢
          have s8 := hp 8 rfl
          refine d_need (small := [(146, (.bool false))]) ⟨look_row rfl 8 rfl s8, trivial⟩ ?_
          refine tp rfl (lv_move rfl) ?_
          exact d_closes ⟨look_row rfl 8 rfl s8, trivial⟩ 9 rfl rfl rfl hS (AgreeR.refl _) (t_sat (fun _ h => h) (hK () trivial))
         · -- 10
          rintro _ S hF hS D hp K hK
          try dsimp only at hF ⊢
          have s9 := hp 9 rfl
          refine d_need (small := [(19, (.slice bs44 NN cp45)), (147, (.bool false))]) ⟨look_b rfl rfl, look_row rfl 9 rfl s9, trivial⟩ ?_
          refine t_guard rfl rfl ?_
          refine tp rfl (lv_move rfl) ?_
          exact d_closes ⟨look_b rfl rfl, look_row rfl 9 rfl s9, trivial⟩ 10 rfl rfl rfl hS (AgreeR.refl _) (t_sat (fun _ h => h) (hK () trivial))
         · -- 11
          rintro _ S hF hS D hp K hK
          try dsimp only at hF ⊢
          have s9 := hp 9 rfl
          refine d_need (small := [(20, (.int .i64 ((y : Nat) : Int))), (147, (.bool false))]) ⟨look_b rfl rfl, look_row rfl 9 rfl s9, trivial⟩ ?_
          refine t_guard rfl rfl ?_
          refine tp rfl (lv_move rfl) ?_
          exact d_closes ⟨look_b rfl rfl, look_row rfl 9 rfl s9, trivial⟩ 11 rfl rfl rfl hS (AgreeR.refl _) (t_sat (fun _ h => h) (hK () trivial))
         · -- 12
          rintro _ S hF hS D hp K hK
          try dsimp only at hF ⊢
          have s9 := hp 9 rfl
          have s10 := hp 10 rfl
          have s11 := hp 11 rfl
          refine d_need (small := [(147, (.bool false)), (148, (.slice bs44 NN cp45)), (149, (.int .i64 ((y : Nat) : Int)))]) ⟨look_row rfl 9 rfl s9, look_row rfl 10 rfl s10, look_row rfl 11 rfl s11, trivial⟩ ?_
          refine t_guard rfl rfl ?_
          refine tp rfl (lv_indexAddr (k' := y) Tryd.underlying38 Tryd.sizeOf3 rfl rfl hok46 (by omega) (by omega) (by omega)) ?_
          exact d_closes ⟨look_row rfl 9 rfl s9, look_row rfl 10 rfl s10, look_row rfl 11 rfl s11, trivial⟩ 12 rfl rfl rfl hS (AgreeR.refl _) (t_sat (fun _ h => h) (hK () trivial))
         · -- 13
          rintro _ S hF hS D hp K hK
          try dsimp only at hF ⊢
          have s9 := hp 9 rfl
          have s12 := hp 12 rfl
          refine d_need (small := [(147, (.bool false)), (150, (.pointer (some (ad bs44 y))))]) ⟨look_row rfl 9 rfl s9, look_row rfl 12 rfl s12, trivial⟩ ?_
          refine t_guard rfl rfl ?_
          refine tp rfl (lv_load Tryd.isAgg3 rfl (gives_sl (.head _) (ints_get (by omega)))) ?_
          exact d_closes ⟨look_row rfl 9 rfl s9, look_row rfl 12 rfl s12, trivial⟩ 13 rfl rfl rfl hS (AgreeR.refl _) (t_sat (fun _ h => h) (hK () trivial))
         · -- 14
          rintro _ S hF hS D hp K hK
          try dsimp only at hF ⊢
          have s9 := hp 9 rfl
          refine d_need (small := [(13, (.slice bs12 NN cp13)), (147, (.bool false))]) ⟨look_b rfl rfl, look_row rfl 9 rfl s9, trivial⟩ ?_
          refine t_guard rfl rfl ?_
          refine tp rfl (lv_move rfl) ?_
          exact d_closes ⟨look_b rfl rfl, look_row rfl 9 rfl s9, trivial⟩ 14 rfl rfl rfl hS (AgreeR.refl _) (t_sat (fun _ h => h) (hK () trivial))
         · -- 15
          rintro _ S hF hS D hp K hK
          try dsimp only at hF ⊢
          have s9 := hp 9 rfl
          refine d_need (small := [(20, (.int .i64 ((y : Nat) : Int))), (147, (.bool false))]) ⟨look_b rfl rfl, look_row rfl 9 rfl s9, trivial⟩ ?_
          refine t_guard rfl rfl ?_
          refine tp rfl (lv_move rfl) ?_
          exact d_closes ⟨look_b rfl rfl, look_row rfl 9 rfl s9, trivial⟩ 15 rfl rfl rfl hS (AgreeR.refl _) (t_sat (fun _ h => h) (hK () trivial))
         · -- 16
          rintro _ S hF hS D hp K hK
          try dsimp only at hF ⊢
          have s9 := hp 9 rfl
          have s14 := hp 14 rfl
          have s15 := hp 15 rfl
          refine d_need (small := [(147, (.bool false)), (152, (.slice bs12 NN cp13)), (153, (.int .i64 ((y : Nat) : Int)))]) ⟨look_row rfl 9 rfl s9, look_row rfl 14 rfl s14, look_row rfl 15 rfl s15, trivial⟩ ?_
          refine t_guard rfl rfl ?_
          refine tp rfl (lv_indexAddr (k' := y) Tryd.underlying38 Tryd.sizeOf3 rfl rfl hok14 (by omega) (by omega) (by omega)) ?_
          exact d_closes ⟨look_row rfl 9 rfl s9, look_row rfl 14 rfl s14, look_row rfl 15 rfl s15, trivial⟩ 16 rfl rfl rfl hS (AgreeR.refl _) (t_sat (fun _ h => h) (hK () trivial))
         · -- 17
          rintro _ S hF hS D hp K hK
          try dsimp only at hF ⊢
          have s9 := hp 9 rfl
          have s16 := hp 16 rfl
          refine d_need (small := [(147, (.bool false)), (154, (.pointer (some (ad bs12 y))))]) ⟨look_row rfl 9 rfl s9, look_row rfl 16 rfl s16, trivial⟩ ?_
          refine t_guard rfl rfl ?_
          refine tp rfl (lv_load Tryd.isAgg3 rfl (gives_sl (.tail _ (.tail _ (.tail _ (.tail _ (.head _))))) (ints_get (by omega)))) ?_
          exact d_closes ⟨look_row rfl 9 rfl s9, look_row rfl 16 rfl s16, trivial⟩ 17 rfl rfl rfl hS (AgreeR.refl _) (t_sat (fun _ h => h) (hK () trivial))
         · -- 18
          rintro _ S hF hS D hp K hK
          try dsimp only at hF ⊢
          have s9 := hp 9 rfl
          have s13 := hp 13 rfl
          have s17 := hp 17 rfl
          refine d_need (small := [(147, (.bool false)), (151, (.int .i64 ((ofL NN (addE NN EE e0 e1) us).getD y 0))), (155, (.int .i64 ((ofL NN EE us).getD y 0)))]) ⟨look_row rfl 9 rfl s9, look_row rfl 13 rfl s13, look_row rfl 17 rfl s17, trivial⟩ ?_
          refine t_guard rfl rfl ?_
          refine tp rfl (lv_lss rfl rfl (decide_eq_false (by have := of_edge (N := NN) (E := EE) (rs := us) (a := e0) (b := e1) (x := y) (by omega); omega))) ?_
          exact d_closes ⟨look_row rfl 9 rfl s9, look_row rfl 13 rfl s13, look_row rfl 17 rfl s17, trivial⟩ 18 rfl rfl rfl hS (AgreeR.refl _) (t_sat (fun _ h => h) (hK () trivial))
         · -- 19
          rintro _ S hF hS D hp K hK
          try dsimp only at hF ⊢
          have s9 := hp 9 rfl
          have s18 := hp 18 rfl
          refine d_need (small := [(147, (.bool false)), (156, (.bool false))]) ⟨look_row rfl 9 rfl s9, look_row rfl 18 rfl s18, trivial⟩ ?_
          refine tp rfl (lv_pick_f rfl rfl) ?_
          exact d_closes ⟨look_row rfl 9 rfl s9, look_row rfl 18 rfl s18, trivial⟩ 19 rfl rfl rfl hS (AgreeR.refl _) (t_sat (fun _ h => h) (hK () trivial))
        · -- behind
         rintro _ hF
         try dsimp only at hF ⊢
         refine t_weak (E' := [(0, (.int .i64 n)), (1, (.slice beb es.length ceb)), (2, (.slice bs8 n1 cp9)), (3, (.agg #[(.int .i64 q0), (.int .i64 q1), (.int .i64 q2)])), (4, (.agg #[(.int .i64 e0), (.int .i64 e1)])), (8, (.pointer (some ⟨b1, 0, none⟩))), (9, (.pointer (some ⟨b2, 0, none⟩))), (11, (.bool true)), (12, (.pointer (some ⟨p3, 0, none⟩))), (13, (.slice bs12 NN cp13)), (14, (.int .i64 ((x : Nat) : Int))), (18, (.slice bs40 NN cp41)), (19, (.slice bs44 NN cp45)), (20, (.int .i64 ((y : Nat) : Int))), (26, (.bool false)), (40, (.bool false)), (131, (.bool false)), (135, (.bool true)), (157, (.bool false))]) ⟨rfl, rfl, rfl, rfl, rfl, rfl, rfl, rfl, rfl, rfl, rfl, rfl, rfl, rfl, rfl, rfl, rfl, rfl, rfl, trivial⟩ ?_
         refine q_then_n (hK24 _ _ ?_)
         refine c_false rfl ?_
         refine c_skip ?_
         refine q_in_n ?_
         refine q_then_n (hK23 _ _ ?_)
         refine c_region ?_
         refine tp rfl (lv_move rfl) ?_
         refine tp rfl (lv_add (c := ((y + 1 : Nat) : Int)) rfl rfl (wr_i64_succ (by omega))) ?_
         refine tp rfl (lv_assign rfl) ?_
         refine t_done ?_
         refine q_then_n ?_
         exact t_weak (by exact ⟨rfl, rfl, rfl, rfl, rfl, rfl, rfl, rfl, rfl, rfl, rfl, rfl, rfl, rfl, rfl, rfl, rfl, trivial⟩) ((hK20 (y + 1) (by omega) (by omega)))
      · -- no
        refine tp rfl (lv_lss rfl rfl (decide_eq_false h48)) ?_
        refine t_done ?_
        refine q_then_n (hK22 _ _ ?_)
        refine c_false rfl ?_
        refine c_exit ?_
        refine q_then_x ?_
        refine q_then_x ?_
        refine q_in_x ?_
        refine q_then_n (hK18 _ _ ?_)
        refine c_seq (fun K23 hK23 => ?_)
        refine c_region ?_
        refine tp rfl (lv_move rfl) ?_
        refine tp rfl (lv_assign rfl) ?_
        refine t_done ?_
        refine q_then_n (hK23 _ _ ?_)
        refine c_ret ?_
        refine t_drop ?_
        refine t_drop ?_
        refine t_drop ?_
        refine t_drop ?_
        refine t_drop ?_
        refine t_drop ?_
        refine t_drop ?_
        refine q_ret rfl rfl ?_
        exact ⟨rfl, rfl⟩
end Go.Proofs.YtlkcgpcgnhdnmaaDoor
