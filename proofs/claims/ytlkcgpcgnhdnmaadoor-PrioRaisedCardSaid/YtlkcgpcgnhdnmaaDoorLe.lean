/- PrioRaised: the law's walk. -/
import Derived.Test.YtlkcgpcgnhdnmaaDoorLa
import Derived.Test.YtlkcgpcgnhdnmaaDoorPrt
set_option maxRecDepth 100000
set_option linter.unusedVariables false
set_option linter.unusedSimpArgs false
namespace Go.Proofs.YtlkcgpcgnhdnmaaDoor
open Go Go.Proofs Sp
theorem raisedL_len (N : Nat) (E : Es) (rs : List R3) (a b : Int) : (raisedL N E rs a b).length ≤ N := by
  unfold raisedL
  split
  · exact Nat.le_trans (List.length_filter_le _ _) (reachL_le N E b)
  · exact Nat.zero_le _

set_option maxHeartbeats 20000000 in
theorem raised_law {R : List HP} (n : Int) {beb : Option Addr} {ceb : Nat} (es : List (Int × Int)) (heb : Rd R beb (pairs es)) (okeb : SlOk beb es.length) (leb : es.length ≤ 9223372036854775807) (lceb : es.length ≤ ceb) {brb : Option Addr} {crb : Nat} (xr : List R3) (hrb : Rd R brb (recs triF xr)) (okrb : SlOk brb xr.length) (lrb : xr.length ≤ 9223372036854775807) (lcrb : xr.length ≤ crb) (e0 e1 : Int) (hT : Tab R) :
    Ok Tryd.prog 5 [(.int .i64 n), (.slice beb es.length ceb), (.slice brb xr.length crb), (.agg #[(.int .i64 e0), (.int .i64 e1)])] R
      (fun v M => v = .bool true ∧ M = R) := by
  have hgk : GOk (clampN (min n 30)) (madeE (clampN (min n 30)) (es.take 100)) := GOk.made (clampN_le _) _
  have hcn := clampN_le (min n 30)
  obtain ⟨n1, hn1n⟩ : ∃ n, n = min xr.length 20 := ⟨_, rfl⟩
  obtain ⟨us, husl⟩ : ∃ l, l = xr.take n1 := ⟨_, rfl⟩
  have usn : us.length = n1 := by rw [husl, List.length_take]; omega
  have rdrb : Rd R brb (recs triF us) := by rw [husl]; exact rd_tk_recs triF_len n1 hrb
  refine ok_of (N := 176) Tryd.func5 rfl rfl rfl (fun W => ?_)
  refine c_seq (fun K1 hK1 => ?_)
  refine c_region ?_
  refine tm rfl (mv_box rfl rfl) ?_
  rintro _ _ ⟨b1, rfl, rfl⟩
  refine tp rfl (lv_assign rfl) ?_
  refine t_done ?_
  refine q_then_n (hK1 _ _ ?_)
  refine c_seq (fun K2 hK2 => ?_)
  refine c_region ?_
  refine tc rfl (en_fn Tryd.call8 rfl) (shown_ok (Tab.cons hT)) ?_
  rintro _ _ ⟨rfl, rfl⟩
  refine tp rfl (lv_assign rfl) ?_
  refine t_done ?_
  refine q_then_n (hK2 _ _ ?_)
  refine c_seq (fun K3 hK3 => ?_)
  refine c_region ?_
  refine tp rfl (lv_move rfl) ?_
  refine tp rfl (lv_move rfl) ?_
  refine tc rfl (en_fn Tryd.call9 rfl) (made_ok n es (Rd.cons heb) (fun hz => okeb (by first | exact hz | omega)) (by first | omega | decide)) ?_
  rintro _ _ ⟨p2, rfl, rfl⟩
  refine tp rfl (lv_assign rfl) ?_
  refine t_done ?_
  refine q_then_n (hK3 _ _ ?_)
  refine c_seq (fun K4 hK4 => ?_)
  refine c_seq (fun K5 hK5 => ?_)
  refine c_region ?_
  refine tp rfl (lv_move rfl) ?_
  refine tp rfl (lv_eqnil Tryd.underlying25 rfl rfl) ?_
  refine t_done ?_
  refine q_then_n (hK5 _ _ ?_)
  refine c_false rfl ?_
  refine c_skip ?_
  refine q_then_n (hK4 _ _ ?_)
  refine c_seq (fun K6 hK6 => ?_)
  refine c_region ?_
  obtain ⟨EE, hEE⟩ : ∃ x, madeE (clampN (min n 30)) (es.take 100) = x := ⟨_, rfl⟩
  rw [hEE] at hgk ⊢
  obtain ⟨NN, hNN⟩ : ∃ x, clampN (min n 30) = x := ⟨_, rfl⟩
  rw [hNN] at hgk hcn ⊢
  refine tp rfl (lv_move rfl) ?_
  refine tp rfl (lv_move rfl) ?_
  refine tp rfl (lv_len Tryd.underlying23 rfl rfl) ?_
  refine tp rfl (lv_min (c := ((n1 : Nat) : Int)) rfl rfl (by omega)) ?_
  refine tp rfl (lv_slice (l := 0) (h := n1) (m := crb) (v := (.slice brb n1 crb)) Tryd.underlying23 Tryd.sizeOf47 rfl rfl rfl rfl (.inr ⟨rfl, rfl⟩) (.inl ⟨_, _, rfl, (by omega), (by omega), (by omega)⟩) (.inr ⟨rfl, rfl⟩) (by simp) (by rw [sbase_zero]; rfl)) ?_
  refine tp rfl (lv_assign rfl) ?_
  refine t_done ?_
  refine q_then_n (hK6 _ _ ?_)
  refine c_seq (fun K7 hK7 => ?_)
  refine c_region ?_
  refine tp rfl (lv_move rfl) ?_
  refine tp rfl (lv_move rfl) ?_
  refine tc rfl (en_fn Tryd.call15 rfl) (of_ok us (by first | rfl | omega | (simp; done) | (simp; omega)) (Rd.cons rdrb) (fun hz => (fun hz => okrb (by omega)) (by first | exact hz | omega)) (by first | rfl | omega | (simp; done) | (simp; omega)) (Tab.cons hT)) ?_
  rintro _ _ ⟨bs3, cp4, hok5, hle6, rfl, rfl⟩
  refine tp rfl (lv_assign rfl) ?_
  refine t_done ?_
  refine q_then_n (hK7 _ _ ?_)
  refine c_seq (fun K8 hK8 => ?_)
  refine c_region ?_
  refine tp rfl (lv_move rfl) ?_
  refine tp rfl (lv_move rfl) ?_
  refine tp rfl (lv_fieldAddr (o' := 0) Tryd.underlying33 rfl Tryd.sizeOf3 rfl rfl) ?_
  refine tp rfl (lv_load Tryd.isAgg3 rfl (gives_blk (.tail _ (.tail _ (.head _))) rfl)) ?_
  refine tp rfl (lv_fieldAddr (o' := 1) Tryd.underlying33 rfl Tryd.sizeOf3 rfl rfl) ?_
  refine tp rfl (lv_load Tryd.isAgg3 rfl (gives_blk (.tail _ (.tail _ (.head _))) rfl)) ?_
  refine t_f1 ?_
  refine tc rfl (en_fn Tryd.call17 rfl) (raised_ok us e0 e1 (by first | rfl | omega | (simp; done) | (simp; omega)) (Rd.cons (Rd.cons rdrb)) (fun hz => (fun hz => okrb (by omega)) (by first | exact hz | omega)) (by first | rfl | omega | (simp; done) | (simp; omega)) (Tab.cons (Tab.cons hT))) ?_
  rintro _ _ ⟨bs7, cp8, hok9, hle10, rfl, rfl⟩
  refine tp rfl (lv_assign rfl) ?_
  refine t_done ?_
  refine q_then_n (hK8 _ _ ?_)
  refine c_seq (fun K9 hK9 => ?_)
  refine c_region ?_
  refine tp rfl (lv_move rfl) ?_
  refine tp rfl (lv_fieldAddr (o' := 0) Tryd.underlying33 rfl Tryd.sizeOf3 rfl rfl) ?_
  refine tp rfl (lv_load Tryd.isAgg3 rfl (gives_blk (.tail _ (.tail _ (.tail _ (.head _)))) rfl)) ?_
  refine tp rfl (lv_fieldAddr (o' := 1) Tryd.underlying33 rfl Tryd.sizeOf3 rfl rfl) ?_
  refine tp rfl (lv_load Tryd.isAgg3 rfl (gives_blk (.tail _ (.tail _ (.tail _ (.head _)))) rfl)) ?_
  refine t_f1 ?_
  refine tc rfl (en_fn Tryd.call19 rfl) (add_ok (N := NN) (es := EE) e0 e1) ?_
  rintro _ _ ⟨rfl, rfl⟩
  refine tp rfl (lv_move rfl) ?_
  refine tp rfl (lv_extract rfl rfl) ?_
  refine tp rfl (lv_extract rfl rfl) ?_
  refine tp rfl (lv_assign rfl) ?_
  refine tp rfl (lv_assign rfl) ?_
  refine t_done ?_
  refine q_then_n (hK9 _ _ ?_)
  refine c_seq (fun K10 hK10 => ?_)
  refine c_region ?_
  refine tp rfl (lv_move rfl) ?_
  refine tp rfl (lv_move rfl) ?_
  refine tc rfl (en_fn Tryd.call15 rfl) (of_ok us (by first | rfl | omega | (simp; done) | (simp; omega)) (Rd.cons (Rd.cons (Rd.cons rdrb))) (fun hz => (fun hz => okrb (by omega)) (by first | exact hz | omega)) (by first | rfl | omega | (simp; done) | (simp; omega)) (Tab.cons (Tab.cons (Tab.cons hT)))) ?_
  rintro _ _ ⟨bs11, cp12, hok13, hle14, rfl, rfl⟩
  refine tp rfl (lv_assign rfl) ?_
  refine t_done ?_
  refine q_then_n (hK10 _ _ ?_)
  refine c_seq (fun K11 hK11 => ?_)
  refine c_seq (fun K12 hK12 => ?_)
  refine c_region ?_
  refine tp rfl (lv_move rfl) ?_
  refine tp rfl (lv_len Tryd.underlying38 rfl rfl) ?_
  refine tp rfl (lv_move rfl) ?_
  refine tp rfl (lv_len Tryd.underlying38 rfl rfl) ?_
  refine tp rfl (lv_neq rfl rfl (bne_eq_false_iff_eq.2 rfl)) ?_
  refine tp rfl (lv_move rfl) ?_
  refine t_guard rfl rfl ?_
  refine tp rfl (lv_move rfl) ?_
  refine t_guard rfl rfl ?_
  by_cases h15 : (addErr NN e0 e1) = 0
  · -- yes
    refine tp rfl (lv_neq rfl rfl (bne_eq_false_iff_eq.2 h15)) ?_
    refine t_guard rfl rfl ?_
    refine tp rfl (lv_move rfl) ?_
    refine t_skip rfl rfl rfl ?_
    refine t_skip rfl rfl rfl ?_
    refine t_skip rfl rfl rfl ?_
    refine t_guard rfl rfl ?_
    refine tp rfl (lv_pick_f rfl rfl) ?_
    refine tp rfl (lv_pick_f rfl rfl) ?_
    refine t_done ?_
    refine q_then_n (hK12 _ _ ?_)
    refine c_false rfl ?_
    refine c_skip ?_
    refine q_then_n (hK11 _ _ ?_)
    refine c_seq (fun K13 hK13 => ?_)
    refine c_region ?_
    refine tp rfl (lv_buildArr0 (cs := (bools (List.replicate 64 false))) Tryd.underlying49 Tryd.zeroValue49 Tryd.sizeOf4 rfl) ?_
    refine tm rfl (mv_alloc (cs := (bools (List.replicate 64 false))) Tryd.zeroValue49 rfl) ?_
    rintro _ _ ⟨b16, rfl, rfl⟩
    refine ts (sv_blkAgg (news := (bools (List.replicate 64 false))) (cs' := (bools (List.replicate 64 false))) Tryd.sizeOf49 rfl rfl rfl (by decide) (by decide) rfl) ?_
    refine t_done ?_
    refine q_then_n (hK13 _ _ ?_)
    refine c_seq (fun K14 hK14 => ?_)
    refine c_seq (fun K15 hK15 => ?_)
    refine c_region ?_
    refine tp rfl (lv_assign rfl) ?_
    refine t_done ?_
    refine q_then_n (hK15 _ _ ?_)
    refine c_block ?_
    refine c_loop (γ := (Nat) × (List Bool)) (fun (i, bs) => i ≤ (raisedL NN EE us e0 e1).length ∧ MkN 64 (raisedL NN EE us e0 e1) i bs) (fun (i, bs) => [(0, (.int .i64 n)), (1, (.slice beb es.length ceb)), (2, (.slice brb n1 crb)), (3, (.agg #[(.int .i64 e0), (.int .i64 e1)])), (7, (.pointer (some ⟨b1, 0, none⟩))), (9, (.bool true)), (10, (.pointer (some ⟨p2, 0, none⟩))), (11, (.slice bs3 NN cp4)), (12, (.slice bs7 ((raisedL NN EE us e0 e1).length) cp8)), (14, (.int .i64 (addErr NN e0 e1))), (15, (.slice bs11 NN cp12)), (16, (.pointer (some ⟨b16, 0, none⟩))), (17, (.int .i64 ((i : Nat) : Int))), (24, (.bool false)), (65, (.bool false))]) (fun (i, bs) => (Blk b16 (bools bs) 49) :: (SlV 3 1 (.slice bs11 NN cp12) NN (ints .i64 (ofL NN (addE NN EE e0 e1) us))) :: (GraphO p2 NN (addE NN EE e0 e1)) :: (SlV 3 1 (.slice bs7 ((raisedL NN EE us e0 e1).length) cp8) ((raisedL NN EE us e0 e1).length) (ints .i64 (raisedL NN EE us e0 e1))) :: (SlV 3 1 (.slice bs3 NN cp4) NN (ints .i64 (ofL NN EE us))) :: (Blk b1 [(.int .i64 e0), (.int .i64 e1)] 33) :: R) (fun (i, bs) => (raisedL NN EE us e0 e1).length - i) (0, List.replicate 64 false) ⟨by omega, MkN.zero 64 _⟩ ⟨rfl, rfl, rfl, rfl, rfl, rfl, rfl, rfl, rfl, rfl, rfl, rfl, rfl, rfl, rfl, trivial⟩ (fun _ h => h) ?_
    rintro ⟨i, bs⟩ K16 hF hK16
    try dsimp only at hF hK16 ⊢
    obtain ⟨hi, hmk⟩ := hF
    have hul := raisedL_len NN EE us e0 e1
    have hbsl := hmk.len
    have hl0 := ofL_len NN EE us
    have hl2 := ofL_len NN (addE NN EE e0 e1) us
    refine c_seq (fun K17 hK17 => ?_)
    refine c_seq (fun K18 hK18 => ?_)
    refine c_region ?_
    refine tp rfl (lv_move rfl) ?_
    refine tp rfl (lv_move rfl) ?_
    refine tp rfl (lv_len Tryd.underlying38 rfl rfl) ?_
    by_cases h17 : ((i : Nat) : Int) < (((raisedL NN EE us e0 e1).length : Nat) : Int)
    · -- yes
      refine tp rfl (lv_lss rfl rfl (decide_eq_true h17)) ?_
      refine t_done ?_
      refine q_then_n (hK18 _ _ ?_)
      refine c_true rfl ?_
      refine c_skip ?_
      refine q_then_n (hK17 _ _ ?_)
      refine c_seq (fun K19 hK19 => ?_)
      refine c_block ?_
      refine c_seq (fun K20 hK20 => ?_)
      refine c_seq (fun K21 hK21 => ?_)
      obtain ⟨hva, hvb, hyb, hyr, hyl⟩ := raised_at (show i < (raisedL NN EE us e0 e1).length by omega)
      have hab := valid_iff.1 hva
      have hup := fun h0 => raised_up (N := NN) (E := EE) (rs := us) (a := e0) (b := e1) h0 (show i < (raisedL NN EE us e0 e1).length by omega)
      by_cases h18 : ((i : Nat) : Int) > 0
      · -- yes
        refine c_draw (γ := Unit) (n := 63) Tryd.mixed rfl rfl (fun _ S => True) (fun _ => [(0, 73, (.slice bs7 ((raisedL NN EE us e0 e1).length) cp8)), (1, 74, (.int .i64 ((i : Nat) : Int))), (2, 75, (.pointer (some (ad bs7 i)))), (3, 76, (.int .i64 ((raisedL NN EE us e0 e1).getD i 0))), (4, 77, (.bool false)), (5, 78, (.bool false)), (6, 79, (.slice bs7 ((raisedL NN EE us e0 e1).length) cp8)), (7, 80, (.int .i64 ((i : Nat) : Int))), (8, 81, (.pointer (some (ad bs7 i)))), (9, 82, (.int .i64 ((raisedL NN EE us e0 e1).getD i 0))), (10, 83, (.slice bs11 NN cp12)), (11, 84, (.int .i64 ((NN : Nat) : Int))), (12, 85, (.bool false)), (13, 86, (.bool false)), (14, 87, (.bool false)), (15, 88, (.slice bs7 ((raisedL NN EE us e0 e1).length) cp8)), (16, 89, (.int .i64 ((i : Nat) : Int))), (17, 90, (.pointer (some (ad bs7 i)))), (18, 91, (.int .i64 ((raisedL NN EE us e0 e1).getD i 0))), (19, 92, (.bool false)), (20, 93, (.bool false)), (21, 94, (.bool false)), (22, 95, (.int .i64 ((i : Nat) : Int))), (23, 96, (.bool true)), (24, 97, (.bool true)), (25, 98, (.slice bs7 ((raisedL NN EE us e0 e1).length) cp8)), (26, 99, (.int .i64 ((i : Nat) : Int))), (27, 100, (.int .i64 ((i - 1 : Nat) : Int))), (28, 101, (.pointer (some (ad bs7 (i - 1))))), (29, 102, (.int .i64 ((raisedL NN EE us e0 e1).getD (i - 1) 0))), (30, 103, (.slice bs7 ((raisedL NN EE us e0 e1).length) cp8)), (31, 104, (.int .i64 ((i : Nat) : Int))), (32, 105, (.pointer (some (ad bs7 i)))), (33, 106, (.int .i64 ((raisedL NN EE us e0 e1).getD i 0))), (34, 107, (.bool false)), (35, 108, (.bool false)), (36, 109, (.bool false)), (37, 110, (.bool false)), (38, 111, (.pointer (some ⟨p2, 0, none⟩))), (39, 112, (.pointer (some ⟨b1, 1, none⟩))), (40, 113, (.int .i64 e1)), (41, 114, (.slice bs7 ((raisedL NN EE us e0 e1).length) cp8)), (42, 115, (.int .i64 ((i : Nat) : Int))), (43, 116, (.pointer (some (ad bs7 i)))), (44, 117, (.int .i64 ((raisedL NN EE us e0 e1).getD i 0))), (45, 118, (.bool true)), (46, 119, (.bool false)), (47, 120, (.bool false)), (48, 121, (.bool false)), (49, 122, (.slice bs11 NN cp12)), (50, 123, (.slice bs7 ((raisedL NN EE us e0 e1).length) cp8)), (51, 124, (.int .i64 ((i : Nat) : Int))), (52, 125, (.pointer (some (ad bs7 i)))), (53, 126, (.int .i64 ((raisedL NN EE us e0 e1).getD i 0))), (54, 127, (.pointer (some (ad bs11 (((raisedL NN EE us e0 e1).getD i 0).toNat))))), (55, 128, (.int .i64 ((ofL NN (addE NN EE e0 e1) us).getD (((raisedL NN EE us e0 e1).getD i 0).toNat) 0))), (56, 129, (.slice bs11 NN cp12)), (57, 130, (.pointer (some ⟨b1, 0, none⟩))), (58, 131, (.int .i64 e0)), (59, 132, (.pointer (some (ad bs11 e0.toNat)))), (60, 133, (.int .i64 ((ofL NN (addE NN EE e0 e1) us).getD e0.toNat 0))), (61, 134, (.bool false)), (62, 135, (.bool false))]) (fun _ S => (Blk b16 (bools bs) 49) :: (SlV 3 1 (.slice bs11 NN cp12) NN (ints .i64 (ofL NN (addE NN EE e0 e1) us))) :: (GraphO p2 NN (addE NN EE e0 e1)) :: (SlV 3 1 (.slice bs7 ((raisedL NN EE us e0 e1).length) cp8) ((raisedL NN EE us e0 e1).length) (ints .i64 (raisedL NN EE us e0 e1))) :: (SlV 3 1 (.slice bs3 NN cp4) NN (ints .i64 (ofL NN EE us))) :: (Blk b1 [(.int .i64 e0), (.int .i64 e1)] 33) :: R) (()) trivial (fun _ h => h) (fun _ _ h => h) ?_ ?_
        · -- steps
         refine ⟨?_, ?_, ?_, ?_, ?_, ?_, ?_, ?_, ?_, ?_, ?_, ?_, ?_, ?_, ?_, ?_, ?_, ?_, ?_, ?_, ?_, ?_, ?_, ?_, ?_, ?_, ?_, ?_, ?_, ?_, ?_, ?_, ?_, ?_, ?_, ?_, ?_, ?_, ?_, ?_, ?_, ?_, ?_, ?_, ?_, ?_, ?_, ?_, ?_, ?_, ?_, ?_, ?_, ?_, ?_, ?_, ?_, ?_, ?_, ?_, ?_, ?_, ?_, trivial⟩
         · -- 0
          rintro _ S hF hS D hp K hK
          try dsimp only at hF ⊢
          refine d_need (small := [(12, (.slice bs7 ((raisedL NN EE us e0 e1).length) cp8))]) ⟨look_b rfl rfl, trivial⟩ ?_
          refine tp rfl (lv_move rfl) ?_
          exact d_closes ⟨look_b rfl rfl, trivial⟩ 0 rfl rfl rfl hS (AgreeR.refl _) (t_sat (fun _ h => h) (hK () trivial))
         · -- 1
          rintro _ S hF hS D hp K hK
          try dsimp only at hF ⊢
          refine d_need (small := [(17, (.int .i64 ((i : Nat) : Int)))]) ⟨look_b rfl rfl, trivial⟩ ?_
          refine tp rfl (lv_move rfl) ?_
          exact d_closes ⟨look_b rfl rfl, trivial⟩ 1 rfl rfl rfl hS (AgreeR.refl _) (t_sat (fun _ h => h) (hK () trivial))
         · -- 2
          rintro _ S hF hS D hp K hK
          try dsimp only at hF ⊢
          have s0 := hp 0 rfl
          have s1 := hp 1 rfl
          refine d_need (small := [(73, (.slice bs7 ((raisedL NN EE us e0 e1).length) cp8)), (74, (.int .i64 ((i : Nat) : Int)))]) ⟨look_row rfl 0 rfl s0, look_row rfl 1 rfl s1, trivial⟩ ?_
          refine tp rfl (lv_indexAddr (k' := i) Tryd.underlying38 Tryd.sizeOf3 rfl rfl hok9 (by omega) (by omega) (by omega)) ?_
          exact d_closes ⟨look_row rfl 0 rfl s0, look_row rfl 1 rfl s1, trivial⟩ 2 rfl rfl rfl hS (AgreeR.refl _) (t_sat (fun _ h => h) (hK () trivial))
         · -- 3
          rintro _ S hF hS D hp K hK
          try dsimp only at hF ⊢
          have s2 := hp 2 rfl
          refine d_need (small := [(75, (.pointer (some (ad bs7 i))))]) ⟨look_row rfl 2 rfl s2, trivial⟩ ?_
          refine tp rfl (lv_load Tryd.isAgg3 rfl (gives_sl (.tail _ (.tail _ (.tail _ (.head _)))) (ints_get (by omega)))) ?_
          exact d_closes ⟨look_row rfl 2 rfl s2, trivial⟩ 3 rfl rfl rfl hS (AgreeR.refl _) (t_sat (fun _ h => h) (hK () trivial))
         · -- 4
          rintro _ S hF hS D hp K hK
          try dsimp only at hF ⊢
          have s3 := hp 3 rfl
          refine d_need (small := [(76, (.int .i64 ((raisedL NN EE us e0 e1).getD i 0)))]) ⟨look_row rfl 3 rfl s3, trivial⟩ ?_
          refine tp rfl (lv_lss rfl rfl (decide_eq_false (by omega))) ?_
          exact d_closes ⟨look_row rfl 3 rfl s3, trivial⟩ 4 rfl rfl rfl hS (AgreeR.refl _) (t_sat (fun _ h => h) (hK () trivial))
         · -- 5
          rintro _ S hF hS D hp K hK
          try dsimp only at hF ⊢
          have s4 := hp 4 rfl
          refine d_need (small := [(77, (.bool false))]) ⟨look_row rfl 4 rfl s4, trivial⟩ ?_
          refine tp rfl (lv_move rfl) ?_
          exact d_closes ⟨look_row rfl 4 rfl s4, trivial⟩ 5 rfl rfl rfl hS (AgreeR.refl _) (t_sat (fun _ h => h) (hK () trivial))
         · -- 6
          rintro _ S hF hS D hp K hK
          try dsimp only at hF ⊢
          have s5 := hp 5 rfl
          refine d_need (small := [(12, (.slice bs7 ((raisedL NN EE us e0 e1).length) cp8)), (78, (.bool false))]) ⟨look_b rfl rfl, look_row rfl 5 rfl s5, trivial⟩ ?_
          refine t_guard rfl rfl ?_
          refine tp rfl (lv_move rfl) ?_
          exact d_closes ⟨look_b rfl rfl, look_row rfl 5 rfl s5, trivial⟩ 6 rfl rfl rfl hS (AgreeR.refl _) (t_sat (fun _ h => h) (hK () trivial))
         · -- 7
          rintro _ S hF hS D hp K hK
          try dsimp only at hF ⊢
          have s5 := hp 5 rfl
          refine d_need (small := [(17, (.int .i64 ((i : Nat) : Int))), (78, (.bool false))]) ⟨look_b rfl rfl, look_row rfl 5 rfl s5, trivial⟩ ?_
          refine t_guard rfl rfl ?_
          refine tp rfl (lv_move rfl) ?_
          exact d_closes ⟨look_b rfl rfl, look_row rfl 5 rfl s5, trivial⟩ 7 rfl rfl rfl hS (AgreeR.refl _) (t_sat (fun _ h => h) (hK () trivial))
         · -- 8
          rintro _ S hF hS D hp K hK
          try dsimp only at hF ⊢
          have s5 := hp 5 rfl
          have s6 := hp 6 rfl
          have s7 := hp 7 rfl
          refine d_need (small := [(78, (.bool false)), (79, (.slice bs7 ((raisedL NN EE us e0 e1).length) cp8)), (80, (.int .i64 ((i : Nat) : Int)))]) ⟨look_row rfl 5 rfl s5, look_row rfl 6 rfl s6, look_row rfl 7 rfl s7, trivial⟩ ?_
          refine t_guard rfl rfl ?_
          refine tp rfl (lv_indexAddr (k' := i) Tryd.underlying38 Tryd.sizeOf3 rfl rfl hok9 (by omega) (by omega) (by omega)) ?_
          exact d_closes ⟨look_row rfl 5 rfl s5, look_row rfl 6 rfl s6, look_row rfl 7 rfl s7, trivial⟩ 8 rfl rfl rfl hS (AgreeR.refl _) (t_sat (fun _ h => h) (hK () trivial))
         · -- 9
          rintro _ S hF hS D hp K hK
          try dsimp only at hF ⊢
          have s5 := hp 5 rfl
          have s8 := hp 8 rfl
          refine d_need (small := [(78, (.bool false)), (81, (.pointer (some (ad bs7 i))))]) ⟨look_row rfl 5 rfl s5, look_row rfl 8 rfl s8, trivial⟩ ?_
          refine t_guard rfl rfl ?_
          refine tp rfl (lv_load Tryd.isAgg3 rfl (gives_sl (.tail _ (.tail _ (.tail _ (.head _)))) (ints_get (by omega)))) ?_
          exact d_closes ⟨look_row rfl 5 rfl s5, look_row rfl 8 rfl s8, trivial⟩ 9 rfl rfl rfl hS (AgreeR.refl _) (t_sat (fun _ h => h) (hK () trivial))
         · -- 10
          rintro _ S hF hS D hp K hK
          try dsimp only at hF ⊢
          have s5 := hp 5 rfl
          refine d_need (small := [(15, (.slice bs11 NN cp12)), (78, (.bool false))]) ⟨look_b rfl rfl, look_row rfl 5 rfl s5, trivial⟩ ?_
          refine t_guard rfl rfl ?_
          refine tp rfl (lv_move rfl) ?_
          exact d_closes ⟨look_b rfl rfl, look_row rfl 5 rfl s5, trivial⟩ 10 rfl rfl rfl hS (AgreeR.refl _) (t_sat (fun _ h => h) (hK () trivial))
         · -- 11
          rintro _ S hF hS D hp K hK
          try dsimp only at hF ⊢
          have s5 := hp 5 rfl
          have s10 := hp 10 rfl
          refine d_need (small := [(78, (.bool false)), (83, (.slice bs11 NN cp12))]) ⟨look_row rfl 5 rfl s5, look_row rfl 10 rfl s10, trivial⟩ ?_
          refine t_guard rfl rfl ?_
          refine tp rfl (lv_len Tryd.underlying38 rfl rfl) ?_
          exact d_closes ⟨look_row rfl 5 rfl s5, look_row rfl 10 rfl s10, trivial⟩ 11 rfl rfl rfl hS (AgreeR.refl _) (t_sat (fun _ h => h) (hK () trivial))
         · -- 12
          rintro _ S hF hS D hp K hK
          try dsimp only at hF ⊢
          have s5 := hp 5 rfl
          have s9 := hp 9 rfl
          have s11 := hp 11 rfl
          refine d_need (small := [(78, (.bool false)), (82, (.int .i64 ((raisedL NN EE us e0 e1).getD i 0))), (84, (.int .i64 ((NN : Nat) : Int)))]) ⟨look_row rfl 5 rfl s5, look_row rfl 9 rfl s9, look_row rfl 11 rfl s11, trivial⟩ ?_
          refine t_guard rfl rfl ?_
          refine tp rfl (lv_geq rfl rfl (decide_eq_false (by omega))) ?_
          exact d_closes ⟨look_row rfl 5 rfl s5, look_row rfl 9 rfl s9, look_row rfl 11 rfl s11, trivial⟩ 12 rfl rfl rfl hS (AgreeR.refl _) (t_sat (fun _ h => h) (hK () trivial))
         · -- 13
          rintro _ S hF hS D hp K hK
          try dsimp only at hF ⊢
          have s5 := hp 5 rfl
          have s12 := hp 12 rfl
          refine d_need (small := [(78, (.bool false)), (85, (.bool false))]) ⟨look_row rfl 5 rfl s5, look_row rfl 12 rfl s12, trivial⟩ ?_
          refine tp rfl (lv_pick_f rfl rfl) ?_
          exact d_closes ⟨look_row rfl 5 rfl s5, look_row rfl 12 rfl s12, trivial⟩ 13 rfl rfl rfl hS (AgreeR.refl _) (t_sat (fun _ h => h) (hK () trivial))
         · -- 14
          rintro _ S hF hS D hp K hK
          try dsimp only at hF ⊢
          have s13 := hp 13 rfl
          refine d_need (small := [(86, (.bool false))]) ⟨look_row rfl 13 rfl s13, trivial⟩ ?_
          refine tp rfl (lv_move rfl) ?_
          exact d_closes ⟨look_row rfl 13 rfl s13, trivial⟩ 14 rfl rfl rfl hS (AgreeR.refl _) (t_sat (fun _ h => h) (hK () trivial))
         · -- 15
          rintro _ S hF hS D hp K hK
          try dsimp only at hF ⊢
          have s14 := hp 14 rfl
          refine d_need (small := [(12, (.slice bs7 ((raisedL NN EE us e0 e1).length) cp8)), (87, (.bool false))]) ⟨look_b rfl rfl, look_row rfl 14 rfl s14, trivial⟩ ?_
          refine t_guard rfl rfl ?_
          refine tp rfl (lv_move rfl) ?_
          exact d_closes ⟨look_b rfl rfl, look_row rfl 14 rfl s14, trivial⟩ 15 rfl rfl rfl hS (AgreeR.refl _) (t_sat (fun _ h => h) (hK () trivial))
         · -- 16
          rintro _ S hF hS D hp K hK
          try dsimp only at hF ⊢
          have s14 := hp 14 rfl
          refine d_need (small := [(17, (.int .i64 ((i : Nat) : Int))), (87, (.bool false))]) ⟨look_b rfl rfl, look_row rfl 14 rfl s14, trivial⟩ ?_
          refine t_guard rfl rfl ?_
          refine tp rfl (lv_move rfl) ?_
          exact d_closes ⟨look_b rfl rfl, look_row rfl 14 rfl s14, trivial⟩ 16 rfl rfl rfl hS (AgreeR.refl _) (t_sat (fun _ h => h) (hK () trivial))
         · -- 17
          rintro _ S hF hS D hp K hK
          try dsimp only at hF ⊢
          have s14 := hp 14 rfl
          have s15 := hp 15 rfl
          have s16 := hp 16 rfl
          refine d_need (small := [(87, (.bool false)), (88, (.slice bs7 ((raisedL NN EE us e0 e1).length) cp8)), (89, (.int .i64 ((i : Nat) : Int)))]) ⟨look_row rfl 14 rfl s14, look_row rfl 15 rfl s15, look_row rfl 16 rfl s16, trivial⟩ ?_
          refine t_guard rfl rfl ?_
          refine tp rfl (lv_indexAddr (k' := i) Tryd.underlying38 Tryd.sizeOf3 rfl rfl hok9 (by omega) (by omega) (by omega)) ?_
          exact d_closes ⟨look_row rfl 14 rfl s14, look_row rfl 15 rfl s15, look_row rfl 16 rfl s16, trivial⟩ 17 rfl rfl rfl hS (AgreeR.refl _) (t_sat (fun _ h => h) (hK () trivial))
         · -- 18
          rintro _ S hF hS D hp K hK
          try dsimp only at hF ⊢
          have s14 := hp 14 rfl
          have s17 := hp 17 rfl
          refine d_need (small := [(87, (.bool false)), (90, (.pointer (some (ad bs7 i))))]) ⟨look_row rfl 14 rfl s14, look_row rfl 17 rfl s17, trivial⟩ ?_
          refine t_guard rfl rfl ?_
          refine tp rfl (lv_load Tryd.isAgg3 rfl (gives_sl (.tail _ (.tail _ (.tail _ (.head _)))) (ints_get (by first | omega | (simp; omega))))) ?_
          exact d_closes ⟨look_row rfl 14 rfl s14, look_row rfl 17 rfl s17, trivial⟩ 18 rfl rfl rfl hS (AgreeR.refl _) (t_sat (fun _ h => h) (hK () trivial))
         · -- 19
          rintro _ S hF hS D hp K hK
          try dsimp only at hF ⊢
          have s14 := hp 14 rfl
          have s18 := hp 18 rfl
          refine d_need (small := [(87, (.bool false)), (91, (.int .i64 ((raisedL NN EE us e0 e1).getD i 0)))]) ⟨look_row rfl 14 rfl s14, look_row rfl 18 rfl s18, trivial⟩ ?_
          refine t_guard rfl rfl ?_
          refine tp rfl (lv_geq rfl rfl (decide_eq_false (by omega))) ?_
          exact d_closes ⟨look_row rfl 14 rfl s14, look_row rfl 18 rfl s18, trivial⟩ 19 rfl rfl rfl hS (AgreeR.refl _) (t_sat (fun _ h => h) (hK () trivial))
         · -- 20
          rintro _ S hF hS D hp K hK
          try dsimp only at hF ⊢
          have s14 := hp 14 rfl
          have s19 := hp 19 rfl
          refine d_need (small := [(87, (.bool false)), (92, (.bool false))]) ⟨look_row rfl 14 rfl s14, look_row rfl 19 rfl s19, trivial⟩ ?_
          refine tp rfl (lv_pick_f rfl rfl) ?_
          exact d_closes ⟨look_row rfl 14 rfl s14, look_row rfl 19 rfl s19, trivial⟩ 20 rfl rfl rfl hS (AgreeR.refl _) (t_sat (fun _ h => h) (hK () trivial))
         · -- 21
          rintro _ S hF hS D hp K hK
          try dsimp only at hF ⊢
          have s20 := hp 20 rfl
          refine d_need (small := [(93, (.bool false))]) ⟨look_row rfl 20 rfl s20, trivial⟩ ?_
          refine tp rfl (lv_move rfl) ?_
          exact d_closes ⟨look_row rfl 20 rfl s20, trivial⟩ 21 rfl rfl rfl hS (AgreeR.refl _) (t_sat (fun _ h => h) (hK () trivial))
         · -- 22
          rintro _ S hF hS D hp K hK
          try dsimp only at hF ⊢
          have s21 := hp 21 rfl
          refine d_need (small := [(17, (.int .i64 ((i : Nat) : Int))), (94, (.bool false))]) ⟨look_b rfl rfl, look_row rfl 21 rfl s21, trivial⟩ ?_
          refine t_guard rfl rfl ?_
          refine tp rfl (lv_move rfl) ?_
          exact d_closes ⟨look_b rfl rfl, look_row rfl 21 rfl s21, trivial⟩ 22 rfl rfl rfl hS (AgreeR.refl _) (t_sat (fun _ h => h) (hK () trivial))
         · -- 23
          rintro _ S hF hS D hp K hK
          try dsimp only at hF ⊢
          have s21 := hp 21 rfl
          have s22 := hp 22 rfl
          refine d_need (small := [(94, (.bool false)), (95, (.int .i64 ((i : Nat) : Int)))]) ⟨look_row rfl 21 rfl s21, look_row rfl 22 rfl s22, trivial⟩ ?_
          refine t_guard rfl rfl ?_
          refine tp rfl (lv_gtr rfl rfl (decide_eq_true h18)) ?_
          exact d_closes ⟨look_row rfl 21 rfl s21, look_row rfl 22 rfl s22, trivial⟩ 23 rfl rfl rfl hS (AgreeR.refl _) (t_sat (fun _ h => h) (hK () trivial))
         · -- 24
          rintro _ S hF hS D hp K hK
          try dsimp only at hF ⊢
          have s21 := hp 21 rfl
          have s23 := hp 23 rfl
          refine d_need (small := [(94, (.bool false)), (96, (.bool true))]) ⟨look_row rfl 21 rfl s21, look_row rfl 23 rfl s23, trivial⟩ ?_
          refine t_guard rfl rfl ?_
          refine tp rfl (lv_move rfl) ?_
          exact d_closes ⟨look_row rfl 21 rfl s21, look_row rfl 23 rfl s23, trivial⟩ 24 rfl rfl rfl hS (AgreeR.refl _) (t_sat (fun _ h => h) (hK () trivial))
         · -- 25
          rintro _ S hF hS D hp K hK
          try dsimp only at hF ⊢
          have s24 := hp 24 rfl
          refine d_need (small := [(12, (.slice bs7 ((raisedL NN EE us e0 e1).length) cp8)), (97, (.bool true))]) ⟨look_b rfl rfl, look_row rfl 24 rfl s24, trivial⟩ ?_
          refine t_guard rfl rfl ?_
          refine tp rfl (lv_move rfl) ?_
          exact d_closes ⟨look_b rfl rfl, look_row rfl 24 rfl s24, trivial⟩ 25 rfl rfl rfl hS (AgreeR.refl _) (t_sat (fun _ h => h) (hK () trivial))
         · -- 26
          rintro _ S hF hS D hp K hK
          try dsimp only at hF ⊢
          have s24 := hp 24 rfl
          refine d_need (small := [(17, (.int .i64 ((i : Nat) : Int))), (97, (.bool true))]) ⟨look_b rfl rfl, look_row rfl 24 rfl s24, trivial⟩ ?_
          refine t_guard rfl rfl ?_
          refine tp rfl (lv_move rfl) ?_
          exact d_closes ⟨look_b rfl rfl, look_row rfl 24 rfl s24, trivial⟩ 26 rfl rfl rfl hS (AgreeR.refl _) (t_sat (fun _ h => h) (hK () trivial))
         · -- 27
          rintro _ S hF hS D hp K hK
          try dsimp only at hF ⊢
          have s24 := hp 24 rfl
          have s26 := hp 26 rfl
          refine d_need (small := [(97, (.bool true)), (99, (.int .i64 ((i : Nat) : Int)))]) ⟨look_row rfl 24 rfl s24, look_row rfl 26 rfl s26, trivial⟩ ?_
          refine t_guard rfl rfl ?_
          refine tp rfl (lv_sub (c := ((i - 1 : Nat) : Int)) rfl rfl ((wr_i64 (by omega) (by omega)).trans (by omega))) ?_
          exact d_closes ⟨look_row rfl 24 rfl s24, look_row rfl 26 rfl s26, trivial⟩ 27 rfl rfl rfl hS (AgreeR.refl _) (t_sat (fun _ h => h) (hK () trivial))
         · -- 28
          rintro _ S hF hS D hp K hK
          try dsimp only at hF ⊢
          have s24 := hp 24 rfl
          have s25 := hp 25 rfl
          have s27 := hp 27 rfl
          refine d_need (small := [(97, (.bool true)), (98, (.slice bs7 ((raisedL NN EE us e0 e1).length) cp8)), (100, (.int .i64 ((i - 1 : Nat) : Int)))]) ⟨look_row rfl 24 rfl s24, look_row rfl 25 rfl s25, look_row rfl 27 rfl s27, trivial⟩ ?_
          refine t_guard rfl rfl ?_
          refine tp rfl (lv_indexAddr (k' := i - 1) Tryd.underlying38 Tryd.sizeOf3 rfl rfl hok9 (by omega) (by omega) (by omega)) ?_
          exact d_closes ⟨look_row rfl 24 rfl s24, look_row rfl 25 rfl s25, look_row rfl 27 rfl s27, trivial⟩ 28 rfl rfl rfl hS (AgreeR.refl _) (t_sat (fun _ h => h) (hK () trivial))
         · -- 29
          rintro _ S hF hS D hp K hK
          try dsimp only at hF ⊢
          have s24 := hp 24 rfl
          have s28 := hp 28 rfl
          refine d_need (small := [(97, (.bool true)), (101, (.pointer (some (ad bs7 (i - 1)))))]) ⟨look_row rfl 24 rfl s24, look_row rfl 28 rfl s28, trivial⟩ ?_
          refine t_guard rfl rfl ?_
          refine tp rfl (lv_load Tryd.isAgg3 rfl (gives_sl (.tail _ (.tail _ (.tail _ (.head _)))) (ints_get (by omega)))) ?_
          exact d_closes ⟨look_row rfl 24 rfl s24, look_row rfl 28 rfl s28, trivial⟩ 29 rfl rfl rfl hS (AgreeR.refl _) (t_sat (fun _ h => h) (hK () trivial))
         · -- 30
          rintro _ S hF hS D hp K hK
          try dsimp only at hF ⊢
          have s24 := hp 24 rfl
          refine d_need (small := [(12, (.slice bs7 ((raisedL NN EE us e0 e1).length) cp8)), (97, (.bool true))]) ⟨look_b rfl rfl, look_row rfl 24 rfl s24, trivial⟩ ?_
          refine t_guard rfl rfl ?_
          refine tp rfl (lv_move rfl) ?_
          exact d_closes ⟨look_b rfl rfl, look_row rfl 24 rfl s24, trivial⟩ 30 rfl rfl rfl hS (AgreeR.refl _) (t_sat (fun _ h => h) (hK () trivial))
         · -- 31
          rintro _ S hF hS D hp K hK
          try dsimp only at hF ⊢
          have s24 := hp 24 rfl
          refine d_need (small := [(17, (.int .i64 ((i : Nat) : Int))), (97, (.bool true))]) ⟨look_b rfl rfl, look_row rfl 24 rfl s24, trivial⟩ ?_
          refine t_guard rfl rfl ?_
          refine tp rfl (lv_move rfl) ?_
          exact d_closes ⟨look_b rfl rfl, look_row rfl 24 rfl s24, trivial⟩ 31 rfl rfl rfl hS (AgreeR.refl _) (t_sat (fun _ h => h) (hK () trivial))
         · -- 32
          rintro _ S hF hS D hp K hK
          try dsimp only at hF ⊢
          have s24 := hp 24 rfl
          have s30 := hp 30 rfl
          have s31 := hp 31 rfl
          refine d_need (small := [(97, (.bool true)), (103, (.slice bs7 ((raisedL NN EE us e0 e1).length) cp8)), (104, (.int .i64 ((i : Nat) : Int)))]) ⟨look_row rfl 24 rfl s24, look_row rfl 30 rfl s30, look_row rfl 31 rfl s31, trivial⟩ ?_
          refine t_guard rfl rfl ?_
          refine tp rfl (lv_indexAddr (k' := i) Tryd.underlying38 Tryd.sizeOf3 rfl rfl hok9 (by omega) (by omega) (by omega)) ?_
          exact d_closes ⟨look_row rfl 24 rfl s24, look_row rfl 30 rfl s30, look_row rfl 31 rfl s31, trivial⟩ 32 rfl rfl rfl hS (AgreeR.refl _) (t_sat (fun _ h => h) (hK () trivial))
         · -- 33
          rintro _ S hF hS D hp K hK
          try dsimp only at hF ⊢
          have s24 := hp 24 rfl
          have s32 := hp 32 rfl
          refine d_need (small := [(97, (.bool true)), (105, (.pointer (some (ad bs7 i))))]) ⟨look_row rfl 24 rfl s24, look_row rfl 32 rfl s32, trivial⟩ ?_
          refine t_guard rfl rfl ?_
          refine tp rfl (lv_load Tryd.isAgg3 rfl (gives_sl (.tail _ (.tail _ (.tail _ (.head _)))) (ints_get (by omega)))) ?_
          exact d_closes ⟨look_row rfl 24 rfl s24, look_row rfl 32 rfl s32, trivial⟩ 33 rfl rfl rfl hS (AgreeR.refl _) (t_sat (fun _ h => h) (hK () trivial))
         · -- 34
          rintro _ S hF hS D hp K hK
          try dsimp only at hF ⊢
          have s24 := hp 24 rfl
          have s29 := hp 29 rfl
          have s33 := hp 33 rfl
          refine d_need (small := [(97, (.bool true)), (102, (.int .i64 ((raisedL NN EE us e0 e1).getD (i - 1) 0))), (106, (.int .i64 ((raisedL NN EE us e0 e1).getD i 0)))]) ⟨look_row rfl 24 rfl s24, look_row rfl 29 rfl s29, look_row rfl 33 rfl s33, trivial⟩ ?_
          refine t_guard rfl rfl ?_
          refine tp rfl (lv_geq rfl rfl (decide_eq_false (by have := hup (by omega); omega))) ?_
          exact d_closes ⟨look_row rfl 24 rfl s24, look_row rfl 29 rfl s29, look_row rfl 33 rfl s33, trivial⟩ 34 rfl rfl rfl hS (AgreeR.refl _) (t_sat (fun _ h => h) (hK () trivial))
         · -- 35
          rintro _ S hF hS D hp K hK
          try dsimp only at hF ⊢
          have s21 := hp 21 rfl
          have s24 := hp 24 rfl
          have s34 := hp 34 rfl
          refine d_need (small := [(94, (.bool false)), (97, (.bool true)), (107, (.bool false))]) ⟨look_row rfl 21 rfl s21, look_row rfl 24 rfl s24, look_row rfl 34 rfl s34, trivial⟩ ?_
          refine t_guard rfl rfl ?_
          refine tp rfl (lv_pick_t rfl rfl) ?_
          exact d_closes ⟨look_row rfl 21 rfl s21, look_row rfl 24 rfl s24, look_row rfl 34 rfl s34, trivial⟩ 35 rfl rfl rfl hS (AgreeR.refl _) (t_sat (fun _ h => h) (hK () trivial))
         · -- 36
          rintro _ S hF hS D hp K hK
          try dsimp only at hF ⊢
          have s21 := hp 21 rfl
          have s35 := hp 35 rfl
          refine d_need (small := [(94, (.bool false)), (108, (.bool false))]) ⟨look_row rfl 21 rfl s21, look_row rfl 35 rfl s35, trivial⟩ ?_
          refine tp rfl (lv_pick_f rfl rfl) ?_
          exact d_closes ⟨look_row rfl 21 rfl s21, look_row rfl 35 rfl s35, trivial⟩ 36 rfl rfl rfl hS (AgreeR.refl _) (t_sat (fun _ h => h) (hK () trivial))
         · -- 37
          rintro _ S hF hS D hp K hK
          try dsimp only at hF ⊢
          have s36 := hp 36 rfl
          refine d_need (small := [(109, (.bool false))]) ⟨look_row rfl 36 rfl s36, trivial⟩ ?_
          refine tp rfl (lv_move rfl) ?_
          exact d_closes ⟨look_row rfl 36 rfl s36, trivial⟩ 37 rfl rfl rfl hS (AgreeR.refl _) (t_sat (fun _ h => h) (hK () trivial))
         · -- 38
          rintro _ S hF hS D hp K hK
          try dsimp only at hF ⊢
          have s37 := hp 37 rfl
          refine d_need (small := [(10, (.pointer (some ⟨p2, 0, none⟩))), (110, (.bool false))]) ⟨look_b rfl rfl, look_row rfl 37 rfl s37, trivial⟩ ?_
          refine t_guard rfl rfl ?_
          refine tp rfl (lv_move rfl) ?_
          exact d_closes ⟨look_b rfl rfl, look_row rfl 37 rfl s37, trivial⟩ 38 rfl rfl rfl hS (AgreeR.refl _) (t_sat (fun _ h => h) (hK () trivial))
         · -- 39
          rintro _ S hF hS D hp K hK
          try dsimp only at hF ⊢
          have s37 := hp 37 rfl
          refine d_need (small := [(7, (.pointer (some ⟨b1, 0, none⟩))), (110, (.bool false))]) ⟨look_b rfl rfl, look_row rfl 37 rfl s37, trivial⟩ ?_
          refine t_guard rfl rfl ?_
          refine tp rfl (lv_fieldAddr (o' := 1) Tryd.underlying33 rfl Tryd.sizeOf3 rfl rfl) ?_
          exact d_closes ⟨look_b rfl rfl, look_row rfl 37 rfl s37, trivial⟩ 39 rfl rfl rfl hS (AgreeR.refl _) (t_sat (fun _ h => h) (hK () trivial))
         · -- 40
          rintro _ S hF hS D hp K hK
          try dsimp only at hF ⊢
          have s37 := hp 37 rfl
          have s39 := hp 39 rfl
          refine d_need (small := [(110, (.bool false)), (112, (.pointer (some ⟨b1, 1, none⟩)))]) ⟨look_row rfl 37 rfl s37, look_row rfl 39 rfl s39, trivial⟩ ?_
          refine t_guard rfl rfl ?_
          refine tp rfl (lv_load Tryd.isAgg3 rfl (gives_blk (.tail _ (.tail _ (.tail _ (.tail _ (.tail _ (.head _)))))) rfl)) ?_
          exact d_closes ⟨look_row rfl 37 rfl s37, look_row rfl 39 rfl s39, trivial⟩ 40 rfl rfl rfl hS (AgreeR.refl _) (t_sat (fun _ h => h) (hK () trivial))
         · -- 41
          rintro _ S hF hS D hp K hK
          try dsimp only at hF ⊢
          have s37 := hp 37 rfl
          refine d_need (small := [(12, (.slice bs7 ((raisedL NN EE us e0 e1).length) cp8)), (110, (.bool false))]) ⟨look_b rfl rfl, look_row rfl 37 rfl s37, trivial⟩ ?_
          refine t_guard rfl rfl ?_
          refine tp rfl (lv_move rfl) ?_
          exact d_closes ⟨look_b rfl rfl, look_row rfl 37 rfl s37, trivial⟩ 41 rfl rfl rfl hS (AgreeR.refl _) (t_sat (fun _ h => h) (hK () trivial))
         · -- 42
          rintro _ S hF hS D hp K hK
          try dsimp only at hF ⊢
          have s37 := hp 37 rfl
          refine d_need (small := [(17, (.int .i64 ((i : Nat) : Int))), (110, (.bool false))]) ⟨look_b rfl rfl, look_row rfl 37 rfl s37, trivial⟩ ?_
          refine t_guard rfl rfl ?_
          refine tp rfl (lv_move rfl) ?_
          exact d_closes ⟨look_b rfl rfl, look_row rfl 37 rfl s37, trivial⟩ 42 rfl rfl rfl hS (AgreeR.refl _) (t_sat (fun _ h => h) (hK () trivial))
         · -- 43
          rintro _ S hF hS D hp K hK
          try dsimp only at hF ⊢
          have s37 := hp 37 rfl
          have s41 := hp 41 rfl
          have s42 := hp 42 rfl
          refine d_need (small := [(110, (.bool false)), (114, (.slice bs7 ((raisedL NN EE us e0 e1).length) cp8)), (115, (.int .i64 ((i : Nat) : Int)))]) ⟨look_row rfl 37 rfl s37, look_row rfl 41 rfl s41, look_row rfl 42 rfl s42, trivial⟩ ?_
          refine t_guard rfl rfl ?_
          refine tp rfl (lv_indexAddr (k' := i) Tryd.underlying38 Tryd.sizeOf3 rfl rfl hok9 (by omega) (by omega) (by omega)) ?_
          exact d_closes ⟨look_row rfl 37 rfl s37, look_row rfl 41 rfl s41, look_row rfl 42 rfl s42, trivial⟩ 43 rfl rfl rfl hS (AgreeR.refl _) (t_sat (fun _ h => h) (hK () trivial))
         · -- 44
          rintro _ S hF hS D hp K hK
          try dsimp only at hF ⊢
          have s37 := hp 37 rfl
          have s43 := hp 43 rfl
          refine d_need (small := [(110, (.bool false)), (116, (.pointer (some (ad bs7 i))))]) ⟨look_row rfl 37 rfl s37, look_row rfl 43 rfl s43, trivial⟩ ?_
          refine t_guard rfl rfl ?_
          refine tp rfl (lv_load Tryd.isAgg3 rfl (gives_sl (.tail _ (.tail _ (.tail _ (.head _)))) (ints_get (by omega)))) ?_
          exact d_closes ⟨look_row rfl 37 rfl s37, look_row rfl 43 rfl s43, trivial⟩ 44 rfl rfl rfl hS (AgreeR.refl _) (t_sat (fun _ h => h) (hK () trivial))
         · -- 45
          rintro _ S hF hS D hp K hK
          try dsimp only at hF ⊢
          have s37 := hp 37 rfl
          have s38 := hp 38 rfl
          have s40 := hp 40 rfl
          have s44 := hp 44 rfl
          refine d_need (small := [(110, (.bool false)), (111, (.pointer (some ⟨p2, 0, none⟩))), (113, (.int .i64 e1)), (117, (.int .i64 ((raisedL NN EE us e0 e1).getD i 0)))]) ⟨look_row rfl 37 rfl s37, look_row rfl 38 rfl s38, look_row rfl 40 rfl s40, look_row rfl 44 rfl s44, trivial⟩ ?_
          refine t_guard rfl rfl ?_
          refine t_f2 ?_
          refine tc rfl (en_fn Tryd.call20 rfl) (reaches_ok (N := NN) (es := addE NN EE e0 e1) e1 ((raisedL NN EE us e0 e1).getD i 0) (Tab.cons (Tab.cons (Tab.cons (Tab.cons (Tab.cons hT)))))) ?_
          rintro _ _ ⟨rfl, rfl⟩
          rw [show reachB NN (addE NN EE e0 e1) e1 ((raisedL NN EE us e0 e1).getD i 0) = true from (raised_reach (by omega))]
          refine t_f2 ?_
          refine t_f2 ?_
          exact d_closes ⟨look_row rfl 37 rfl s37, look_row rfl 38 rfl s38, look_row rfl 40 rfl s40, look_row rfl 44 rfl s44, trivial⟩ 45 rfl rfl rfl hS (AgreeR.refl _) (t_sat (fun _ h => h) (hK () trivial))
         · -- 46
          rintro _ S hF hS D hp K hK
          try dsimp only at hF ⊢
          have s37 := hp 37 rfl
          have s45 := hp 45 rfl
          refine d_need (small := [(110, (.bool false)), (118, (.bool true))]) ⟨look_row rfl 37 rfl s37, look_row rfl 45 rfl s45, trivial⟩ ?_
          refine t_guard rfl rfl ?_
          refine tp rfl (lv_not (c := false) rfl rfl) ?_
          exact d_closes ⟨look_row rfl 37 rfl s37, look_row rfl 45 rfl s45, trivial⟩ 46 rfl rfl rfl hS (AgreeR.refl _) (t_sat (fun _ h => h) (hK () trivial))
         · -- 47
          rintro _ S hF hS D hp K hK
          try dsimp only at hF ⊢
          have s37 := hp 37 rfl
          have s46 := hp 46 rfl
          refine d_need (small := [(110, (.bool false)), (119, (.bool false))]) ⟨look_row rfl 37 rfl s37, look_row rfl 46 rfl s46, trivial⟩ ?_
          refine tp rfl (lv_pick_f rfl rfl) ?_
          exact d_closes ⟨look_row rfl 37 rfl s37, look_row rfl 46 rfl s46, trivial⟩ 47 rfl rfl rfl hS (AgreeR.refl _) (t_sat (fun _ h => h) (hK () trivial))
         · -- 48
          rintro _ S hF hS D hp K hK
          try dsimp only at hF ⊢
          have s47 := hp 47 rfl
          refine d_need (small := [(120, (.bool false))]) ⟨look_row rfl 47 rfl s47, trivial⟩ ?_
          refine tp rfl (lv_move rfl) ?_
          exact d_closes ⟨look_row rfl 47 rfl s47, trivial⟩ 48 rfl rfl rfl hS (AgreeR.refl _) (t_sat (fun _ h => h) (hK () trivial))
         · -- 49
          rintro _ S hF hS D hp K hK
          try dsimp only at hF ⊢
          have s48 := hp 48 rfl
          refine d_need (small := [(15, (.slice bs11 NN cp12)), (121, (.bool false))]) ⟨look_b rfl rfl, look_row rfl 48 rfl s48, trivial⟩ ?_
          refine t_guard rfl rfl ?_
          refine tp rfl (lv_move rfl) ?_
          exact d_closes ⟨look_b rfl rfl, look_row rfl 48 rfl s48, trivial⟩ 49 rfl rfl rfl hS (AgreeR.refl _) (t_sat (fun _ h => h) (hK () trivial))
         · -- 50
          rintro _ S hF hS D hp K hK
          try dsimp only at hF ⊢
          have s48 := hp 48 rfl
          refine d_need (small := [(12, (.slice bs7 ((raisedL NN EE us e0 e1).length) cp8)), (121, (.bool false))]) ⟨look_b rfl rfl, look_row rfl 48 rfl s48, trivial⟩ ?_
          refine t_guard rfl rfl ?_
          refine tp rfl (lv_move rfl) ?_
          exact d_closes ⟨look_b rfl rfl, look_row rfl 48 rfl s48, trivial⟩ 50 rfl rfl rfl hS (AgreeR.refl _) (t_sat (fun _ h => h) (hK () trivial))
         · -- 51
          rintro _ S hF hS D hp K hK
          try dsimp only at hF ⊢
          have s48 := hp 48 rfl
          refine d_need (small := [(17, (.int .i64 ((i : Nat) : Int))), (121, (.bool false))]) ⟨look_b rfl rfl, look_row rfl 48 rfl s48, trivial⟩ ?_
          refine t_guard rfl rfl ?_
          refine tp rfl (lv_move rfl) ?_
          exact d_closes ⟨look_b rfl rfl, look_row rfl 48 rfl s48, trivial⟩ 51 rfl rfl rfl hS (AgreeR.refl _) (t_sat (fun _ h => h) (hK () trivial))
         · -- 52
          rintro _ S hF hS D hp K hK
          try dsimp only at hF ⊢
          have s48 := hp 48 rfl
          have s50 := hp 50 rfl
          have s51 := hp 51 rfl
          refine d_need (small := [(121, (.bool false)), (123, (.slice bs7 ((raisedL NN EE us e0 e1).length) cp8)), (124, (.int .i64 ((i : Nat) : Int)))]) ⟨look_row rfl 48 rfl s48, look_row rfl 50 rfl s50, look_row rfl 51 rfl s51, trivial⟩ ?_
          refine t_guard rfl rfl ?_
          refine tp rfl (lv_indexAddr (k' := i) Tryd.underlying38 Tryd.sizeOf3 rfl rfl hok9 (by omega) (by omega) (by omega)) ?_
          exact d_closes ⟨look_row rfl 48 rfl s48, look_row rfl 50 rfl s50, look_row rfl 51 rfl s51, trivial⟩ 52 rfl rfl rfl hS (AgreeR.refl _) (t_sat (fun _ h => h) (hK () trivial))
         · -- 53
          rintro _ S hF hS D hp K hK
          try dsimp only at hF ⊢
          have s48 := hp 48 rfl
          have s52 := hp 52 rfl
          refine d_need (small := [(121, (.bool false)), (125, (.pointer (some (ad bs7 i))))]) ⟨look_row rfl 48 rfl s48, look_row rfl 52 rfl s52, trivial⟩ ?_
          refine t_guard rfl rfl ?_
          refine tp rfl (lv_load Tryd.isAgg3 rfl (gives_sl (.tail _ (.tail _ (.tail _ (.head _)))) (ints_get (by omega)))) ?_
          exact d_closes ⟨look_row rfl 48 rfl s48, look_row rfl 52 rfl s52, trivial⟩ 53 rfl rfl rfl hS (AgreeR.refl _) (t_sat (fun _ h => h) (hK () trivial))
         · -- 54
          rintro _ S hF hS D hp K hK
          try dsimp only at hF ⊢
          have s48 := hp 48 rfl
          have s49 := hp 49 rfl
          have s53 := hp 53 rfl
          refine d_need (small := [(121, (.bool false)), (122, (.slice bs11 NN cp12)), (126, (.int .i64 ((raisedL NN EE us e0 e1).getD i 0)))]) ⟨look_row rfl 48 rfl s48, look_row rfl 49 rfl s49, look_row rfl 53 rfl s53, trivial⟩ ?_
          refine t_guard rfl rfl ?_
          refine tp rfl (lv_indexAddr (k' := ((raisedL NN EE us e0 e1).getD i 0).toNat) Tryd.underlying38 Tryd.sizeOf3 rfl rfl hok13 (by omega) (by omega) (by omega)) ?_
          exact d_closes ⟨look_row rfl 48 rfl s48, look_row rfl 49 rfl s49, look_row rfl 53 rfl s53, trivial⟩ 54 rfl rfl rfl hS (AgreeR.refl _) (t_sat (fun _ h => h) (hK () trivial))
         · -- 55
          rintro _ S hF hS D hp K hK
          try dsimp only at hF ⊢
          have s48 := hp 48 rfl
          have s54 := hp 54 rfl
          refine d_need (small := [(121, (.bool false)), (127, (.pointer (some (ad bs11 (((raisedL NN EE us e0 e1).getD i 0).toNat)))))]) ⟨look_row rfl 48 rfl s48, look_row rfl 54 rfl s54, trivial⟩ ?_
          refine t_guard rfl rfl ?_
          refine tp rfl (lv_load Tryd.isAgg3 rfl (gives_sl (.tail _ (.head _)) (ints_get (by omega)))) ?_
          exact d_closes ⟨look_row rfl 48 rfl s48, look_row rfl 54 rfl s54, trivial⟩ 55 rfl rfl rfl hS (AgreeR.refl _) (t_sat (fun _ h => h) (hK () trivial))
         · -- 56
          rintro _ S hF hS D hp K hK
          try dsimp only at hF ⊢
          have s48 := hp 48 rfl
          refine d_need (small := [(15, (.slice bs11 NN cp12)), (121, (.bool false))]) ⟨look_b rfl rfl, look_row rfl 48 rfl s48, trivial⟩ ?_
          refine t_guard rfl rfl ?_
          refine tp rfl (lv_move rfl) ?_
          exact d_closes ⟨look_b rfl rfl, look_row rfl 48 rfl s48, trivial⟩ 56 rfl rfl rfl hS (AgreeR.refl _) (t_sat (fun _ h => h) (hK () trivial))
         · -- 57
          rintro _ S hF hS D hp K hK
          try dsimp only at hF ⊢
          have s48 := hp 48 rfl
          refine d_need (small := [(7, (.pointer (some ⟨b1, 0, none⟩))), (121, (.bool false))]) ⟨look_b rfl rfl, look_row rfl 48 rfl s48, trivial⟩ ?_
          refine t_guard rfl rfl ?_
          refine tp rfl (lv_fieldAddr (o' := 0) Tryd.underlying33 rfl Tryd.sizeOf3 rfl rfl) ?_
          exact d_closes ⟨look_b rfl rfl, look_row rfl 48 rfl s48, trivial⟩ 57 rfl rfl rfl hS (AgreeR.refl _) (t_sat (fun _ h => h) (hK () trivial))
         · -- 58
          rintro _ S hF hS D hp K hK
          try dsimp only at hF ⊢
          have s48 := hp 48 rfl
          have s57 := hp 57 rfl
          refine d_need (small := [(121, (.bool false)), (130, (.pointer (some ⟨b1, 0, none⟩)))]) ⟨look_row rfl 48 rfl s48, look_row rfl 57 rfl s57, trivial⟩ ?_
          refine t_guard rfl rfl ?_
          refine tp rfl (lv_load Tryd.isAgg3 rfl (gives_blk (.tail _ (.tail _ (.tail _ (.tail _ (.tail _ (.head _)))))) rfl)) ?_
          exact d_closes ⟨look_row rfl 48 rfl s48, look_row rfl 57 rfl s57, trivial⟩ 58 rfl rfl rfl hS (AgreeR.refl _) (t_sat (fun _ h => h) (hK () trivial))
         · -- 59
          rintro _ S hF hS D hp K hK
          try dsimp only at hF ⊢
          have s48 := hp 48 rfl
          have s56 := hp 56 rfl
          have s58 := hp 58 rfl
          refine d_need (small := [(121, (.bool false)), (129, (.slice bs11 NN cp12)), (131, (.int .i64 e0))]) ⟨look_row rfl 48 rfl s48, look_row rfl 56 rfl s56, look_row rfl 58 rfl s58, trivial⟩ ?_
          refine t_guard rfl rfl ?_
          refine tp rfl (lv_indexAddr (k' := e0.toNat) Tryd.underlying38 Tryd.sizeOf3 rfl rfl hok13 (by omega) (by omega) (by omega)) ?_
          exact d_closes ⟨look_row rfl 48 rfl s48, look_row rfl 56 rfl s56, look_row rfl 58 rfl s58, trivial⟩ 59 rfl rfl rfl hS (AgreeR.refl _) (t_sat (fun _ h => h) (hK () trivial))
         · -- 60
          rintro _ S hF hS D hp K hK
          try dsimp only at hF ⊢
          have s48 := hp 48 rfl
          have s59 := hp 59 rfl
          refine d_need (small := [(121, (.bool false)), (132, (.pointer (some (ad bs11 e0.toNat))))]) ⟨look_row rfl 48 rfl s48, look_row rfl 59 rfl s59, trivial⟩ ?_
          refine t_guard rfl rfl ?_
          refine tp rfl (lv_load Tryd.isAgg3 rfl (gives_sl (.tail _ (.head _)) (ints_get (by omega)))) ?_
          exact d_closes ⟨look_row rfl 48 rfl s48, look_row rfl 59 rfl s59, trivial⟩ 60 rfl rfl rfl hS (AgreeR.refl _) (t_sat (fun _ h => h) (hK () trivial))
         · -- 61
          rintro _ S hF hS D hp K hK
          try dsimp only at hF ⊢
          have s48 := hp 48 rfl
          have s55 := hp 55 rfl
          have s60 := hp 60 rfl
          refine d_need (small := [(121, (.bool false)), (128, (.int .i64 ((ofL NN (addE NN EE e0 e1) us).getD (((raisedL NN EE us e0 e1).getD i 0).toNat) 0))), (133, (.int .i64 ((ofL NN (addE NN EE e0 e1) us).getD e0.toNat 0)))]) ⟨look_row rfl 48 rfl s48, look_row rfl 55 rfl s55, look_row rfl 60 rfl s60, trivial⟩ ?_
          refine t_guard rfl rfl ?_
          refine tp rfl (lv_neq rfl rfl (bne_eq_false_iff_eq.2 (raised_val hgk (by omega)))) ?_
          exact d_closes ⟨look_row rfl 48 rfl s48, look_row rfl 55 rfl s55, look_row rfl 60 rfl s60, trivial⟩ 61 rfl rfl rfl hS (AgreeR.refl _) (t_sat (fun _ h => h) (hK () trivial))
         · -- 62
          rintro _ S hF hS D hp K hK
          try dsimp only at hF ⊢
          have s48 := hp 48 rfl
          have s61 := hp 61 rfl
          refine d_need (small := [(121, (.bool false)), (134, (.bool false))]) ⟨look_row rfl 48 rfl s48, look_row rfl 61 rfl s61, trivial⟩ ?_
          refine tp rfl (lv_pick_f rfl rfl) ?_
          exact d_closes ⟨look_row rfl 48 rfl s48, look_row rfl 61 rfl s61, trivial⟩ 62 rfl rfl rfl hS (AgreeR.refl _) (t_sat (fun _ h => h) (hK () trivial))
        · -- behind
         rintro _ hF
         try dsimp only at hF ⊢
         refine t_weak (E' := [(0, (.int .i64 n)), (1, (.slice beb es.length ceb)), (2, (.slice brb n1 crb)), (3, (.agg #[(.int .i64 e0), (.int .i64 e1)])), (7, (.pointer (some ⟨b1, 0, none⟩))), (9, (.bool true)), (10, (.pointer (some ⟨p2, 0, none⟩))), (11, (.slice bs3 NN cp4)), (12, (.slice bs7 ((raisedL NN EE us e0 e1).length) cp8)), (14, (.int .i64 (addErr NN e0 e1))), (15, (.slice bs11 NN cp12)), (16, (.pointer (some ⟨b16, 0, none⟩))), (17, (.int .i64 ((i : Nat) : Int))), (24, (.bool false)), (65, (.bool false)), (70, (.bool true)), (135, (.bool false))]) ⟨rfl, rfl, rfl, rfl, rfl, rfl, rfl, rfl, rfl, rfl, rfl, rfl, rfl, rfl, rfl, rfl, rfl, trivial⟩ ?_
         refine q_then_n (hK21 _ _ ?_)
         refine c_false rfl ?_
         refine c_skip ?_
         refine q_then_n (hK20 _ _ ?_)
         refine c_region ?_
         refine tp rfl (lv_move rfl) ?_
         refine tp rfl (lv_move rfl) ?_
         refine tp rfl (lv_indexAddr (k' := i) Tryd.underlying38 Tryd.sizeOf3 rfl rfl hok9 (by omega) (by omega) (by omega)) ?_
         refine tp rfl (lv_load Tryd.isAgg3 rfl (gives_sl (.tail _ (.tail _ (.tail _ (.head _)))) (ints_get (by omega)))) ?_
         refine tp rfl (lv_indexArr (k' := ((raisedL NN EE us e0 e1).getD i 0).toNat) Tryd.underlying49 Tryd.sizeOf4 rfl rfl (by have := raised_at (show i < (raisedL NN EE us e0 e1).length by omega); omega) (by have := raised_at (show i < (raisedL NN EE us e0 e1).length by omega); omega) (by have := raised_at (show i < (raisedL NN EE us e0 e1).length by omega); omega)) ?_
         refine ts (sv_blk Tryd.sizeOf4 rfl rfl rfl (by have := raised_at (show i < (raisedL NN EE us e0 e1).length by omega); rw [bools_length]; omega) bools_set) ?_
         refine t_done ?_
         refine q_in_n ?_
         refine q_then_n (hK19 _ _ ?_)
         refine c_region ?_
         refine tp rfl (lv_move rfl) ?_
         refine tp rfl (lv_add (c := ((i + 1 : Nat) : Int)) rfl rfl (wr_i64_succ (by omega))) ?_
         refine tp rfl (lv_assign rfl) ?_
         refine t_done ?_
         refine q_then_n ?_
         exact t_weak (by exact ⟨rfl, rfl, rfl, rfl, rfl, rfl, rfl, rfl, rfl, rfl, rfl, rfl, rfl, rfl, rfl, trivial⟩) ((hK16 (i + 1, bs.set ((raisedL NN EE us e0 e1).getD i 0).toNat true) ⟨by omega, hmk.next (by omega) (by omega)⟩ (by dsimp only; omega)))
      · -- no
        refine c_draw (γ := Unit) (n := 63) Tryd.mixed rfl rfl (fun _ S => True) (fun _ => [(0, 73, (.slice bs7 ((raisedL NN EE us e0 e1).length) cp8)), (1, 74, (.int .i64 ((i : Nat) : Int))), (2, 75, (.pointer (some (ad bs7 i)))), (3, 76, (.int .i64 ((raisedL NN EE us e0 e1).getD i 0))), (4, 77, (.bool false)), (5, 78, (.bool false)), (6, 79, (.slice bs7 ((raisedL NN EE us e0 e1).length) cp8)), (7, 80, (.int .i64 ((i : Nat) : Int))), (8, 81, (.pointer (some (ad bs7 i)))), (9, 82, (.int .i64 ((raisedL NN EE us e0 e1).getD i 0))), (10, 83, (.slice bs11 NN cp12)), (11, 84, (.int .i64 ((NN : Nat) : Int))), (12, 85, (.bool false)), (13, 86, (.bool false)), (14, 87, (.bool false)), (15, 88, (.slice bs7 ((raisedL NN EE us e0 e1).length) cp8)), (16, 89, (.int .i64 ((i : Nat) : Int))), (17, 90, (.pointer (some (ad bs7 i)))), (18, 91, (.int .i64 ((raisedL NN EE us e0 e1).getD i 0))), (19, 92, (.bool false)), (20, 93, (.bool false)), (21, 94, (.bool false)), (22, 95, (.int .i64 ((i : Nat) : Int))), (23, 96, (.bool false)), (24, 97, (.bool false)), (25, 98, undef), (26, 99, undef), (27, 100, undef), (28, 101, undef), (29, 102, undef), (30, 103, undef), (31, 104, undef), (32, 105, undef), (33, 106, undef), (34, 107, undef), (35, 108, (.bool false)), (36, 109, (.bool false)), (37, 110, (.bool false)), (38, 111, (.pointer (some ⟨p2, 0, none⟩))), (39, 112, (.pointer (some ⟨b1, 1, none⟩))), (40, 113, (.int .i64 e1)), (41, 114, (.slice bs7 ((raisedL NN EE us e0 e1).length) cp8)), (42, 115, (.int .i64 ((i : Nat) : Int))), (43, 116, (.pointer (some (ad bs7 i)))), (44, 117, (.int .i64 ((raisedL NN EE us e0 e1).getD i 0))), (45, 118, (.bool true)), (46, 119, (.bool false)), (47, 120, (.bool false)), (48, 121, (.bool false)), (49, 122, (.slice bs11 NN cp12)), (50, 123, (.slice bs7 ((raisedL NN EE us e0 e1).length) cp8)), (51, 124, (.int .i64 ((i : Nat) : Int))), (52, 125, (.pointer (some (ad bs7 i)))), (53, 126, (.int .i64 ((raisedL NN EE us e0 e1).getD i 0))), (54, 127, (.pointer (some (ad bs11 (((raisedL NN EE us e0 e1).getD i 0).toNat))))), (55, 128, (.int .i64 ((ofL NN (addE NN EE e0 e1) us).getD (((raisedL NN EE us e0 e1).getD i 0).toNat) 0))), (56, 129, (.slice bs11 NN cp12)), (57, 130, (.pointer (some ⟨b1, 0, none⟩))), (58, 131, (.int .i64 e0)), (59, 132, (.pointer (some (ad bs11 e0.toNat)))), (60, 133, (.int .i64 ((ofL NN (addE NN EE e0 e1) us).getD e0.toNat 0))), (61, 134, (.bool false)), (62, 135, (.bool false))]) (fun _ S => (Blk b16 (bools bs) 49) :: (SlV 3 1 (.slice bs11 NN cp12) NN (ints .i64 (ofL NN (addE NN EE e0 e1) us))) :: (GraphO p2 NN (addE NN EE e0 e1)) :: (SlV 3 1 (.slice bs7 ((raisedL NN EE us e0 e1).length) cp8) ((raisedL NN EE us e0 e1).length) (ints .i64 (raisedL NN EE us e0 e1))) :: (SlV 3 1 (.slice bs3 NN cp4) NN (ints .i64 (ofL NN EE us))) :: (Blk b1 [(.int .i64 e0), (.int .i64 e1)] 33) :: R) (()) trivial (fun _ h => h) (fun _ _ h => h) ?_ ?_
        · -- steps
         refine ⟨?_, ?_, ?_, ?_, ?_, ?_, ?_, ?_, ?_, ?_, ?_, ?_, ?_, ?_, ?_, ?_, ?_, ?_, ?_, ?_, ?_, ?_, ?_, ?_, ?_, ?_, ?_, ?_, ?_, ?_, ?_, ?_, ?_, ?_, ?_, ?_, ?_, ?_, ?_, ?_, ?_, ?_, ?_, ?_, ?_, ?_, ?_, ?_, ?_, ?_, ?_, ?_, ?_, ?_, ?_, ?_, ?_, ?_, ?_, ?_, ?_, ?_, ?_, trivial⟩
         · -- 0
          rintro _ S hF hS D hp K hK
          try dsimp only at hF ⊢
          refine d_need (small := [(12, (.slice bs7 ((raisedL NN EE us e0 e1).length) cp8))]) ⟨look_b rfl rfl, trivial⟩ ?_
          refine tp rfl (lv_move rfl) ?_
          exact d_closes ⟨look_b rfl rfl, trivial⟩ 0 rfl rfl rfl hS (AgreeR.refl _) (t_sat (fun _ h => h) (hK () trivial))
         · -- 1
          rintro _ S hF hS D hp K hK
          try dsimp only at hF ⊢
          refine d_need (small := [(17, (.int .i64 ((i : Nat) : Int)))]) ⟨look_b rfl rfl, trivial⟩ ?_
          refine tp rfl (lv_move rfl) ?_
          exact d_closes ⟨look_b rfl rfl, trivial⟩ 1 rfl rfl rfl hS (AgreeR.refl _) (t_sat (fun _ h => h) (hK () trivial))
         · -- 2
          rintro _ S hF hS D hp K hK
          try dsimp only at hF ⊢
          have s0 := hp 0 rfl
          have s1 := hp 1 rfl
          refine d_need (small := [(73, (.slice bs7 ((raisedL NN EE us e0 e1).length) cp8)), (74, (.int .i64 ((i : Nat) : Int)))]) ⟨look_row rfl 0 rfl s0, look_row rfl 1 rfl s1, trivial⟩ ?_
          refine tp rfl (lv_indexAddr (k' := i) Tryd.underlying38 Tryd.sizeOf3 rfl rfl hok9 (by omega) (by omega) (by omega)) ?_
          exact d_closes ⟨look_row rfl 0 rfl s0, look_row rfl 1 rfl s1, trivial⟩ 2 rfl rfl rfl hS (AgreeR.refl _) (t_sat (fun _ h => h) (hK () trivial))
         · -- 3
          rintro _ S hF hS D hp K hK
          try dsimp only at hF ⊢
          have s2 := hp 2 rfl
          refine d_need (small := [(75, (.pointer (some (ad bs7 i))))]) ⟨look_row rfl 2 rfl s2, trivial⟩ ?_
          refine tp rfl (lv_load Tryd.isAgg3 rfl (gives_sl (.tail _ (.tail _ (.tail _ (.head _)))) (ints_get (by omega)))) ?_
          exact d_closes ⟨look_row rfl 2 rfl s2, trivial⟩ 3 rfl rfl rfl hS (AgreeR.refl _) (t_sat (fun _ h => h) (hK () trivial))
         · -- 4
          rintro _ S hF hS D hp K hK
          try dsimp only at hF ⊢
          have s3 := hp 3 rfl
          refine d_need (small := [(76, (.int .i64 ((raisedL NN EE us e0 e1).getD i 0)))]) ⟨look_row rfl 3 rfl s3, trivial⟩ ?_
          refine tp rfl (lv_lss rfl rfl (decide_eq_false (by omega))) ?_
          exact d_closes ⟨look_row rfl 3 rfl s3, trivial⟩ 4 rfl rfl rfl hS (AgreeR.refl _) (t_sat (fun _ h => h) (hK () trivial))
         · -- 5
          rintro _ S hF hS D hp K hK
          try dsimp only at hF ⊢
          have s4 := hp 4 rfl
          refine d_need (small := [(77, (.bool false))]) ⟨look_row rfl 4 rfl s4, trivial⟩ ?_
          refine tp rfl (lv_move rfl) ?_
          exact d_closes ⟨look_row rfl 4 rfl s4, trivial⟩ 5 rfl rfl rfl hS (AgreeR.refl _) (t_sat (fun _ h => h) (hK () trivial))
         · -- 6
          rintro _ S hF hS D hp K hK
          try dsimp only at hF ⊢
          have s5 := hp 5 rfl
          refine d_need (small := [(12, (.slice bs7 ((raisedL NN EE us e0 e1).length) cp8)), (78, (.bool false))]) ⟨look_b rfl rfl, look_row rfl 5 rfl s5, trivial⟩ ?_
          refine t_guard rfl rfl ?_
          refine tp rfl (lv_move rfl) ?_
          exact d_closes ⟨look_b rfl rfl, look_row rfl 5 rfl s5, trivial⟩ 6 rfl rfl rfl hS (AgreeR.refl _) (t_sat (fun _ h => h) (hK () trivial))
         · -- 7
          rintro _ S hF hS D hp K hK
          try dsimp only at hF ⊢
          have s5 := hp 5 rfl
          refine d_need (small := [(17, (.int .i64 ((i : Nat) : Int))), (78, (.bool false))]) ⟨look_b rfl rfl, look_row rfl 5 rfl s5, trivial⟩ ?_
          refine t_guard rfl rfl ?_
          refine tp rfl (lv_move rfl) ?_
          exact d_closes ⟨look_b rfl rfl, look_row rfl 5 rfl s5, trivial⟩ 7 rfl rfl rfl hS (AgreeR.refl _) (t_sat (fun _ h => h) (hK () trivial))
         · -- 8
          rintro _ S hF hS D hp K hK
          try dsimp only at hF ⊢
          have s5 := hp 5 rfl
          have s6 := hp 6 rfl
          have s7 := hp 7 rfl
          refine d_need (small := [(78, (.bool false)), (79, (.slice bs7 ((raisedL NN EE us e0 e1).length) cp8)), (80, (.int .i64 ((i : Nat) : Int)))]) ⟨look_row rfl 5 rfl s5, look_row rfl 6 rfl s6, look_row rfl 7 rfl s7, trivial⟩ ?_
          refine t_guard rfl rfl ?_
          refine tp rfl (lv_indexAddr (k' := i) Tryd.underlying38 Tryd.sizeOf3 rfl rfl hok9 (by omega) (by omega) (by omega)) ?_
          exact d_closes ⟨look_row rfl 5 rfl s5, look_row rfl 6 rfl s6, look_row rfl 7 rfl s7, trivial⟩ 8 rfl rfl rfl hS (AgreeR.refl _) (t_sat (fun _ h => h) (hK () trivial))
         · -- 9
          rintro _ S hF hS D hp K hK
          try dsimp only at hF ⊢
          have s5 := hp 5 rfl
          have s8 := hp 8 rfl
          refine d_need (small := [(78, (.bool false)), (81, (.pointer (some (ad bs7 i))))]) ⟨look_row rfl 5 rfl s5, look_row rfl 8 rfl s8, trivial⟩ ?_
          refine t_guard rfl rfl ?_
          refine tp rfl (lv_load Tryd.isAgg3 rfl (gives_sl (.tail _ (.tail _ (.tail _ (.head _)))) (ints_get (by omega)))) ?_
          exact d_closes ⟨look_row rfl 5 rfl s5, look_row rfl 8 rfl s8, trivial⟩ 9 rfl rfl rfl hS (AgreeR.refl _) (t_sat (fun _ h => h) (hK () trivial))
         · -- 10
          rintro _ S hF hS D hp K hK
          try dsimp only at hF ⊢
          have s5 := hp 5 rfl
          refine d_need (small := [(15, (.slice bs11 NN cp12)), (78, (.bool false))]) ⟨look_b rfl rfl, look_row rfl 5 rfl s5, trivial⟩ ?_
          refine t_guard rfl rfl ?_
          refine tp rfl (lv_move rfl) ?_
          exact d_closes ⟨look_b rfl rfl, look_row rfl 5 rfl s5, trivial⟩ 10 rfl rfl rfl hS (AgreeR.refl _) (t_sat (fun _ h => h) (hK () trivial))
         · -- 11
          rintro _ S hF hS D hp K hK
          try dsimp only at hF ⊢
          have s5 := hp 5 rfl
          have s10 := hp 10 rfl
          refine d_need (small := [(78, (.bool false)), (83, (.slice bs11 NN cp12))]) ⟨look_row rfl 5 rfl s5, look_row rfl 10 rfl s10, trivial⟩ ?_
          refine t_guard rfl rfl ?_
          refine tp rfl (lv_len Tryd.underlying38 rfl rfl) ?_
          exact d_closes ⟨look_row rfl 5 rfl s5, look_row rfl 10 rfl s10, trivial⟩ 11 rfl rfl rfl hS (AgreeR.refl _) (t_sat (fun _ h => h) (hK () trivial))
         · -- 12
          rintro _ S hF hS D hp K hK
          try dsimp only at hF ⊢
          have s5 := hp 5 rfl
          have s9 := hp 9 rfl
          have s11 := hp 11 rfl
          refine d_need (small := [(78, (.bool false)), (82, (.int .i64 ((raisedL NN EE us e0 e1).getD i 0))), (84, (.int .i64 ((NN : Nat) : Int)))]) ⟨look_row rfl 5 rfl s5, look_row rfl 9 rfl s9, look_row rfl 11 rfl s11, trivial⟩ ?_
          refine t_guard rfl rfl ?_
          refine tp rfl (lv_geq rfl rfl (decide_eq_false (by omega))) ?_
          exact d_closes ⟨look_row rfl 5 rfl s5, look_row rfl 9 rfl s9, look_row rfl 11 rfl s11, trivial⟩ 12 rfl rfl rfl hS (AgreeR.refl _) (t_sat (fun _ h => h) (hK () trivial))
         · -- 13
          rintro _ S hF hS D hp K hK
          try dsimp only at hF ⊢
          have s5 := hp 5 rfl
          have s12 := hp 12 rfl
          refine d_need (small := [(78, (.bool false)), (85, (.bool false))]) ⟨look_row rfl 5 rfl s5, look_row rfl 12 rfl s12, trivial⟩ ?_
          refine tp rfl (lv_pick_f rfl rfl) ?_
          exact d_closes ⟨look_row rfl 5 rfl s5, look_row rfl 12 rfl s12, trivial⟩ 13 rfl rfl rfl hS (AgreeR.refl _) (t_sat (fun _ h => h) (hK () trivial))
         · -- 14
          rintro _ S hF hS D hp K hK
          try dsimp only at hF ⊢
          have s13 := hp 13 rfl
          refine d_need (small := [(86, (.bool false))]) ⟨look_row rfl 13 rfl s13, trivial⟩ ?_
          refine tp rfl (lv_move rfl) ?_
          exact d_closes ⟨look_row rfl 13 rfl s13, trivial⟩ 14 rfl rfl rfl hS (AgreeR.refl _) (t_sat (fun _ h => h) (hK () trivial))
         · -- 15
          rintro _ S hF hS D hp K hK
          try dsimp only at hF ⊢
          have s14 := hp 14 rfl
          refine d_need (small := [(12, (.slice bs7 ((raisedL NN EE us e0 e1).length) cp8)), (87, (.bool false))]) ⟨look_b rfl rfl, look_row rfl 14 rfl s14, trivial⟩ ?_
          refine t_guard rfl rfl ?_
          refine tp rfl (lv_move rfl) ?_
          exact d_closes ⟨look_b rfl rfl, look_row rfl 14 rfl s14, trivial⟩ 15 rfl rfl rfl hS (AgreeR.refl _) (t_sat (fun _ h => h) (hK () trivial))
         · -- 16
          rintro _ S hF hS D hp K hK
          try dsimp only at hF ⊢
          have s14 := hp 14 rfl
          refine d_need (small := [(17, (.int .i64 ((i : Nat) : Int))), (87, (.bool false))]) ⟨look_b rfl rfl, look_row rfl 14 rfl s14, trivial⟩ ?_
          refine t_guard rfl rfl ?_
          refine tp rfl (lv_move rfl) ?_
          exact d_closes ⟨look_b rfl rfl, look_row rfl 14 rfl s14, trivial⟩ 16 rfl rfl rfl hS (AgreeR.refl _) (t_sat (fun _ h => h) (hK () trivial))
         · -- 17
          rintro _ S hF hS D hp K hK
          try dsimp only at hF ⊢
          have s14 := hp 14 rfl
          have s15 := hp 15 rfl
          have s16 := hp 16 rfl
          refine d_need (small := [(87, (.bool false)), (88, (.slice bs7 ((raisedL NN EE us e0 e1).length) cp8)), (89, (.int .i64 ((i : Nat) : Int)))]) ⟨look_row rfl 14 rfl s14, look_row rfl 15 rfl s15, look_row rfl 16 rfl s16, trivial⟩ ?_
          refine t_guard rfl rfl ?_
          refine tp rfl (lv_indexAddr (k' := i) Tryd.underlying38 Tryd.sizeOf3 rfl rfl hok9 (by omega) (by omega) (by omega)) ?_
          exact d_closes ⟨look_row rfl 14 rfl s14, look_row rfl 15 rfl s15, look_row rfl 16 rfl s16, trivial⟩ 17 rfl rfl rfl hS (AgreeR.refl _) (t_sat (fun _ h => h) (hK () trivial))
         · -- 18
          rintro _ S hF hS D hp K hK
          try dsimp only at hF ⊢
          have s14 := hp 14 rfl
          have s17 := hp 17 rfl
          refine d_need (small := [(87, (.bool false)), (90, (.pointer (some (ad bs7 i))))]) ⟨look_row rfl 14 rfl s14, look_row rfl 17 rfl s17, trivial⟩ ?_
          refine t_guard rfl rfl ?_
          refine tp rfl (lv_load Tryd.isAgg3 rfl (gives_sl (.tail _ (.tail _ (.tail _ (.head _)))) (ints_get (by first | omega | (simp; omega))))) ?_
          exact d_closes ⟨look_row rfl 14 rfl s14, look_row rfl 17 rfl s17, trivial⟩ 18 rfl rfl rfl hS (AgreeR.refl _) (t_sat (fun _ h => h) (hK () trivial))
         · -- 19
          rintro _ S hF hS D hp K hK
          try dsimp only at hF ⊢
          have s14 := hp 14 rfl
          have s18 := hp 18 rfl
          refine d_need (small := [(87, (.bool false)), (91, (.int .i64 ((raisedL NN EE us e0 e1).getD i 0)))]) ⟨look_row rfl 14 rfl s14, look_row rfl 18 rfl s18, trivial⟩ ?_
          refine t_guard rfl rfl ?_
          refine tp rfl (lv_geq rfl rfl (decide_eq_false (by omega))) ?_
          exact d_closes ⟨look_row rfl 14 rfl s14, look_row rfl 18 rfl s18, trivial⟩ 19 rfl rfl rfl hS (AgreeR.refl _) (t_sat (fun _ h => h) (hK () trivial))
         · -- 20
          rintro _ S hF hS D hp K hK
          try dsimp only at hF ⊢
          have s14 := hp 14 rfl
          have s19 := hp 19 rfl
          refine d_need (small := [(87, (.bool false)), (92, (.bool false))]) ⟨look_row rfl 14 rfl s14, look_row rfl 19 rfl s19, trivial⟩ ?_
          refine tp rfl (lv_pick_f rfl rfl) ?_
          exact d_closes ⟨look_row rfl 14 rfl s14, look_row rfl 19 rfl s19, trivial⟩ 20 rfl rfl rfl hS (AgreeR.refl _) (t_sat (fun _ h => h) (hK () trivial))
         · -- 21
          rintro _ S hF hS D hp K hK
          try dsimp only at hF ⊢
          have s20 := hp 20 rfl
          refine d_need (small := [(93, (.bool false))]) ⟨look_row rfl 20 rfl s20, trivial⟩ ?_
          refine tp rfl (lv_move rfl) ?_
          exact d_closes ⟨look_row rfl 20 rfl s20, trivial⟩ 21 rfl rfl rfl hS (AgreeR.refl _) (t_sat (fun _ h => h) (hK () trivial))
         · -- 22
          rintro _ S hF hS D hp K hK
          try dsimp only at hF ⊢
          have s21 := hp 21 rfl
          refine d_need (small := [(17, (.int .i64 ((i : Nat) : Int))), (94, (.bool false))]) ⟨look_b rfl rfl, look_row rfl 21 rfl s21, trivial⟩ ?_
          refine t_guard rfl rfl ?_
          refine tp rfl (lv_move rfl) ?_
          exact d_closes ⟨look_b rfl rfl, look_row rfl 21 rfl s21, trivial⟩ 22 rfl rfl rfl hS (AgreeR.refl _) (t_sat (fun _ h => h) (hK () trivial))
         · -- 23
          rintro _ S hF hS D hp K hK
          try dsimp only at hF ⊢
          have s21 := hp 21 rfl
          have s22 := hp 22 rfl
          refine d_need (small := [(94, (.bool false)), (95, (.int .i64 ((i : Nat) : Int)))]) ⟨look_row rfl 21 rfl s21, look_row rfl 22 rfl s22, trivial⟩ ?_
          refine t_guard rfl rfl ?_
          refine tp rfl (lv_gtr rfl rfl (decide_eq_false h18)) ?_
          exact d_closes ⟨look_row rfl 21 rfl s21, look_row rfl 22 rfl s22, trivial⟩ 23 rfl rfl rfl hS (AgreeR.refl _) (t_sat (fun _ h => h) (hK () trivial))
         · -- 24
          rintro _ S hF hS D hp K hK
          try dsimp only at hF ⊢
          have s21 := hp 21 rfl
          have s23 := hp 23 rfl
          refine d_need (small := [(94, (.bool false)), (96, (.bool false))]) ⟨look_row rfl 21 rfl s21, look_row rfl 23 rfl s23, trivial⟩ ?_
          refine t_guard rfl rfl ?_
          refine tp rfl (lv_move rfl) ?_
          exact d_closes ⟨look_row rfl 21 rfl s21, look_row rfl 23 rfl s23, trivial⟩ 24 rfl rfl rfl hS (AgreeR.refl _) (t_sat (fun _ h => h) (hK () trivial))
         · -- 25
          rintro _ S hF hS D hp K hK
          try dsimp only at hF ⊢
          have s24 := hp 24 rfl
          refine d_need (small := [(12, (.slice bs7 ((raisedL NN EE us e0 e1).length) cp8)), (97, (.bool false))]) ⟨look_b rfl rfl, look_row rfl 24 rfl s24, trivial⟩ ?_
          refine t_skip rfl rfl rfl ?_
          exact d_closes ⟨look_b rfl rfl, look_row rfl 24 rfl s24, trivial⟩ 25 rfl rfl rfl hS (AgreeR.refl _) (t_sat (fun _ h => h) (hK () trivial))
         · -- 26
          rintro _ S hF hS D hp K hK
          try dsimp only at hF ⊢
          have s24 := hp 24 rfl
          refine d_need (small := [(17, (.int .i64 ((i : Nat) : Int))), (97, (.bool false))]) ⟨look_b rfl rfl, look_row rfl 24 rfl s24, trivial⟩ ?_
          refine t_skip rfl rfl rfl ?_
          exact d_closes ⟨look_b rfl rfl, look_row rfl 24 rfl s24, trivial⟩ 26 rfl rfl rfl hS (AgreeR.refl _) (t_sat (fun _ h => h) (hK () trivial))
         · -- 27
          rintro _ S hF hS D hp K hK
          try dsimp only at hF ⊢
          have s24 := hp 24 rfl
          have s26 := hp 26 rfl
          refine d_need (small := [(97, (.bool false)), (99, undef)]) ⟨look_row rfl 24 rfl s24, look_row rfl 26 rfl s26, trivial⟩ ?_
          refine t_skip rfl rfl rfl ?_
          exact d_closes ⟨look_row rfl 24 rfl s24, look_row rfl 26 rfl s26, trivial⟩ 27 rfl rfl rfl hS (AgreeR.refl _) (t_sat (fun _ h => h) (hK () trivial))
         · -- 28
          rintro _ S hF hS D hp K hK
          try dsimp only at hF ⊢
          have s24 := hp 24 rfl
          have s25 := hp 25 rfl
          have s27 := hp 27 rfl
          refine d_need (small := [(97, (.bool false)), (98, undef), (100, undef)]) ⟨look_row rfl 24 rfl s24, look_row rfl 25 rfl s25, look_row rfl 27 rfl s27, trivial⟩ ?_
          refine t_skip rfl rfl rfl ?_
          exact d_closes ⟨look_row rfl 24 rfl s24, look_row rfl 25 rfl s25, look_row rfl 27 rfl s27, trivial⟩ 28 rfl rfl rfl hS (AgreeR.refl _) (t_sat (fun _ h => h) (hK () trivial))
         · -- 29
          rintro _ S hF hS D hp K hK
          try dsimp only at hF ⊢
          have s24 := hp 24 rfl
          have s28 := hp 28 rfl
          refine d_need (small := [(97, (.bool false)), (101, undef)]) ⟨look_row rfl 24 rfl s24, look_row rfl 28 rfl s28, trivial⟩ ?_
          refine t_skip rfl rfl rfl ?_
          exact d_closes ⟨look_row rfl 24 rfl s24, look_row rfl 28 rfl s28, trivial⟩ 29 rfl rfl rfl hS (AgreeR.refl _) (t_sat (fun _ h => h) (hK () trivial))
         · -- 30
          rintro _ S hF hS D hp K hK
          try dsimp only at hF ⊢
          have s24 := hp 24 rfl
          refine d_need (small := [(12, (.slice bs7 ((raisedL NN EE us e0 e1).length) cp8)), (97, (.bool false))]) ⟨look_b rfl rfl, look_row rfl 24 rfl s24, trivial⟩ ?_
          refine t_skip rfl rfl rfl ?_
          exact d_closes ⟨look_b rfl rfl, look_row rfl 24 rfl s24, trivial⟩ 30 rfl rfl rfl hS (AgreeR.refl _) (t_sat (fun _ h => h) (hK () trivial))
         · -- 31
          rintro _ S hF hS D hp K hK
          try dsimp only at hF ⊢
          have s24 := hp 24 rfl
          refine d_need (small := [(17, (.int .i64 ((i : Nat) : Int))), (97, (.bool false))]) ⟨look_b rfl rfl, look_row rfl 24 rfl s24, trivial⟩ ?_
          refine t_skip rfl rfl rfl ?_
          exact d_closes ⟨look_b rfl rfl, look_row rfl 24 rfl s24, trivial⟩ 31 rfl rfl rfl hS (AgreeR.refl _) (t_sat (fun _ h => h) (hK () trivial))
         · -- 32
          rintro _ S hF hS D hp K hK
          try dsimp only at hF ⊢
          have s24 := hp 24 rfl
          have s30 := hp 30 rfl
          have s31 := hp 31 rfl
          refine d_need (small := [(97, (.bool false)), (103, undef), (104, undef)]) ⟨look_row rfl 24 rfl s24, look_row rfl 30 rfl s30, look_row rfl 31 rfl s31, trivial⟩ ?_
          refine t_skip rfl rfl rfl ?_
          exact d_closes ⟨look_row rfl 24 rfl s24, look_row rfl 30 rfl s30, look_row rfl 31 rfl s31, trivial⟩ 32 rfl rfl rfl hS (AgreeR.refl _) (t_sat (fun _ h => h) (hK () trivial))
         · -- 33
          rintro _ S hF hS D hp K hK
          try dsimp only at hF ⊢
          have s24 := hp 24 rfl
          have s32 := hp 32 rfl
          refine d_need (small := [(97, (.bool false)), (105, undef)]) ⟨look_row rfl 24 rfl s24, look_row rfl 32 rfl s32, trivial⟩ ?_
          refine t_skip rfl rfl rfl ?_
          exact d_closes ⟨look_row rfl 24 rfl s24, look_row rfl 32 rfl s32, trivial⟩ 33 rfl rfl rfl hS (AgreeR.refl _) (t_sat (fun _ h => h) (hK () trivial))
         · -- 34
          rintro _ S hF hS D hp K hK
          try dsimp only at hF ⊢
          have s24 := hp 24 rfl
          have s29 := hp 29 rfl
          have s33 := hp 33 rfl
          refine d_need (small := [(97, (.bool false)), (102, undef), (106, undef)]) ⟨look_row rfl 24 rfl s24, look_row rfl 29 rfl s29, look_row rfl 33 rfl s33, trivial⟩ ?_
          refine t_skip rfl rfl rfl ?_
          exact d_closes ⟨look_row rfl 24 rfl s24, look_row rfl 29 rfl s29, look_row rfl 33 rfl s33, trivial⟩ 34 rfl rfl rfl hS (AgreeR.refl _) (t_sat (fun _ h => h) (hK () trivial))
         · -- 35
          rintro _ S hF hS D hp K hK
          try dsimp only at hF ⊢
          have s21 := hp 21 rfl
          have s24 := hp 24 rfl
          have s34 := hp 34 rfl
          refine d_need (small := [(94, (.bool false)), (97, (.bool false)), (107, undef)]) ⟨look_row rfl 21 rfl s21, look_row rfl 24 rfl s24, look_row rfl 34 rfl s34, trivial⟩ ?_
          refine t_guard rfl rfl ?_
          refine tp rfl (lv_pick_f rfl rfl) ?_
          exact d_closes ⟨look_row rfl 21 rfl s21, look_row rfl 24 rfl s24, look_row rfl 34 rfl s34, trivial⟩ 35 rfl rfl rfl hS (AgreeR.refl _) (t_sat (fun _ h => h) (hK () trivial))
         · -- 36
          rintro _ S hF hS D hp K hK
          try dsimp only at hF ⊢
          have s21 := hp 21 rfl
          have s35 := hp 35 rfl
          refine d_need (small := [(94, (.bool false)), (108, (.bool false))]) ⟨look_row rfl 21 rfl s21, look_row rfl 35 rfl s35, trivial⟩ ?_
          refine tp rfl (lv_pick_f rfl rfl) ?_
          exact d_closes ⟨look_row rfl 21 rfl s21, look_row rfl 35 rfl s35, trivial⟩ 36 rfl rfl rfl hS (AgreeR.refl _) (t_sat (fun _ h => h) (hK () trivial))
         · -- 37
          rintro _ S hF hS D hp K hK
          try dsimp only at hF ⊢
          have s36 := hp 36 rfl
          refine d_need (small := [(109, (.bool false))]) ⟨look_row rfl 36 rfl s36, trivial⟩ ?_
          refine tp rfl (lv_move rfl) ?_
          exact d_closes ⟨look_row rfl 36 rfl s36, trivial⟩ 37 rfl rfl rfl hS (AgreeR.refl _) (t_sat (fun _ h => h) (hK () trivial))
         · -- 38
          rintro _ S hF hS D hp K hK
          try dsimp only at hF ⊢
          have s37 := hp 37 rfl
          refine d_need (small := [(10, (.pointer (some ⟨p2, 0, none⟩))), (110, (.bool false))]) ⟨look_b rfl rfl, look_row rfl 37 rfl s37, trivial⟩ ?_
          refine t_guard rfl rfl ?_
          refine tp rfl (lv_move rfl) ?_
          exact d_closes ⟨look_b rfl rfl, look_row rfl 37 rfl s37, trivial⟩ 38 rfl rfl rfl hS (AgreeR.refl _) (t_sat (fun _ h => h) (hK () trivial))
         · -- 39
          rintro _ S hF hS D hp K hK
          try dsimp only at hF ⊢
          have s37 := hp 37 rfl
          refine d_need (small := [(7, (.pointer (some ⟨b1, 0, none⟩))), (110, (.bool false))]) ⟨look_b rfl rfl, look_row rfl 37 rfl s37, trivial⟩ ?_
          refine t_guard rfl rfl ?_
          refine tp rfl (lv_fieldAddr (o' := 1) Tryd.underlying33 rfl Tryd.sizeOf3 rfl rfl) ?_
          exact d_closes ⟨look_b rfl rfl, look_row rfl 37 rfl s37, trivial⟩ 39 rfl rfl rfl hS (AgreeR.refl _) (t_sat (fun _ h => h) (hK () trivial))
         · -- 40
          rintro _ S hF hS D hp K hK
          try dsimp only at hF ⊢
          have s37 := hp 37 rfl
          have s39 := hp 39 rfl
          refine d_need (small := [(110, (.bool false)), (112, (.pointer (some ⟨b1, 1, none⟩)))]) ⟨look_row rfl 37 rfl s37, look_row rfl 39 rfl s39, trivial⟩ ?_
          refine t_guard rfl rfl ?_
          refine tp rfl (lv_load Tryd.isAgg3 rfl (gives_blk (.tail _ (.tail _ (.tail _ (.tail _ (.tail _ (.head _)))))) rfl)) ?_
          exact d_closes ⟨look_row rfl 37 rfl s37, look_row rfl 39 rfl s39, trivial⟩ 40 rfl rfl rfl hS (AgreeR.refl _) (t_sat (fun _ h => h) (hK () trivial))
         · -- 41
          rintro _ S hF hS D hp K hK
          try dsimp only at hF ⊢
          have s37 := hp 37 rfl
          refine d_need (small := [(12, (.slice bs7 ((raisedL NN EE us e0 e1).length) cp8)), (110, (.bool false))]) ⟨look_b rfl rfl, look_row rfl 37 rfl s37, trivial⟩ ?_
          refine t_guard rfl rfl ?_
          refine tp rfl (lv_move rfl) ?_
          exact d_closes ⟨look_b rfl rfl, look_row rfl 37 rfl s37, trivial⟩ 41 rfl rfl rfl hS (AgreeR.refl _) (t_sat (fun _ h => h) (hK () trivial))
         · -- 42
          rintro _ S hF hS D hp K hK
          try dsimp only at hF ⊢
          have s37 := hp 37 rfl
          refine d_need (small := [(17, (.int .i64 ((i : Nat) : Int))), (110, (.bool false))]) ⟨look_b rfl rfl, look_row rfl 37 rfl s37, trivial⟩ ?_
          refine t_guard rfl rfl ?_
          refine tp rfl (lv_move rfl) ?_
          exact d_closes ⟨look_b rfl rfl, look_row rfl 37 rfl s37, trivial⟩ 42 rfl rfl rfl hS (AgreeR.refl _) (t_sat (fun _ h => h) (hK () trivial))
         · -- 43
          rintro _ S hF hS D hp K hK
          try dsimp only at hF ⊢
          have s37 := hp 37 rfl
          have s41 := hp 41 rfl
          have s42 := hp 42 rfl
          refine d_need (small := [(110, (.bool false)), (114, (.slice bs7 ((raisedL NN EE us e0 e1).length) cp8)), (115, (.int .i64 ((i : Nat) : Int)))]) ⟨look_row rfl 37 rfl s37, look_row rfl 41 rfl s41, look_row rfl 42 rfl s42, trivial⟩ ?_
          refine t_guard rfl rfl ?_
          refine tp rfl (lv_indexAddr (k' := i) Tryd.underlying38 Tryd.sizeOf3 rfl rfl hok9 (by omega) (by omega) (by omega)) ?_
          exact d_closes ⟨look_row rfl 37 rfl s37, look_row rfl 41 rfl s41, look_row rfl 42 rfl s42, trivial⟩ 43 rfl rfl rfl hS (AgreeR.refl _) (t_sat (fun _ h => h) (hK () trivial))
         · -- 44
          rintro _ S hF hS D hp K hK
          try dsimp only at hF ⊢
          have s37 := hp 37 rfl
          have s43 := hp 43 rfl
          refine d_need (small := [(110, (.bool false)), (116, (.pointer (some (ad bs7 i))))]) ⟨look_row rfl 37 rfl s37, look_row rfl 43 rfl s43, trivial⟩ ?_
          refine t_guard rfl rfl ?_
          refine tp rfl (lv_load Tryd.isAgg3 rfl (gives_sl (.tail _ (.tail _ (.tail _ (.head _)))) (ints_get (by omega)))) ?_
          exact d_closes ⟨look_row rfl 37 rfl s37, look_row rfl 43 rfl s43, trivial⟩ 44 rfl rfl rfl hS (AgreeR.refl _) (t_sat (fun _ h => h) (hK () trivial))
         · -- 45
          rintro _ S hF hS D hp K hK
          try dsimp only at hF ⊢
          have s37 := hp 37 rfl
          have s38 := hp 38 rfl
          have s40 := hp 40 rfl
          have s44 := hp 44 rfl
          refine d_need (small := [(110, (.bool false)), (111, (.pointer (some ⟨p2, 0, none⟩))), (113, (.int .i64 e1)), (117, (.int .i64 ((raisedL NN EE us e0 e1).getD i 0)))]) ⟨look_row rfl 37 rfl s37, look_row rfl 38 rfl s38, look_row rfl 40 rfl s40, look_row rfl 44 rfl s44, trivial⟩ ?_
          refine t_guard rfl rfl ?_
          refine t_f2 ?_
          refine tc rfl (en_fn Tryd.call20 rfl) (reaches_ok (N := NN) (es := addE NN EE e0 e1) e1 ((raisedL NN EE us e0 e1).getD i 0) (Tab.cons (Tab.cons (Tab.cons (Tab.cons (Tab.cons hT)))))) ?_
          rintro _ _ ⟨rfl, rfl⟩
          rw [show reachB NN (addE NN EE e0 e1) e1 ((raisedL NN EE us e0 e1).getD i 0) = true from (raised_reach (by omega))]
          refine t_f2 ?_
          refine t_f2 ?_
          exact d_closes ⟨look_row rfl 37 rfl s37, look_row rfl 38 rfl s38, look_row rfl 40 rfl s40, look_row rfl 44 rfl s44, trivial⟩ 45 rfl rfl rfl hS (AgreeR.refl _) (t_sat (fun _ h => h) (hK () trivial))
         · -- 46
          rintro _ S hF hS D hp K hK
          try dsimp only at hF ⊢
          have s37 := hp 37 rfl
          have s45 := hp 45 rfl
          refine d_need (small := [(110, (.bool false)), (118, (.bool true))]) ⟨look_row rfl 37 rfl s37, look_row rfl 45 rfl s45, trivial⟩ ?_
          refine t_guard rfl rfl ?_
          refine tp rfl (lv_not (c := false) rfl rfl) ?_
          exact d_closes ⟨look_row rfl 37 rfl s37, look_row rfl 45 rfl s45, trivial⟩ 46 rfl rfl rfl hS (AgreeR.refl _) (t_sat (fun _ h => h) (hK () trivial))
         · -- 47
          rintro _ S hF hS D hp K hK
          try dsimp only at hF ⊢
          have s37 := hp 37 rfl
          have s46 := hp 46 rfl
          refine d_need (small := [(110, (.bool false)), (119, (.bool false))]) ⟨look_row rfl 37 rfl s37, look_row rfl 46 rfl s46, trivial⟩ ?_
          refine tp rfl (lv_pick_f rfl rfl) ?_
          exact d_closes ⟨look_row rfl 37 rfl s37, look_row rfl 46 rfl s46, trivial⟩ 47 rfl rfl rfl hS (AgreeR.refl _) (t_sat (fun _ h => h) (hK () trivial))
         · -- 48
          rintro _ S hF hS D hp K hK
          try dsimp only at hF ⊢
          have s47 := hp 47 rfl
          refine d_need (small := [(120, (.bool false))]) ⟨look_row rfl 47 rfl s47, trivial⟩ ?_
          refine tp rfl (lv_move rfl) ?_
          exact d_closes ⟨look_row rfl 47 rfl s47, trivial⟩ 48 rfl rfl rfl hS (AgreeR.refl _) (t_sat (fun _ h => h) (hK () trivial))
         · -- 49
          rintro _ S hF hS D hp K hK
          try dsimp only at hF ⊢
          have s48 := hp 48 rfl
          refine d_need (small := [(15, (.slice bs11 NN cp12)), (121, (.bool false))]) ⟨look_b rfl rfl, look_row rfl 48 rfl s48, trivial⟩ ?_
          refine t_guard rfl rfl ?_
          refine tp rfl (lv_move rfl) ?_
          exact d_closes ⟨look_b rfl rfl, look_row rfl 48 rfl s48, trivial⟩ 49 rfl rfl rfl hS (AgreeR.refl _) (t_sat (fun _ h => h) (hK () trivial))
         · -- 50
          rintro _ S hF hS D hp K hK
          try dsimp only at hF ⊢
          have s48 := hp 48 rfl
          refine d_need (small := [(12, (.slice bs7 ((raisedL NN EE us e0 e1).length) cp8)), (121, (.bool false))]) ⟨look_b rfl rfl, look_row rfl 48 rfl s48, trivial⟩ ?_
          refine t_guard rfl rfl ?_
          refine tp rfl (lv_move rfl) ?_
          exact d_closes ⟨look_b rfl rfl, look_row rfl 48 rfl s48, trivial⟩ 50 rfl rfl rfl hS (AgreeR.refl _) (t_sat (fun _ h => h) (hK () trivial))
         · -- 51
          rintro _ S hF hS D hp K hK
          try dsimp only at hF ⊢
          have s48 := hp 48 rfl
          refine d_need (small := [(17, (.int .i64 ((i : Nat) : Int))), (121, (.bool false))]) ⟨look_b rfl rfl, look_row rfl 48 rfl s48, trivial⟩ ?_
          refine t_guard rfl rfl ?_
          refine tp rfl (lv_move rfl) ?_
          exact d_closes ⟨look_b rfl rfl, look_row rfl 48 rfl s48, trivial⟩ 51 rfl rfl rfl hS (AgreeR.refl _) (t_sat (fun _ h => h) (hK () trivial))
         · -- 52
          rintro _ S hF hS D hp K hK
          try dsimp only at hF ⊢
          have s48 := hp 48 rfl
          have s50 := hp 50 rfl
          have s51 := hp 51 rfl
          refine d_need (small := [(121, (.bool false)), (123, (.slice bs7 ((raisedL NN EE us e0 e1).length) cp8)), (124, (.int .i64 ((i : Nat) : Int)))]) ⟨look_row rfl 48 rfl s48, look_row rfl 50 rfl s50, look_row rfl 51 rfl s51, trivial⟩ ?_
          refine t_guard rfl rfl ?_
          refine tp rfl (lv_indexAddr (k' := i) Tryd.underlying38 Tryd.sizeOf3 rfl rfl hok9 (by omega) (by omega) (by omega)) ?_
          exact d_closes ⟨look_row rfl 48 rfl s48, look_row rfl 50 rfl s50, look_row rfl 51 rfl s51, trivial⟩ 52 rfl rfl rfl hS (AgreeR.refl _) (t_sat (fun _ h => h) (hK () trivial))
         · -- 53
          rintro _ S hF hS D hp K hK
          try dsimp only at hF ⊢
          have s48 := hp 48 rfl
          have s52 := hp 52 rfl
          refine d_need (small := [(121, (.bool false)), (125, (.pointer (some (ad bs7 i))))]) ⟨look_row rfl 48 rfl s48, look_row rfl 52 rfl s52, trivial⟩ ?_
          refine t_guard rfl rfl ?_
          refine tp rfl (lv_load Tryd.isAgg3 rfl (gives_sl (.tail _ (.tail _ (.tail _ (.head _)))) (ints_get (by omega)))) ?_
          exact d_closes ⟨look_row rfl 48 rfl s48, look_row rfl 52 rfl s52, trivial⟩ 53 rfl rfl rfl hS (AgreeR.refl _) (t_sat (fun _ h => h) (hK () trivial))
         · -- 54
          rintro _ S hF hS D hp K hK
          try dsimp only at hF ⊢
          have s48 := hp 48 rfl
          have s49 := hp 49 rfl
          have s53 := hp 53 rfl
          refine d_need (small := [(121, (.bool false)), (122, (.slice bs11 NN cp12)), (126, (.int .i64 ((raisedL NN EE us e0 e1).getD i 0)))]) ⟨look_row rfl 48 rfl s48, look_row rfl 49 rfl s49, look_row rfl 53 rfl s53, trivial⟩ ?_
          refine t_guard rfl rfl ?_
          refine tp rfl (lv_indexAddr (k' := ((raisedL NN EE us e0 e1).getD i 0).toNat) Tryd.underlying38 Tryd.sizeOf3 rfl rfl hok13 (by omega) (by omega) (by omega)) ?_
          exact d_closes ⟨look_row rfl 48 rfl s48, look_row rfl 49 rfl s49, look_row rfl 53 rfl s53, trivial⟩ 54 rfl rfl rfl hS (AgreeR.refl _) (t_sat (fun _ h => h) (hK () trivial))
         · -- 55
          rintro _ S hF hS D hp K hK
          try dsimp only at hF ⊢
          have s48 := hp 48 rfl
          have s54 := hp 54 rfl
          refine d_need (small := [(121, (.bool false)), (127, (.pointer (some (ad bs11 (((raisedL NN EE us e0 e1).getD i 0).toNat)))))]) ⟨look_row rfl 48 rfl s48, look_row rfl 54 rfl s54, trivial⟩ ?_
          refine t_guard rfl rfl ?_
          refine tp rfl (lv_load Tryd.isAgg3 rfl (gives_sl (.tail _ (.head _)) (ints_get (by omega)))) ?_
          exact d_closes ⟨look_row rfl 48 rfl s48, look_row rfl 54 rfl s54, trivial⟩ 55 rfl rfl rfl hS (AgreeR.refl _) (t_sat (fun _ h => h) (hK () trivial))
         · -- 56
          rintro _ S hF hS D hp K hK
          try dsimp only at hF ⊢
          have s48 := hp 48 rfl
          refine d_need (small := [(15, (.slice bs11 NN cp12)), (121, (.bool false))]) ⟨look_b rfl rfl, look_row rfl 48 rfl s48, trivial⟩ ?_
          refine t_guard rfl rfl ?_
          refine tp rfl (lv_move rfl) ?_
          exact d_closes ⟨look_b rfl rfl, look_row rfl 48 rfl s48, trivial⟩ 56 rfl rfl rfl hS (AgreeR.refl _) (t_sat (fun _ h => h) (hK () trivial))
         · -- 57
          rintro _ S hF hS D hp K hK
          try dsimp only at hF ⊢
          have s48 := hp 48 rfl
          refine d_need (small := [(7, (.pointer (some ⟨b1, 0, none⟩))), (121, (.bool false))]) ⟨look_b rfl rfl, look_row rfl 48 rfl s48, trivial⟩ ?_
          refine t_guard rfl rfl ?_
          refine tp rfl (lv_fieldAddr (o' := 0) Tryd.underlying33 rfl Tryd.sizeOf3 rfl rfl) ?_
          exact d_closes ⟨look_b rfl rfl, look_row rfl 48 rfl s48, trivial⟩ 57 rfl rfl rfl hS (AgreeR.refl _) (t_sat (fun _ h => h) (hK () trivial))
         · -- 58
          rintro _ S hF hS D hp K hK
          try dsimp only at hF ⊢
          have s48 := hp 48 rfl
          have s57 := hp 57 rfl
          refine d_need (small := [(121, (.bool false)), (130, (.pointer (some ⟨b1, 0, none⟩)))]) ⟨look_row rfl 48 rfl s48, look_row rfl 57 rfl s57, trivial⟩ ?_
          refine t_guard rfl rfl ?_
          refine tp rfl (lv_load Tryd.isAgg3 rfl (gives_blk (.tail _ (.tail _ (.tail _ (.tail _ (.tail _ (.head _)))))) rfl)) ?_
          exact d_closes ⟨look_row rfl 48 rfl s48, look_row rfl 57 rfl s57, trivial⟩ 58 rfl rfl rfl hS (AgreeR.refl _) (t_sat (fun _ h => h) (hK () trivial))
         · -- 59
          rintro _ S hF hS D hp K hK
          try dsimp only at hF ⊢
          have s48 := hp 48 rfl
          have s56 := hp 56 rfl
          have s58 := hp 58 rfl
          refine d_need (small := [(121, (.bool false)), (129, (.slice bs11 NN cp12)), (131, (.int .i64 e0))]) ⟨look_row rfl 48 rfl s48, look_row rfl 56 rfl s56, look_row rfl 58 rfl s58, trivial⟩ ?_
          refine t_guard rfl rfl ?_
          refine tp rfl (lv_indexAddr (k' := e0.toNat) Tryd.underlying38 Tryd.sizeOf3 rfl rfl hok13 (by omega) (by omega) (by omega)) ?_
          exact d_closes ⟨look_row rfl 48 rfl s48, look_row rfl 56 rfl s56, look_row rfl 58 rfl s58, trivial⟩ 59 rfl rfl rfl hS (AgreeR.refl _) (t_sat (fun _ h => h) (hK () trivial))
         · -- 60
          rintro _ S hF hS D hp K hK
          try dsimp only at hF ⊢
          have s48 := hp 48 rfl
          have s59 := hp 59 rfl
          refine d_need (small := [(121, (.bool false)), (132, (.pointer (some (ad bs11 e0.toNat))))]) ⟨look_row rfl 48 rfl s48, look_row rfl 59 rfl s59, trivial⟩ ?_
          refine t_guard rfl rfl ?_
          refine tp rfl (lv_load Tryd.isAgg3 rfl (gives_sl (.tail _ (.head _)) (ints_get (by omega)))) ?_
          exact d_closes ⟨look_row rfl 48 rfl s48, look_row rfl 59 rfl s59, trivial⟩ 60 rfl rfl rfl hS (AgreeR.refl _) (t_sat (fun _ h => h) (hK () trivial))
         · -- 61
          rintro _ S hF hS D hp K hK
          try dsimp only at hF ⊢
          have s48 := hp 48 rfl
          have s55 := hp 55 rfl
          have s60 := hp 60 rfl
          refine d_need (small := [(121, (.bool false)), (128, (.int .i64 ((ofL NN (addE NN EE e0 e1) us).getD (((raisedL NN EE us e0 e1).getD i 0).toNat) 0))), (133, (.int .i64 ((ofL NN (addE NN EE e0 e1) us).getD e0.toNat 0)))]) ⟨look_row rfl 48 rfl s48, look_row rfl 55 rfl s55, look_row rfl 60 rfl s60, trivial⟩ ?_
          refine t_guard rfl rfl ?_
          refine tp rfl (lv_neq rfl rfl (bne_eq_false_iff_eq.2 (raised_val hgk (by omega)))) ?_
          exact d_closes ⟨look_row rfl 48 rfl s48, look_row rfl 55 rfl s55, look_row rfl 60 rfl s60, trivial⟩ 61 rfl rfl rfl hS (AgreeR.refl _) (t_sat (fun _ h => h) (hK () trivial))
         · -- 62
          rintro _ S hF hS D hp K hK
          try dsimp only at hF ⊢
          have s48 := hp 48 rfl
          have s61 := hp 61 rfl
          refine d_need (small := [(121, (.bool false)), (134, (.bool false))]) ⟨look_row rfl 48 rfl s48, look_row rfl 61 rfl s61, trivial⟩ ?_
          refine tp rfl (lv_pick_f rfl rfl) ?_
          exact d_closes ⟨look_row rfl 48 rfl s48, look_row rfl 61 rfl s61, trivial⟩ 62 rfl rfl rfl hS (AgreeR.refl _) (t_sat (fun _ h => h) (hK () trivial))
        · -- behind
         rintro _ hF
         try dsimp only at hF ⊢
         refine t_weak (E' := [(0, (.int .i64 n)), (1, (.slice beb es.length ceb)), (2, (.slice brb n1 crb)), (3, (.agg #[(.int .i64 e0), (.int .i64 e1)])), (7, (.pointer (some ⟨b1, 0, none⟩))), (9, (.bool true)), (10, (.pointer (some ⟨p2, 0, none⟩))), (11, (.slice bs3 NN cp4)), (12, (.slice bs7 ((raisedL NN EE us e0 e1).length) cp8)), (14, (.int .i64 (addErr NN e0 e1))), (15, (.slice bs11 NN cp12)), (16, (.pointer (some ⟨b16, 0, none⟩))), (17, (.int .i64 ((i : Nat) : Int))), (24, (.bool false)), (65, (.bool false)), (70, (.bool true)), (135, (.bool false))]) ⟨rfl, rfl, rfl, rfl, rfl, rfl, rfl, rfl, rfl, rfl, rfl, rfl, rfl, rfl, rfl, rfl, rfl, trivial⟩ ?_
         refine q_then_n (hK21 _ _ ?_)
         refine c_false rfl ?_
         refine c_skip ?_
         refine q_then_n (hK20 _ _ ?_)
         refine c_region ?_
         refine tp rfl (lv_move rfl) ?_
         refine tp rfl (lv_move rfl) ?_
         refine tp rfl (lv_indexAddr (k' := i) Tryd.underlying38 Tryd.sizeOf3 rfl rfl hok9 (by omega) (by omega) (by omega)) ?_
         refine tp rfl (lv_load Tryd.isAgg3 rfl (gives_sl (.tail _ (.tail _ (.tail _ (.head _)))) (ints_get (by omega)))) ?_
         refine tp rfl (lv_indexArr (k' := ((raisedL NN EE us e0 e1).getD i 0).toNat) Tryd.underlying49 Tryd.sizeOf4 rfl rfl (by have := raised_at (show i < (raisedL NN EE us e0 e1).length by omega); omega) (by have := raised_at (show i < (raisedL NN EE us e0 e1).length by omega); omega) (by have := raised_at (show i < (raisedL NN EE us e0 e1).length by omega); omega)) ?_
         refine ts (sv_blk Tryd.sizeOf4 rfl rfl rfl (by have := raised_at (show i < (raisedL NN EE us e0 e1).length by omega); rw [bools_length]; omega) bools_set) ?_
         refine t_done ?_
         refine q_in_n ?_
         refine q_then_n (hK19 _ _ ?_)
         refine c_region ?_
         refine tp rfl (lv_move rfl) ?_
         refine tp rfl (lv_add (c := ((i + 1 : Nat) : Int)) rfl rfl (wr_i64_succ (by omega))) ?_
         refine tp rfl (lv_assign rfl) ?_
         refine t_done ?_
         refine q_then_n ?_
         exact t_weak (by exact ⟨rfl, rfl, rfl, rfl, rfl, rfl, rfl, rfl, rfl, rfl, rfl, rfl, rfl, rfl, rfl, trivial⟩) ((hK16 (i + 1, bs.set ((raisedL NN EE us e0 e1).getD i 0).toNat true) ⟨by omega, hmk.next (by omega) (by omega)⟩ (by dsimp only; omega)))
    · -- no
      refine tp rfl (lv_lss rfl rfl (decide_eq_false h17)) ?_
      refine t_done ?_
      refine q_then_n (hK18 _ _ ?_)
      refine c_false rfl ?_
      refine c_exit ?_
      refine q_then_x ?_
      refine q_then_x ?_
      refine q_in_x ?_
      refine q_then_n (hK14 _ _ ?_)
      refine c_seq (fun K19 hK19 => ?_)
      refine c_seq (fun K20 hK20 => ?_)
      refine c_region ?_
      refine tp rfl (lv_assign rfl) ?_
      refine t_done ?_
      refine q_then_n (hK20 _ _ ?_)
      refine c_block ?_
      refine c_loop (γ := (Nat)) (fun (y : Nat) => y ≤ NN) (fun (y : Nat) => [(0, (.int .i64 n)), (1, (.slice beb es.length ceb)), (2, (.slice brb n1 crb)), (3, (.agg #[(.int .i64 e0), (.int .i64 e1)])), (7, (.pointer (some ⟨b1, 0, none⟩))), (9, (.bool true)), (10, (.pointer (some ⟨p2, 0, none⟩))), (11, (.slice bs3 NN cp4)), (12, (.slice bs7 ((raisedL NN EE us e0 e1).length) cp8)), (14, (.int .i64 (addErr NN e0 e1))), (15, (.slice bs11 NN cp12)), (16, (.pointer (some ⟨b16, 0, none⟩))), (17, (.int .i64 ((i : Nat) : Int))), (18, (.int .i64 ((y : Nat) : Int))), (24, (.bool false)), (65, (.bool false)), (70, (.bool false))]) (fun (y : Nat) => (Blk b16 (bools bs) 49) :: (SlV 3 1 (.slice bs11 NN cp12) NN (ints .i64 (ofL NN (addE NN EE e0 e1) us))) :: (GraphO p2 NN (addE NN EE e0 e1)) :: (SlV 3 1 (.slice bs7 ((raisedL NN EE us e0 e1).length) cp8) ((raisedL NN EE us e0 e1).length) (ints .i64 (raisedL NN EE us e0 e1))) :: (SlV 3 1 (.slice bs3 NN cp4) NN (ints .i64 (ofL NN EE us))) :: (Blk b1 [(.int .i64 e0), (.int .i64 e1)] 33) :: R) (fun (y : Nat) => NN - y) (0) (by omega) ⟨rfl, rfl, rfl, rfl, rfl, rfl, rfl, rfl, rfl, rfl, rfl, rfl, rfl, rfl, rfl, rfl, rfl, trivial⟩ (fun _ h => h) ?_
      rintro y K21 hF hK21
      try dsimp only at hF hK21 ⊢
      refine c_seq (fun K22 hK22 => ?_)
      refine c_seq (fun K23 hK23 => ?_)
      refine c_region ?_
      by_cases hc19 : ((y : Nat) : Int) < ((NN : Nat) : Int) ∧ ((y : Nat) : Int) < 64
      · -- both
        have hc19a := hc19.1
        have hc19b := hc19.2
        refine tp rfl (lv_move rfl) ?_
        refine tp rfl (lv_move rfl) ?_
        refine tp rfl (lv_len Tryd.underlying38 rfl rfl) ?_
        refine tp rfl (lv_lss rfl rfl (decide_eq_true hc19.1)) ?_
        refine tp rfl (lv_move rfl) ?_
        refine t_guard rfl rfl ?_
        refine tp rfl (lv_move rfl) ?_
        refine t_guard rfl rfl ?_
        refine tp rfl (lv_lss rfl rfl (decide_eq_true hc19.2)) ?_
        refine tp rfl (lv_pick_t rfl rfl) ?_
        refine t_done ?_
        refine q_then_n (hK23 _ _ ?_)
        refine c_true rfl ?_
        refine c_skip ?_
        refine q_then_n (hK22 _ _ ?_)
        refine c_seq (fun K24 hK24 => ?_)
        refine c_block ?_
        refine c_seq (fun K25 hK25 => ?_)
        refine c_draw (γ := Unit) (n := 24) Tryd.mixed rfl rfl (fun _ S => True) (fun _ => [(0, 151, (.int .i64 ((y : Nat) : Int))), (1, 152, (.pointer (some ⟨b16, y, none⟩))), (2, 153, (.bool ((bs).getD y false))), (3, 154, (.slice bs11 NN cp12)), (4, 155, (.int .i64 ((y : Nat) : Int))), (5, 156, (.pointer (some (ad bs11 y)))), (6, 157, (.int .i64 ((ofL NN (addE NN EE e0 e1) us).getD y 0))), (7, 158, (.slice bs3 NN cp4)), (8, 159, (.int .i64 ((y : Nat) : Int))), (9, 160, (.pointer (some (ad bs3 y)))), (10, 161, (.int .i64 ((ofL NN EE us).getD y 0))), (11, 162, (.bool (decide (((ofL NN (addE NN EE e0 e1) us).getD y 0) > ((ofL NN EE us).getD y 0))))), (12, 163, (.bool false)), (13, 164, (.bool false)), (14, 165, (.slice bs11 NN cp12)), (15, 166, (.int .i64 ((y : Nat) : Int))), (16, 167, (.pointer (some (ad bs11 y)))), (17, 168, (.int .i64 ((ofL NN (addE NN EE e0 e1) us).getD y 0))), (18, 169, (.slice bs3 NN cp4)), (19, 170, (.int .i64 ((y : Nat) : Int))), (20, 171, (.pointer (some (ad bs3 y)))), (21, 172, (.int .i64 ((ofL NN EE us).getD y 0))), (22, 173, (.bool false)), (23, 174, (.bool false))]) (fun _ S => (Blk b16 (bools bs) 49) :: (SlV 3 1 (.slice bs11 NN cp12) NN (ints .i64 (ofL NN (addE NN EE e0 e1) us))) :: (GraphO p2 NN (addE NN EE e0 e1)) :: (SlV 3 1 (.slice bs7 ((raisedL NN EE us e0 e1).length) cp8) ((raisedL NN EE us e0 e1).length) (ints .i64 (raisedL NN EE us e0 e1))) :: (SlV 3 1 (.slice bs3 NN cp4) NN (ints .i64 (ofL NN EE us))) :: (Blk b1 [(.int .i64 e0), (.int .i64 e1)] 33) :: R) (()) trivial (fun _ h => h) (fun _ _ h => h) ?_ ?_
        · -- steps
         refine ⟨?_, ?_, ?_, ?_, ?_, ?_, ?_, ?_, ?_, ?_, ?_, ?_, ?_, ?_, ?_, ?_, ?_, ?_, ?_, ?_, ?_, ?_, ?_, ?_, trivial⟩
         · -- 0
          rintro _ S hF hS D hp K hK
          try dsimp only at hF ⊢
          refine d_need (small := [(18, (.int .i64 ((y : Nat) : Int)))]) ⟨look_b rfl rfl, trivial⟩ ?_
          refine tp rfl (lv_move rfl) ?_
          exact d_closes ⟨look_b rfl rfl, trivial⟩ 0 rfl rfl rfl hS (AgreeR.refl _) (t_sat (fun _ h => h) (hK () trivial))
         · -- 1
          rintro _ S hF hS D hp K hK
          try dsimp only at hF ⊢
          have s0 := hp 0 rfl
          refine d_need (small := [(16, (.pointer (some ⟨b16, 0, none⟩))), (151, (.int .i64 ((y : Nat) : Int)))]) ⟨look_b rfl rfl, look_row rfl 0 rfl s0, trivial⟩ ?_
          refine tp rfl (lv_indexArr (k' := y) Tryd.underlying49 Tryd.sizeOf4 rfl rfl (by omega) (by omega) (by omega)) ?_
          exact d_closes ⟨look_b rfl rfl, look_row rfl 0 rfl s0, trivial⟩ 1 rfl rfl rfl hS (AgreeR.refl _) (t_sat (fun _ h => h) (hK () trivial))
         · -- 2
          rintro _ S hF hS D hp K hK
          try dsimp only at hF ⊢
          have s1 := hp 1 rfl
          refine d_need (small := [(152, (.pointer (some ⟨b16, y, none⟩)))]) ⟨look_row rfl 1 rfl s1, trivial⟩ ?_
          refine tp rfl (lv_load Tryd.isAgg4 rfl (gives_blk (.head _) (bools_get (by omega)))) ?_
          exact d_closes ⟨look_row rfl 1 rfl s1, trivial⟩ 2 rfl rfl rfl hS (AgreeR.refl _) (t_sat (fun _ h => h) (hK () trivial))
         · -- 3
          rintro _ S hF hS D hp K hK
          try dsimp only at hF ⊢
          refine d_need (small := [(15, (.slice bs11 NN cp12))]) ⟨look_b rfl rfl, trivial⟩ ?_
          refine tp rfl (lv_move rfl) ?_
          exact d_closes ⟨look_b rfl rfl, trivial⟩ 3 rfl rfl rfl hS (AgreeR.refl _) (t_sat (fun _ h => h) (hK () trivial))
         · -- 4
          rintro _ S hF hS D hp K hK
          try dsimp only at hF ⊢
          refine d_need (small := [(18, (.int .i64 ((y : Nat) : Int)))]) ⟨look_b rfl rfl, trivial⟩ ?_
          refine tp rfl (lv_move rfl) ?_
          exact d_closes ⟨look_b rfl rfl, trivial⟩ 4 rfl rfl rfl hS (AgreeR.refl _) (t_sat (fun _ h => h) (hK () trivial))
         · -- 5
          rintro _ S hF hS D hp K hK
          try dsimp only at hF ⊢
          have s3 := hp 3 rfl
          have s4 := hp 4 rfl
          refine d_need (small := [(154, (.slice bs11 NN cp12)), (155, (.int .i64 ((y : Nat) : Int)))]) ⟨look_row rfl 3 rfl s3, look_row rfl 4 rfl s4, trivial⟩ ?_
          refine tp rfl (lv_indexAddr (k' := y) Tryd.underlying38 Tryd.sizeOf3 rfl rfl hok13 (by omega) (by omega) (by omega)) ?_
          exact d_closes ⟨look_row rfl 3 rfl s3, look_row rfl 4 rfl s4, trivial⟩ 5 rfl rfl rfl hS (AgreeR.refl _) (t_sat (fun _ h => h) (hK () trivial))
         · -- 6
          rintro _ S hF hS D hp K hK
          try dsimp only at hF ⊢
          have s5 := hp 5 rfl
          refine d_need (small := [(156, (.pointer (some (ad bs11 y))))]) ⟨look_row rfl 5 rfl s5, trivial⟩ ?_
          refine tp rfl (lv_load Tryd.isAgg3 rfl (gives_sl (.tail _ (.head _)) (ints_get (by omega)))) ?_
          exact d_closes ⟨look_row rfl 5 rfl s5, trivial⟩ 6 rfl rfl rfl hS (AgreeR.refl _) (t_sat (fun _ h => h) (hK () trivial))
         · -- 7
          rintro _ S hF hS D hp K hK
          try dsimp only at hF ⊢
          refine d_need (small := [(11, (.slice bs3 NN cp4))]) ⟨look_b rfl rfl, trivial⟩ ?_
          refine tp rfl (lv_move rfl) ?_
          exact d_closes ⟨look_b rfl rfl, trivial⟩ 7 rfl rfl rfl hS (AgreeR.refl _) (t_sat (fun _ h => h) (hK () trivial))
         · -- 8
          rintro _ S hF hS D hp K hK
          try dsimp only at hF ⊢
          refine d_need (small := [(18, (.int .i64 ((y : Nat) : Int)))]) ⟨look_b rfl rfl, trivial⟩ ?_
          refine tp rfl (lv_move rfl) ?_
          exact d_closes ⟨look_b rfl rfl, trivial⟩ 8 rfl rfl rfl hS (AgreeR.refl _) (t_sat (fun _ h => h) (hK () trivial))
         · -- 9
          rintro _ S hF hS D hp K hK
          try dsimp only at hF ⊢
          have s7 := hp 7 rfl
          have s8 := hp 8 rfl
          refine d_need (small := [(158, (.slice bs3 NN cp4)), (159, (.int .i64 ((y : Nat) : Int)))]) ⟨look_row rfl 7 rfl s7, look_row rfl 8 rfl s8, trivial⟩ ?_
          refine tp rfl (lv_indexAddr (k' := y) Tryd.underlying38 Tryd.sizeOf3 rfl rfl hok5 (by omega) (by omega) (by omega)) ?_
          exact d_closes ⟨look_row rfl 7 rfl s7, look_row rfl 8 rfl s8, trivial⟩ 9 rfl rfl rfl hS (AgreeR.refl _) (t_sat (fun _ h => h) (hK () trivial))
         · -- 10
          rintro _ S hF hS D hp K hK
          try dsimp only at hF ⊢
          have s9 := hp 9 rfl
          refine d_need (small := [(160, (.pointer (some (ad bs3 y))))]) ⟨look_row rfl 9 rfl s9, trivial⟩ ?_
          refine tp rfl (lv_load Tryd.isAgg3 rfl (gives_sl (.tail _ (.tail _ (.tail _ (.tail _ (.head _))))) (ints_get (by omega)))) ?_
          exact d_closes ⟨look_row rfl 9 rfl s9, trivial⟩ 10 rfl rfl rfl hS (AgreeR.refl _) (t_sat (fun _ h => h) (hK () trivial))
         · -- 11
          rintro _ S hF hS D hp K hK
          try dsimp only at hF ⊢
          have s6 := hp 6 rfl
          have s10 := hp 10 rfl
          refine d_need (small := [(157, (.int .i64 ((ofL NN (addE NN EE e0 e1) us).getD y 0))), (161, (.int .i64 ((ofL NN EE us).getD y 0)))]) ⟨look_row rfl 6 rfl s6, look_row rfl 10 rfl s10, trivial⟩ ?_
          refine tp rfl (lv_gtr rfl rfl rfl) ?_
          exact d_closes ⟨look_row rfl 6 rfl s6, look_row rfl 10 rfl s10, trivial⟩ 11 rfl rfl rfl hS (AgreeR.refl _) (t_sat (fun _ h => h) (hK () trivial))
         · -- 12
          rintro _ S hF hS D hp K hK
          try dsimp only at hF ⊢
          have s2 := hp 2 rfl
          have s11 := hp 11 rfl
          refine d_need (small := [(153, (.bool ((bs).getD y false))), (162, (.bool (decide (((ofL NN (addE NN EE e0 e1) us).getD y 0) > ((ofL NN EE us).getD y 0)))))]) ⟨look_row rfl 2 rfl s2, look_row rfl 11 rfl s11, trivial⟩ ?_
          refine tp rfl (lv_neb Tryd.underlying4 rfl rfl (raised_mk hgk hmk (by omega) (by omega) (by omega) (by omega))) ?_
          exact d_closes ⟨look_row rfl 2 rfl s2, look_row rfl 11 rfl s11, trivial⟩ 12 rfl rfl rfl hS (AgreeR.refl _) (t_sat (fun _ h => h) (hK () trivial))
         · -- 13
          rintro _ S hF hS D hp K hK
          try dsimp only at hF ⊢
          have s12 := hp 12 rfl
          refine d_need (small := [(163, (.bool false))]) ⟨look_row rfl 12 rfl s12, trivial⟩ ?_
          refine tp rfl (lv_move rfl) ?_
          exact d_closes ⟨look_row rfl 12 rfl s12, trivial⟩ 13 rfl rfl rfl hS (AgreeR.refl _) (t_sat (fun _ h => h) (hK () trivial))
         · -- 14
          rintro _ S hF hS D hp K hK
          try dsimp only at hF ⊢
          have s13 := hp 13 rfl
          refine d_need (small := [(15, (.slice bs11 NN cp12)), (164, (.bool false))]) ⟨look_b rfl rfl, look_row rfl 13 rfl s13, trivial⟩ ?_
          refine t_guard rfl rfl ?_
          refine tp rfl (lv_move rfl) ?_
          exact d_closes ⟨look_b rfl rfl, look_row rfl 13 rfl s13, trivial⟩ 14 rfl rfl rfl hS (AgreeR.refl _) (t_sat (fun _ h => h) (hK () trivial))
         · -- 15
          rintro _ S hF hS D hp K hK
          try dsimp only at hF ⊢
          have s13 := hp 13 rfl
          refine d_need (small := [(18, (.int .i64 ((y : Nat) : Int))), (164, (.bool false))]) ⟨look_b rfl rfl, look_row rfl 13 rfl s13, trivial⟩ ?_
          refine t_guard rfl rfl ?_
          refine tp rfl (lv_move rfl) ?_
          exact d_closes ⟨look_b rfl rfl, look_row rfl 13 rfl s13, trivial⟩ 15 rfl rfl rfl hS (AgreeR.refl _) (t_sat (fun _ h => h) (hK () trivial))
         · -- 16
          rintro _ S hF hS D hp K hK
          try dsimp only at hF ⊢
          have s13 := hp 13 rfl
          have s14 := hp 14 rfl
          have s15 := hp 15 rfl
          refine d_need (small := [(164, (.bool false)), (165, (.slice bs11 NN cp12)), (166, (.int .i64 ((y : Nat) : Int)))]) ⟨look_row rfl 13 rfl s13, look_row rfl 14 rfl s14, look_row rfl 15 rfl s15, trivial⟩ ?_
          refine t_guard rfl rfl ?_
          refine tp rfl (lv_indexAddr (k' := y) Tryd.underlying38 Tryd.sizeOf3 rfl rfl hok13 (by omega) (by omega) (by omega)) ?_
          exact d_closes ⟨look_row rfl 13 rfl s13, look_row rfl 14 rfl s14, look_row rfl 15 rfl s15, trivial⟩ 16 rfl rfl rfl hS (AgreeR.refl _) (t_sat (fun _ h => h) (hK () trivial))
         · -- 17
          rintro _ S hF hS D hp K hK
          try dsimp only at hF ⊢
          have s13 := hp 13 rfl
          have s16 := hp 16 rfl
          refine d_need (small := [(164, (.bool false)), (167, (.pointer (some (ad bs11 y))))]) ⟨look_row rfl 13 rfl s13, look_row rfl 16 rfl s16, trivial⟩ ?_
          refine t_guard rfl rfl ?_
          refine tp rfl (lv_load Tryd.isAgg3 rfl (gives_sl (.tail _ (.head _)) (ints_get (by omega)))) ?_
          exact d_closes ⟨look_row rfl 13 rfl s13, look_row rfl 16 rfl s16, trivial⟩ 17 rfl rfl rfl hS (AgreeR.refl _) (t_sat (fun _ h => h) (hK () trivial))
         · -- 18
          rintro _ S hF hS D hp K hK
          try dsimp only at hF ⊢
          have s13 := hp 13 rfl
          refine d_need (small := [(11, (.slice bs3 NN cp4)), (164, (.bool false))]) ⟨look_b rfl rfl, look_row rfl 13 rfl s13, trivial⟩ ?_
          refine t_guard rfl rfl ?_
          refine tp rfl (lv_move rfl) ?_
          exact d_closes ⟨look_b rfl rfl, look_row rfl 13 rfl s13, trivial⟩ 18 rfl rfl rfl hS (AgreeR.refl _) (t_sat (fun _ h => h) (hK () trivial))
         · -- 19
          rintro _ S hF hS D hp K hK
          try dsimp only at hF ⊢
          have s13 := hp 13 rfl
          refine d_need (small := [(18, (.int .i64 ((y : Nat) : Int))), (164, (.bool false))]) ⟨look_b rfl rfl, look_row rfl 13 rfl s13, trivial⟩ ?_
          refine t_guard rfl rfl ?_
          refine tp rfl (lv_move rfl) ?_
          exact d_closes ⟨look_b rfl rfl, look_row rfl 13 rfl s13, trivial⟩ 19 rfl rfl rfl hS (AgreeR.refl _) (t_sat (fun _ h => h) (hK () trivial))
         · -- 20
          rintro _ S hF hS D hp K hK
          try dsimp only at hF ⊢
          have s13 := hp 13 rfl
          have s18 := hp 18 rfl
          have s19 := hp 19 rfl
          refine d_need (small := [(164, (.bool false)), (169, (.slice bs3 NN cp4)), (170, (.int .i64 ((y : Nat) : Int)))]) ⟨look_row rfl 13 rfl s13, look_row rfl 18 rfl s18, look_row rfl 19 rfl s19, trivial⟩ ?_
          refine t_guard rfl rfl ?_
          refine tp rfl (lv_indexAddr (k' := y) Tryd.underlying38 Tryd.sizeOf3 rfl rfl hok5 (by omega) (by omega) (by omega)) ?_
          exact d_closes ⟨look_row rfl 13 rfl s13, look_row rfl 18 rfl s18, look_row rfl 19 rfl s19, trivial⟩ 20 rfl rfl rfl hS (AgreeR.refl _) (t_sat (fun _ h => h) (hK () trivial))
         · -- 21
          rintro _ S hF hS D hp K hK
          try dsimp only at hF ⊢
          have s13 := hp 13 rfl
          have s20 := hp 20 rfl
          refine d_need (small := [(164, (.bool false)), (171, (.pointer (some (ad bs3 y))))]) ⟨look_row rfl 13 rfl s13, look_row rfl 20 rfl s20, trivial⟩ ?_
          refine t_guard rfl rfl ?_
          refine tp rfl (lv_load Tryd.isAgg3 rfl (gives_sl (.tail _ (.tail _ (.tail _ (.tail _ (.head _))))) (ints_get (by omega)))) ?_
          exact d_closes ⟨look_row rfl 13 rfl s13, look_row rfl 20 rfl s20, trivial⟩ 21 rfl rfl rfl hS (AgreeR.refl _) (t_sat (fun _ h => h) (hK () trivial))
         · -- 22
          rintro _ S hF hS D hp K hK
          try dsimp only at hF ⊢
          have s13 := hp 13 rfl
          have s17 := hp 17 rfl
          have s21 := hp 21 rfl
          refine d_need (small := [(164, (.bool false)), (168, (.int .i64 ((ofL NN (addE NN EE e0 e1) us).getD y 0))), (172, (.int .i64 ((ofL NN EE us).getD y 0)))]) ⟨look_row rfl 13 rfl s13, look_row rfl 17 rfl s17, look_row rfl 21 rfl s21, trivial⟩ ?_
          refine t_guard rfl rfl ?_
          refine tp rfl (lv_lss rfl rfl (decide_eq_false (by have := of_edge (N := NN) (E := EE) (rs := us) (a := e0) (b := e1) (x := y) (by omega); omega))) ?_
          exact d_closes ⟨look_row rfl 13 rfl s13, look_row rfl 17 rfl s17, look_row rfl 21 rfl s21, trivial⟩ 22 rfl rfl rfl hS (AgreeR.refl _) (t_sat (fun _ h => h) (hK () trivial))
         · -- 23
          rintro _ S hF hS D hp K hK
          try dsimp only at hF ⊢
          have s13 := hp 13 rfl
          have s22 := hp 22 rfl
          refine d_need (small := [(164, (.bool false)), (173, (.bool false))]) ⟨look_row rfl 13 rfl s13, look_row rfl 22 rfl s22, trivial⟩ ?_
          refine tp rfl (lv_pick_f rfl rfl) ?_
          exact d_closes ⟨look_row rfl 13 rfl s13, look_row rfl 22 rfl s22, trivial⟩ 23 rfl rfl rfl hS (AgreeR.refl _) (t_sat (fun _ h => h) (hK () trivial))
        · -- behind
         rintro _ hF
         try dsimp only at hF ⊢
         refine t_weak (E' := [(0, (.int .i64 n)), (1, (.slice beb es.length ceb)), (2, (.slice brb n1 crb)), (3, (.agg #[(.int .i64 e0), (.int .i64 e1)])), (7, (.pointer (some ⟨b1, 0, none⟩))), (9, (.bool true)), (10, (.pointer (some ⟨p2, 0, none⟩))), (11, (.slice bs3 NN cp4)), (12, (.slice bs7 ((raisedL NN EE us e0 e1).length) cp8)), (14, (.int .i64 (addErr NN e0 e1))), (15, (.slice bs11 NN cp12)), (16, (.pointer (some ⟨b16, 0, none⟩))), (17, (.int .i64 ((i : Nat) : Int))), (18, (.int .i64 ((y : Nat) : Int))), (24, (.bool false)), (65, (.bool false)), (70, (.bool false)), (148, (.bool true)), (174, (.bool false))]) ⟨rfl, rfl, rfl, rfl, rfl, rfl, rfl, rfl, rfl, rfl, rfl, rfl, rfl, rfl, rfl, rfl, rfl, rfl, rfl, trivial⟩ ?_
         refine q_then_n (hK25 _ _ ?_)
         refine c_false rfl ?_
         refine c_skip ?_
         refine q_in_n ?_
         refine q_then_n (hK24 _ _ ?_)
         refine c_region ?_
         refine tp rfl (lv_move rfl) ?_
         refine tp rfl (lv_add (c := ((y + 1 : Nat) : Int)) rfl rfl (wr_i64_succ (by omega))) ?_
         refine tp rfl (lv_assign rfl) ?_
         refine t_done ?_
         refine q_then_n ?_
         exact t_weak (by exact ⟨rfl, rfl, rfl, rfl, rfl, rfl, rfl, rfl, rfl, rfl, rfl, rfl, rfl, rfl, rfl, rfl, rfl, trivial⟩) ((hK21 (y + 1) (by omega) (by omega)))
      · -- not both
        refine t_cut0 (E' := [(0, (.int .i64 n)), (1, (.slice beb es.length ceb)), (2, (.slice brb n1 crb)), (3, (.agg #[(.int .i64 e0), (.int .i64 e1)])), (7, (.pointer (some ⟨b1, 0, none⟩))), (9, (.bool true)), (10, (.pointer (some ⟨p2, 0, none⟩))), (11, (.slice bs3 NN cp4)), (12, (.slice bs7 ((raisedL NN EE us e0 e1).length) cp8)), (14, (.int .i64 (addErr NN e0 e1))), (15, (.slice bs11 NN cp12)), (16, (.pointer (some ⟨b16, 0, none⟩))), (17, (.int .i64 ((i : Nat) : Int))), (18, (.int .i64 ((y : Nat) : Int))), (24, (.bool false)), (65, (.bool false)), (70, (.bool false)), (148, (.bool false))]) ?_ (fun KK hKK => ?_)
        ·
         refine q_then_n (hK23 _ _ ?_)
         refine c_false rfl ?_
         refine c_exit ?_
         refine q_then_x ?_
         refine q_then_x ?_
         refine q_in_x ?_
         refine q_then_n (hK19 _ _ ?_)
         refine c_seq (fun K24 hK24 => ?_)
         refine c_region ?_
         refine tp rfl (lv_move rfl) ?_
         refine tp rfl (lv_assign rfl) ?_
         refine t_done ?_
         refine q_then_n (hK24 _ _ ?_)
         refine c_ret ?_
         refine t_drop ?_
         refine t_drop ?_
         refine t_drop ?_
         refine t_drop ?_
         refine t_drop ?_
         refine t_drop ?_
         refine q_ret rfl rfl ?_
         exact ⟨rfl, rfl⟩
        · -- which
         by_cases hc19A : ((y : Nat) : Int) < ((NN : Nat) : Int)
         ·
          have hc19B : ¬ (((y : Nat) : Int) < 64) := fun hh => hc19 ⟨hc19A, hh⟩
          refine tp rfl (lv_move rfl) ?_
          refine tp rfl (lv_move rfl) ?_
          refine tp rfl (lv_len Tryd.underlying38 rfl rfl) ?_
          refine tp rfl (lv_lss rfl rfl (decide_eq_true hc19A)) ?_
          refine tp rfl (lv_move rfl) ?_
          refine t_guard rfl rfl ?_
          refine tp rfl (lv_move rfl) ?_
          refine t_guard rfl rfl ?_
          refine tp rfl (lv_lss rfl rfl (decide_eq_false hc19B)) ?_
          refine tp rfl (lv_pick_t rfl rfl) ?_
          exact t_done (t_weak (by exact ⟨rfl, rfl, rfl, rfl, rfl, rfl, rfl, rfl, rfl, rfl, rfl, rfl, rfl, rfl, rfl, rfl, rfl, rfl, trivial⟩) hKK)
         ·
          refine tp rfl (lv_move rfl) ?_
          refine tp rfl (lv_move rfl) ?_
          refine tp rfl (lv_len Tryd.underlying38 rfl rfl) ?_
          refine tp rfl (lv_lss rfl rfl (decide_eq_false hc19A)) ?_
          refine tp rfl (lv_move rfl) ?_
          refine t_skip rfl rfl rfl ?_
          refine t_skip rfl rfl rfl ?_
          refine tp rfl (lv_pick_f rfl rfl) ?_
          exact t_done (t_weak (by exact ⟨rfl, rfl, rfl, rfl, rfl, rfl, rfl, rfl, rfl, rfl, rfl, rfl, rfl, rfl, rfl, rfl, rfl, rfl, trivial⟩) hKK)
  · -- no
    refine tp rfl (lv_neq rfl rfl (bne_iff_ne.2 h15)) ?_
    refine t_guard rfl rfl ?_
    refine tp rfl (lv_move rfl) ?_
    refine t_guard rfl rfl ?_
    refine tp rfl (lv_move rfl) ?_
    refine t_guard rfl rfl ?_
    refine tp rfl (lv_len Tryd.underlying38 rfl rfl) ?_
    refine t_guard rfl rfl ?_
    refine tp rfl (lv_gtr rfl rfl (decide_eq_false (fun hh => raised_err (N := NN) (E := EE) (rs := us) (a := e0) (b := e1) (by assumption) (by omega)))) ?_
    refine t_guard rfl rfl ?_
    refine tp rfl (lv_pick_t rfl rfl) ?_
    refine tp rfl (lv_pick_f rfl rfl) ?_
    refine t_done ?_
    refine q_then_n (hK12 _ _ ?_)
    refine c_false rfl ?_
    refine c_skip ?_
    refine q_then_n (hK11 _ _ ?_)
    refine c_seq (fun K13 hK13 => ?_)
    refine c_region ?_
    refine tp rfl (lv_buildArr0 (cs := (bools (List.replicate 64 false))) Tryd.underlying49 Tryd.zeroValue49 Tryd.sizeOf4 rfl) ?_
    refine tm rfl (mv_alloc (cs := (bools (List.replicate 64 false))) Tryd.zeroValue49 rfl) ?_
    rintro _ _ ⟨b20, rfl, rfl⟩
    refine ts (sv_blkAgg (news := (bools (List.replicate 64 false))) (cs' := (bools (List.replicate 64 false))) Tryd.sizeOf49 rfl rfl rfl (by decide) (by decide) rfl) ?_
    refine t_done ?_
    refine q_then_n (hK13 _ _ ?_)
    refine c_seq (fun K14 hK14 => ?_)
    refine c_seq (fun K15 hK15 => ?_)
    refine c_region ?_
    refine tp rfl (lv_assign rfl) ?_
    refine t_done ?_
    refine q_then_n (hK15 _ _ ?_)
    refine c_block ?_
    refine c_loop (γ := (Nat) × (List Bool)) (fun (i, bs) => i ≤ (raisedL NN EE us e0 e1).length ∧ MkN 64 (raisedL NN EE us e0 e1) i bs) (fun (i, bs) => [(0, (.int .i64 n)), (1, (.slice beb es.length ceb)), (2, (.slice brb n1 crb)), (3, (.agg #[(.int .i64 e0), (.int .i64 e1)])), (7, (.pointer (some ⟨b1, 0, none⟩))), (9, (.bool true)), (10, (.pointer (some ⟨p2, 0, none⟩))), (11, (.slice bs3 NN cp4)), (12, (.slice bs7 ((raisedL NN EE us e0 e1).length) cp8)), (14, (.int .i64 (addErr NN e0 e1))), (15, (.slice bs11 NN cp12)), (16, (.pointer (some ⟨b20, 0, none⟩))), (17, (.int .i64 ((i : Nat) : Int))), (24, (.bool false)), (65, (.bool false))]) (fun (i, bs) => (Blk b20 (bools bs) 49) :: (SlV 3 1 (.slice bs11 NN cp12) NN (ints .i64 (ofL NN (addE NN EE e0 e1) us))) :: (GraphO p2 NN (addE NN EE e0 e1)) :: (SlV 3 1 (.slice bs7 ((raisedL NN EE us e0 e1).length) cp8) ((raisedL NN EE us e0 e1).length) (ints .i64 (raisedL NN EE us e0 e1))) :: (SlV 3 1 (.slice bs3 NN cp4) NN (ints .i64 (ofL NN EE us))) :: (Blk b1 [(.int .i64 e0), (.int .i64 e1)] 33) :: R) (fun (i, bs) => (raisedL NN EE us e0 e1).length - i) (0, List.replicate 64 false) ⟨by omega, MkN.zero 64 _⟩ ⟨rfl, rfl, rfl, rfl, rfl, rfl, rfl, rfl, rfl, rfl, rfl, rfl, rfl, rfl, rfl, trivial⟩ (fun _ h => h) ?_
    rintro ⟨i, bs⟩ K16 hF hK16
    try dsimp only at hF hK16 ⊢
    obtain ⟨hi, hmk⟩ := hF
    have hul := raisedL_len NN EE us e0 e1
    have hbsl := hmk.len
    have hl0 := ofL_len NN EE us
    have hl2 := ofL_len NN (addE NN EE e0 e1) us
    refine c_seq (fun K17 hK17 => ?_)
    refine c_seq (fun K18 hK18 => ?_)
    refine c_region ?_
    refine tp rfl (lv_move rfl) ?_
    refine tp rfl (lv_move rfl) ?_
    refine tp rfl (lv_len Tryd.underlying38 rfl rfl) ?_
    by_cases h21 : ((i : Nat) : Int) < (((raisedL NN EE us e0 e1).length : Nat) : Int)
    · -- yes
      refine tp rfl (lv_lss rfl rfl (decide_eq_true h21)) ?_
      refine t_done ?_
      refine q_then_n (hK18 _ _ ?_)
      refine c_true rfl ?_
      refine c_skip ?_
      refine q_then_n (hK17 _ _ ?_)
      refine c_seq (fun K19 hK19 => ?_)
      refine c_block ?_
      refine c_seq (fun K20 hK20 => ?_)
      refine c_seq (fun K21 hK21 => ?_)
      obtain ⟨hva, hvb, hyb, hyr, hyl⟩ := raised_at (show i < (raisedL NN EE us e0 e1).length by omega)
      have hab := valid_iff.1 hva
      have hup := fun h0 => raised_up (N := NN) (E := EE) (rs := us) (a := e0) (b := e1) h0 (show i < (raisedL NN EE us e0 e1).length by omega)
      by_cases h22 : ((i : Nat) : Int) > 0
      · -- yes
        refine c_draw (γ := Unit) (n := 63) Tryd.mixed rfl rfl (fun _ S => True) (fun _ => [(0, 73, (.slice bs7 ((raisedL NN EE us e0 e1).length) cp8)), (1, 74, (.int .i64 ((i : Nat) : Int))), (2, 75, (.pointer (some (ad bs7 i)))), (3, 76, (.int .i64 ((raisedL NN EE us e0 e1).getD i 0))), (4, 77, (.bool false)), (5, 78, (.bool false)), (6, 79, (.slice bs7 ((raisedL NN EE us e0 e1).length) cp8)), (7, 80, (.int .i64 ((i : Nat) : Int))), (8, 81, (.pointer (some (ad bs7 i)))), (9, 82, (.int .i64 ((raisedL NN EE us e0 e1).getD i 0))), (10, 83, (.slice bs11 NN cp12)), (11, 84, (.int .i64 ((NN : Nat) : Int))), (12, 85, (.bool false)), (13, 86, (.bool false)), (14, 87, (.bool false)), (15, 88, (.slice bs7 ((raisedL NN EE us e0 e1).length) cp8)), (16, 89, (.int .i64 ((i : Nat) : Int))), (17, 90, (.pointer (some (ad bs7 i)))), (18, 91, (.int .i64 ((raisedL NN EE us e0 e1).getD i 0))), (19, 92, (.bool false)), (20, 93, (.bool false)), (21, 94, (.bool false)), (22, 95, (.int .i64 ((i : Nat) : Int))), (23, 96, (.bool true)), (24, 97, (.bool true)), (25, 98, (.slice bs7 ((raisedL NN EE us e0 e1).length) cp8)), (26, 99, (.int .i64 ((i : Nat) : Int))), (27, 100, (.int .i64 ((i - 1 : Nat) : Int))), (28, 101, (.pointer (some (ad bs7 (i - 1))))), (29, 102, (.int .i64 ((raisedL NN EE us e0 e1).getD (i - 1) 0))), (30, 103, (.slice bs7 ((raisedL NN EE us e0 e1).length) cp8)), (31, 104, (.int .i64 ((i : Nat) : Int))), (32, 105, (.pointer (some (ad bs7 i)))), (33, 106, (.int .i64 ((raisedL NN EE us e0 e1).getD i 0))), (34, 107, (.bool false)), (35, 108, (.bool false)), (36, 109, (.bool false)), (37, 110, (.bool false)), (38, 111, (.pointer (some ⟨p2, 0, none⟩))), (39, 112, (.pointer (some ⟨b1, 1, none⟩))), (40, 113, (.int .i64 e1)), (41, 114, (.slice bs7 ((raisedL NN EE us e0 e1).length) cp8)), (42, 115, (.int .i64 ((i : Nat) : Int))), (43, 116, (.pointer (some (ad bs7 i)))), (44, 117, (.int .i64 ((raisedL NN EE us e0 e1).getD i 0))), (45, 118, (.bool true)), (46, 119, (.bool false)), (47, 120, (.bool false)), (48, 121, (.bool false)), (49, 122, (.slice bs11 NN cp12)), (50, 123, (.slice bs7 ((raisedL NN EE us e0 e1).length) cp8)), (51, 124, (.int .i64 ((i : Nat) : Int))), (52, 125, (.pointer (some (ad bs7 i)))), (53, 126, (.int .i64 ((raisedL NN EE us e0 e1).getD i 0))), (54, 127, (.pointer (some (ad bs11 (((raisedL NN EE us e0 e1).getD i 0).toNat))))), (55, 128, (.int .i64 ((ofL NN (addE NN EE e0 e1) us).getD (((raisedL NN EE us e0 e1).getD i 0).toNat) 0))), (56, 129, (.slice bs11 NN cp12)), (57, 130, (.pointer (some ⟨b1, 0, none⟩))), (58, 131, (.int .i64 e0)), (59, 132, (.pointer (some (ad bs11 e0.toNat)))), (60, 133, (.int .i64 ((ofL NN (addE NN EE e0 e1) us).getD e0.toNat 0))), (61, 134, (.bool false)), (62, 135, (.bool false))]) (fun _ S => (Blk b20 (bools bs) 49) :: (SlV 3 1 (.slice bs11 NN cp12) NN (ints .i64 (ofL NN (addE NN EE e0 e1) us))) :: (GraphO p2 NN (addE NN EE e0 e1)) :: (SlV 3 1 (.slice bs7 ((raisedL NN EE us e0 e1).length) cp8) ((raisedL NN EE us e0 e1).length) (ints .i64 (raisedL NN EE us e0 e1))) :: (SlV 3 1 (.slice bs3 NN cp4) NN (ints .i64 (ofL NN EE us))) :: (Blk b1 [(.int .i64 e0), (.int .i64 e1)] 33) :: R) (()) trivial (fun _ h => h) (fun _ _ h => h) ?_ ?_
        · -- steps
         refine ⟨?_, ?_, ?_, ?_, ?_, ?_, ?_, ?_, ?_, ?_, ?_, ?_, ?_, ?_, ?_, ?_, ?_, ?_, ?_, ?_, ?_, ?_, ?_, ?_, ?_, ?_, ?_, ?_, ?_, ?_, ?_, ?_, ?_, ?_, ?_, ?_, ?_, ?_, ?_, ?_, ?_, ?_, ?_, ?_, ?_, ?_, ?_, ?_, ?_, ?_, ?_, ?_, ?_, ?_, ?_, ?_, ?_, ?_, ?_, ?_, ?_, ?_, ?_, trivial⟩
         · -- 0
          rintro _ S hF hS D hp K hK
          try dsimp only at hF ⊢
          refine d_need (small := [(12, (.slice bs7 ((raisedL NN EE us e0 e1).length) cp8))]) ⟨look_b rfl rfl, trivial⟩ ?_
          refine tp rfl (lv_move rfl) ?_
          exact d_closes ⟨look_b rfl rfl, trivial⟩ 0 rfl rfl rfl hS (AgreeR.refl _) (t_sat (fun _ h => h) (hK () trivial))
         · -- 1
          rintro _ S hF hS D hp K hK
          try dsimp only at hF ⊢
          refine d_need (small := [(17, (.int .i64 ((i : Nat) : Int)))]) ⟨look_b rfl rfl, trivial⟩ ?_
          refine tp rfl (lv_move rfl) ?_
          exact d_closes ⟨look_b rfl rfl, trivial⟩ 1 rfl rfl rfl hS (AgreeR.refl _) (t_sat (fun _ h => h) (hK () trivial))
         · -- 2
          rintro _ S hF hS D hp K hK
          try dsimp only at hF ⊢
          have s0 := hp 0 rfl
          have s1 := hp 1 rfl
          refine d_need (small := [(73, (.slice bs7 ((raisedL NN EE us e0 e1).length) cp8)), (74, (.int .i64 ((i : Nat) : Int)))]) ⟨look_row rfl 0 rfl s0, look_row rfl 1 rfl s1, trivial⟩ ?_
          refine tp rfl (lv_indexAddr (k' := i) Tryd.underlying38 Tryd.sizeOf3 rfl rfl hok9 (by omega) (by omega) (by omega)) ?_
          exact d_closes ⟨look_row rfl 0 rfl s0, look_row rfl 1 rfl s1, trivial⟩ 2 rfl rfl rfl hS (AgreeR.refl _) (t_sat (fun _ h => h) (hK () trivial))
         · -- 3
          rintro _ S hF hS D hp K hK
          try dsimp only at hF ⊢
          have s2 := hp 2 rfl
          refine d_need (small := [(75, (.pointer (some (ad bs7 i))))]) ⟨look_row rfl 2 rfl s2, trivial⟩ ?_
          refine tp rfl (lv_load Tryd.isAgg3 rfl (gives_sl (.tail _ (.tail _ (.tail _ (.head _)))) (ints_get (by omega)))) ?_
          exact d_closes ⟨look_row rfl 2 rfl s2, trivial⟩ 3 rfl rfl rfl hS (AgreeR.refl _) (t_sat (fun _ h => h) (hK () trivial))
         · -- 4
          rintro _ S hF hS D hp K hK
          try dsimp only at hF ⊢
          have s3 := hp 3 rfl
          refine d_need (small := [(76, (.int .i64 ((raisedL NN EE us e0 e1).getD i 0)))]) ⟨look_row rfl 3 rfl s3, trivial⟩ ?_
          refine tp rfl (lv_lss rfl rfl (decide_eq_false (by omega))) ?_
          exact d_closes ⟨look_row rfl 3 rfl s3, trivial⟩ 4 rfl rfl rfl hS (AgreeR.refl _) (t_sat (fun _ h => h) (hK () trivial))
         · -- 5
          rintro _ S hF hS D hp K hK
          try dsimp only at hF ⊢
          have s4 := hp 4 rfl
          refine d_need (small := [(77, (.bool false))]) ⟨look_row rfl 4 rfl s4, trivial⟩ ?_
          refine tp rfl (lv_move rfl) ?_
          exact d_closes ⟨look_row rfl 4 rfl s4, trivial⟩ 5 rfl rfl rfl hS (AgreeR.refl _) (t_sat (fun _ h => h) (hK () trivial))
         · -- 6
          rintro _ S hF hS D hp K hK
          try dsimp only at hF ⊢
          have s5 := hp 5 rfl
          refine d_need (small := [(12, (.slice bs7 ((raisedL NN EE us e0 e1).length) cp8)), (78, (.bool false))]) ⟨look_b rfl rfl, look_row rfl 5 rfl s5, trivial⟩ ?_
          refine t_guard rfl rfl ?_
          refine tp rfl (lv_move rfl) ?_
          exact d_closes ⟨look_b rfl rfl, look_row rfl 5 rfl s5, trivial⟩ 6 rfl rfl rfl hS (AgreeR.refl _) (t_sat (fun _ h => h) (hK () trivial))
         · -- 7
          rintro _ S hF hS D hp K hK
          try dsimp only at hF ⊢
          have s5 := hp 5 rfl
          refine d_need (small := [(17, (.int .i64 ((i : Nat) : Int))), (78, (.bool false))]) ⟨look_b rfl rfl, look_row rfl 5 rfl s5, trivial⟩ ?_
          refine t_guard rfl rfl ?_
          refine tp rfl (lv_move rfl) ?_
          exact d_closes ⟨look_b rfl rfl, look_row rfl 5 rfl s5, trivial⟩ 7 rfl rfl rfl hS (AgreeR.refl _) (t_sat (fun _ h => h) (hK () trivial))
         · -- 8
          rintro _ S hF hS D hp K hK
          try dsimp only at hF ⊢
          have s5 := hp 5 rfl
          have s6 := hp 6 rfl
          have s7 := hp 7 rfl
          refine d_need (small := [(78, (.bool false)), (79, (.slice bs7 ((raisedL NN EE us e0 e1).length) cp8)), (80, (.int .i64 ((i : Nat) : Int)))]) ⟨look_row rfl 5 rfl s5, look_row rfl 6 rfl s6, look_row rfl 7 rfl s7, trivial⟩ ?_
          refine t_guard rfl rfl ?_
          refine tp rfl (lv_indexAddr (k' := i) Tryd.underlying38 Tryd.sizeOf3 rfl rfl hok9 (by omega) (by omega) (by omega)) ?_
          exact d_closes ⟨look_row rfl 5 rfl s5, look_row rfl 6 rfl s6, look_row rfl 7 rfl s7, trivial⟩ 8 rfl rfl rfl hS (AgreeR.refl _) (t_sat (fun _ h => h) (hK () trivial))
         · -- 9
          rintro _ S hF hS D hp K hK
          try dsimp only at hF ⊢
          have s5 := hp 5 rfl
          have s8 := hp 8 rfl
          refine d_need (small := [(78, (.bool false)), (81, (.pointer (some (ad bs7 i))))]) ⟨look_row rfl 5 rfl s5, look_row rfl 8 rfl s8, trivial⟩ ?_
          refine t_guard rfl rfl ?_
          refine tp rfl (lv_load Tryd.isAgg3 rfl (gives_sl (.tail _ (.tail _ (.tail _ (.head _)))) (ints_get (by omega)))) ?_
          exact d_closes ⟨look_row rfl 5 rfl s5, look_row rfl 8 rfl s8, trivial⟩ 9 rfl rfl rfl hS (AgreeR.refl _) (t_sat (fun _ h => h) (hK () trivial))
         · -- 10
          rintro _ S hF hS D hp K hK
          try dsimp only at hF ⊢
          have s5 := hp 5 rfl
          refine d_need (small := [(15, (.slice bs11 NN cp12)), (78, (.bool false))]) ⟨look_b rfl rfl, look_row rfl 5 rfl s5, trivial⟩ ?_
          refine t_guard rfl rfl ?_
          refine tp rfl (lv_move rfl) ?_
          exact d_closes ⟨look_b rfl rfl, look_row rfl 5 rfl s5, trivial⟩ 10 rfl rfl rfl hS (AgreeR.refl _) (t_sat (fun _ h => h) (hK () trivial))
         · -- 11
          rintro _ S hF hS D hp K hK
          try dsimp only at hF ⊢
          have s5 := hp 5 rfl
          have s10 := hp 10 rfl
          refine d_need (small := [(78, (.bool false)), (83, (.slice bs11 NN cp12))]) ⟨look_row rfl 5 rfl s5, look_row rfl 10 rfl s10, trivial⟩ ?_
          refine t_guard rfl rfl ?_
          refine tp rfl (lv_len Tryd.underlying38 rfl rfl) ?_
          exact d_closes ⟨look_row rfl 5 rfl s5, look_row rfl 10 rfl s10, trivial⟩ 11 rfl rfl rfl hS (AgreeR.refl _) (t_sat (fun _ h => h) (hK () trivial))
         · -- 12
          rintro _ S hF hS D hp K hK
          try dsimp only at hF ⊢
          have s5 := hp 5 rfl
          have s9 := hp 9 rfl
          have s11 := hp 11 rfl
          refine d_need (small := [(78, (.bool false)), (82, (.int .i64 ((raisedL NN EE us e0 e1).getD i 0))), (84, (.int .i64 ((NN : Nat) : Int)))]) ⟨look_row rfl 5 rfl s5, look_row rfl 9 rfl s9, look_row rfl 11 rfl s11, trivial⟩ ?_
          refine t_guard rfl rfl ?_
          refine tp rfl (lv_geq rfl rfl (decide_eq_false (by omega))) ?_
          exact d_closes ⟨look_row rfl 5 rfl s5, look_row rfl 9 rfl s9, look_row rfl 11 rfl s11, trivial⟩ 12 rfl rfl rfl hS (AgreeR.refl _) (t_sat (fun _ h => h) (hK () trivial))
         · -- 13
          rintro _ S hF hS D hp K hK
          try dsimp only at hF ⊢
          have s5 := hp 5 rfl
          have s12 := hp 12 rfl
          refine d_need (small := [(78, (.bool false)), (85, (.bool false))]) ⟨look_row rfl 5 rfl s5, look_row rfl 12 rfl s12, trivial⟩ ?_
          refine tp rfl (lv_pick_f rfl rfl) ?_
          exact d_closes ⟨look_row rfl 5 rfl s5, look_row rfl 12 rfl s12, trivial⟩ 13 rfl rfl rfl hS (AgreeR.refl _) (t_sat (fun _ h => h) (hK () trivial))
         · -- 14
          rintro _ S hF hS D hp K hK
          try dsimp only at hF ⊢
          have s13 := hp 13 rfl
          refine d_need (small := [(86, (.bool false))]) ⟨look_row rfl 13 rfl s13, trivial⟩ ?_
          refine tp rfl (lv_move rfl) ?_
          exact d_closes ⟨look_row rfl 13 rfl s13, trivial⟩ 14 rfl rfl rfl hS (AgreeR.refl _) (t_sat (fun _ h => h) (hK () trivial))
         · -- 15
          rintro _ S hF hS D hp K hK
          try dsimp only at hF ⊢
          have s14 := hp 14 rfl
          refine d_need (small := [(12, (.slice bs7 ((raisedL NN EE us e0 e1).length) cp8)), (87, (.bool false))]) ⟨look_b rfl rfl, look_row rfl 14 rfl s14, trivial⟩ ?_
          refine t_guard rfl rfl ?_
          refine tp rfl (lv_move rfl) ?_
          exact d_closes ⟨look_b rfl rfl, look_row rfl 14 rfl s14, trivial⟩ 15 rfl rfl rfl hS (AgreeR.refl _) (t_sat (fun _ h => h) (hK () trivial))
         · -- 16
          rintro _ S hF hS D hp K hK
          try dsimp only at hF ⊢
          have s14 := hp 14 rfl
          refine d_need (small := [(17, (.int .i64 ((i : Nat) : Int))), (87, (.bool false))]) ⟨look_b rfl rfl, look_row rfl 14 rfl s14, trivial⟩ ?_
          refine t_guard rfl rfl ?_
          refine tp rfl (lv_move rfl) ?_
          exact d_closes ⟨look_b rfl rfl, look_row rfl 14 rfl s14, trivial⟩ 16 rfl rfl rfl hS (AgreeR.refl _) (t_sat (fun _ h => h) (hK () trivial))
         · -- 17
          rintro _ S hF hS D hp K hK
          try dsimp only at hF ⊢
          have s14 := hp 14 rfl
          have s15 := hp 15 rfl
          have s16 := hp 16 rfl
          refine d_need (small := [(87, (.bool false)), (88, (.slice bs7 ((raisedL NN EE us e0 e1).length) cp8)), (89, (.int .i64 ((i : Nat) : Int)))]) ⟨look_row rfl 14 rfl s14, look_row rfl 15 rfl s15, look_row rfl 16 rfl s16, trivial⟩ ?_
          refine t_guard rfl rfl ?_
          refine tp rfl (lv_indexAddr (k' := i) Tryd.underlying38 Tryd.sizeOf3 rfl rfl hok9 (by omega) (by omega) (by omega)) ?_
          exact d_closes ⟨look_row rfl 14 rfl s14, look_row rfl 15 rfl s15, look_row rfl 16 rfl s16, trivial⟩ 17 rfl rfl rfl hS (AgreeR.refl _) (t_sat (fun _ h => h) (hK () trivial))
         · -- 18
          rintro _ S hF hS D hp K hK
          try dsimp only at hF ⊢
          have s14 := hp 14 rfl
          have s17 := hp 17 rfl
          refine d_need (small := [(87, (.bool false)), (90, (.pointer (some (ad bs7 i))))]) ⟨look_row rfl 14 rfl s14, look_row rfl 17 rfl s17, trivial⟩ ?_
          refine t_guard rfl rfl ?_
          refine tp rfl (lv_load Tryd.isAgg3 rfl (gives_sl (.tail _ (.tail _ (.tail _ (.head _)))) (ints_get (by first | omega | (simp; omega))))) ?_
          exact d_closes ⟨look_row rfl 14 rfl s14, look_row rfl 17 rfl s17, trivial⟩ 18 rfl rfl rfl hS (AgreeR.refl _) (t_sat (fun _ h => h) (hK () trivial))
         · -- 19
          rintro _ S hF hS D hp K hK
          try dsimp only at hF ⊢
          have s14 := hp 14 rfl
          have s18 := hp 18 rfl
          refine d_need (small := [(87, (.bool false)), (91, (.int .i64 ((raisedL NN EE us e0 e1).getD i 0)))]) ⟨look_row rfl 14 rfl s14, look_row rfl 18 rfl s18, trivial⟩ ?_
          refine t_guard rfl rfl ?_
          refine tp rfl (lv_geq rfl rfl (decide_eq_false (by omega))) ?_
          exact d_closes ⟨look_row rfl 14 rfl s14, look_row rfl 18 rfl s18, trivial⟩ 19 rfl rfl rfl hS (AgreeR.refl _) (t_sat (fun _ h => h) (hK () trivial))
         · -- 20
          rintro _ S hF hS D hp K hK
          try dsimp only at hF ⊢
          have s14 := hp 14 rfl
          have s19 := hp 19 rfl
          refine d_need (small := [(87, (.bool false)), (92, (.bool false))]) ⟨look_row rfl 14 rfl s14, look_row rfl 19 rfl s19, trivial⟩ ?_
          refine tp rfl (lv_pick_f rfl rfl) ?_
          exact d_closes ⟨look_row rfl 14 rfl s14, look_row rfl 19 rfl s19, trivial⟩ 20 rfl rfl rfl hS (AgreeR.refl _) (t_sat (fun _ h => h) (hK () trivial))
         · -- 21
          rintro _ S hF hS D hp K hK
          try dsimp only at hF ⊢
          have s20 := hp 20 rfl
          refine d_need (small := [(93, (.bool false))]) ⟨look_row rfl 20 rfl s20, trivial⟩ ?_
          refine tp rfl (lv_move rfl) ?_
          exact d_closes ⟨look_row rfl 20 rfl s20, trivial⟩ 21 rfl rfl rfl hS (AgreeR.refl _) (t_sat (fun _ h => h) (hK () trivial))
         · -- 22
          rintro _ S hF hS D hp K hK
          try dsimp only at hF ⊢
          have s21 := hp 21 rfl
          refine d_need (small := [(17, (.int .i64 ((i : Nat) : Int))), (94, (.bool false))]) ⟨look_b rfl rfl, look_row rfl 21 rfl s21, trivial⟩ ?_
          refine t_guard rfl rfl ?_
          refine tp rfl (lv_move rfl) ?_
          exact d_closes ⟨look_b rfl rfl, look_row rfl 21 rfl s21, trivial⟩ 22 rfl rfl rfl hS (AgreeR.refl _) (t_sat (fun _ h => h) (hK () trivial))
         · -- 23
          rintro _ S hF hS D hp K hK
          try dsimp only at hF ⊢
          have s21 := hp 21 rfl
          have s22 := hp 22 rfl
          refine d_need (small := [(94, (.bool false)), (95, (.int .i64 ((i : Nat) : Int)))]) ⟨look_row rfl 21 rfl s21, look_row rfl 22 rfl s22, trivial⟩ ?_
          refine t_guard rfl rfl ?_
          refine tp rfl (lv_gtr rfl rfl (decide_eq_true h22)) ?_
          exact d_closes ⟨look_row rfl 21 rfl s21, look_row rfl 22 rfl s22, trivial⟩ 23 rfl rfl rfl hS (AgreeR.refl _) (t_sat (fun _ h => h) (hK () trivial))
         · -- 24
          rintro _ S hF hS D hp K hK
          try dsimp only at hF ⊢
          have s21 := hp 21 rfl
          have s23 := hp 23 rfl
          refine d_need (small := [(94, (.bool false)), (96, (.bool true))]) ⟨look_row rfl 21 rfl s21, look_row rfl 23 rfl s23, trivial⟩ ?_
          refine t_guard rfl rfl ?_
          refine tp rfl (lv_move rfl) ?_
          exact d_closes ⟨look_row rfl 21 rfl s21, look_row rfl 23 rfl s23, trivial⟩ 24 rfl rfl rfl hS (AgreeR.refl _) (t_sat (fun _ h => h) (hK () trivial))
         · -- 25
          rintro _ S hF hS D hp K hK
          try dsimp only at hF ⊢
          have s24 := hp 24 rfl
          refine d_need (small := [(12, (.slice bs7 ((raisedL NN EE us e0 e1).length) cp8)), (97, (.bool true))]) ⟨look_b rfl rfl, look_row rfl 24 rfl s24, trivial⟩ ?_
          refine t_guard rfl rfl ?_
          refine tp rfl (lv_move rfl) ?_
          exact d_closes ⟨look_b rfl rfl, look_row rfl 24 rfl s24, trivial⟩ 25 rfl rfl rfl hS (AgreeR.refl _) (t_sat (fun _ h => h) (hK () trivial))
         · -- 26
          rintro _ S hF hS D hp K hK
          try dsimp only at hF ⊢
          have s24 := hp 24 rfl
          refine d_need (small := [(17, (.int .i64 ((i : Nat) : Int))), (97, (.bool true))]) ⟨look_b rfl rfl, look_row rfl 24 rfl s24, trivial⟩ ?_
          refine t_guard rfl rfl ?_
          refine tp rfl (lv_move rfl) ?_
          exact d_closes ⟨look_b rfl rfl, look_row rfl 24 rfl s24, trivial⟩ 26 rfl rfl rfl hS (AgreeR.refl _) (t_sat (fun _ h => h) (hK () trivial))
         · -- 27
          rintro _ S hF hS D hp K hK
          try dsimp only at hF ⊢
          have s24 := hp 24 rfl
          have s26 := hp 26 rfl
          refine d_need (small := [(97, (.bool true)), (99, (.int .i64 ((i : Nat) : Int)))]) ⟨look_row rfl 24 rfl s24, look_row rfl 26 rfl s26, trivial⟩ ?_
          refine t_guard rfl rfl ?_
          refine tp rfl (lv_sub (c := ((i - 1 : Nat) : Int)) rfl rfl ((wr_i64 (by omega) (by omega)).trans (by omega))) ?_
          exact d_closes ⟨look_row rfl 24 rfl s24, look_row rfl 26 rfl s26, trivial⟩ 27 rfl rfl rfl hS (AgreeR.refl _) (t_sat (fun _ h => h) (hK () trivial))
         · -- 28
          rintro _ S hF hS D hp K hK
          try dsimp only at hF ⊢
          have s24 := hp 24 rfl
          have s25 := hp 25 rfl
          have s27 := hp 27 rfl
          refine d_need (small := [(97, (.bool true)), (98, (.slice bs7 ((raisedL NN EE us e0 e1).length) cp8)), (100, (.int .i64 ((i - 1 : Nat) : Int)))]) ⟨look_row rfl 24 rfl s24, look_row rfl 25 rfl s25, look_row rfl 27 rfl s27, trivial⟩ ?_
          refine t_guard rfl rfl ?_
          refine tp rfl (lv_indexAddr (k' := i - 1) Tryd.underlying38 Tryd.sizeOf3 rfl rfl hok9 (by omega) (by omega) (by omega)) ?_
          exact d_closes ⟨look_row rfl 24 rfl s24, look_row rfl 25 rfl s25, look_row rfl 27 rfl s27, trivial⟩ 28 rfl rfl rfl hS (AgreeR.refl _) (t_sat (fun _ h => h) (hK () trivial))
         · -- 29
          rintro _ S hF hS D hp K hK
          try dsimp only at hF ⊢
          have s24 := hp 24 rfl
          have s28 := hp 28 rfl
          refine d_need (small := [(97, (.bool true)), (101, (.pointer (some (ad bs7 (i - 1)))))]) ⟨look_row rfl 24 rfl s24, look_row rfl 28 rfl s28, trivial⟩ ?_
          refine t_guard rfl rfl ?_
          refine tp rfl (lv_load Tryd.isAgg3 rfl (gives_sl (.tail _ (.tail _ (.tail _ (.head _)))) (ints_get (by omega)))) ?_
          exact d_closes ⟨look_row rfl 24 rfl s24, look_row rfl 28 rfl s28, trivial⟩ 29 rfl rfl rfl hS (AgreeR.refl _) (t_sat (fun _ h => h) (hK () trivial))
         · -- 30
          rintro _ S hF hS D hp K hK
          try dsimp only at hF ⊢
          have s24 := hp 24 rfl
          refine d_need (small := [(12, (.slice bs7 ((raisedL NN EE us e0 e1).length) cp8)), (97, (.bool true))]) ⟨look_b rfl rfl, look_row rfl 24 rfl s24, trivial⟩ ?_
          refine t_guard rfl rfl ?_
          refine tp rfl (lv_move rfl) ?_
          exact d_closes ⟨look_b rfl rfl, look_row rfl 24 rfl s24, trivial⟩ 30 rfl rfl rfl hS (AgreeR.refl _) (t_sat (fun _ h => h) (hK () trivial))
         · -- 31
          rintro _ S hF hS D hp K hK
          try dsimp only at hF ⊢
          have s24 := hp 24 rfl
          refine d_need (small := [(17, (.int .i64 ((i : Nat) : Int))), (97, (.bool true))]) ⟨look_b rfl rfl, look_row rfl 24 rfl s24, trivial⟩ ?_
          refine t_guard rfl rfl ?_
          refine tp rfl (lv_move rfl) ?_
          exact d_closes ⟨look_b rfl rfl, look_row rfl 24 rfl s24, trivial⟩ 31 rfl rfl rfl hS (AgreeR.refl _) (t_sat (fun _ h => h) (hK () trivial))
         · -- 32
          rintro _ S hF hS D hp K hK
          try dsimp only at hF ⊢
          have s24 := hp 24 rfl
          have s30 := hp 30 rfl
          have s31 := hp 31 rfl
          refine d_need (small := [(97, (.bool true)), (103, (.slice bs7 ((raisedL NN EE us e0 e1).length) cp8)), (104, (.int .i64 ((i : Nat) : Int)))]) ⟨look_row rfl 24 rfl s24, look_row rfl 30 rfl s30, look_row rfl 31 rfl s31, trivial⟩ ?_
          refine t_guard rfl rfl ?_
          refine tp rfl (lv_indexAddr (k' := i) Tryd.underlying38 Tryd.sizeOf3 rfl rfl hok9 (by omega) (by omega) (by omega)) ?_
          exact d_closes ⟨look_row rfl 24 rfl s24, look_row rfl 30 rfl s30, look_row rfl 31 rfl s31, trivial⟩ 32 rfl rfl rfl hS (AgreeR.refl _) (t_sat (fun _ h => h) (hK () trivial))
         · -- 33
          rintro _ S hF hS D hp K hK
          try dsimp only at hF ⊢
          have s24 := hp 24 rfl
          have s32 := hp 32 rfl
          refine d_need (small := [(97, (.bool true)), (105, (.pointer (some (ad bs7 i))))]) ⟨look_row rfl 24 rfl s24, look_row rfl 32 rfl s32, trivial⟩ ?_
          refine t_guard rfl rfl ?_
          refine tp rfl (lv_load Tryd.isAgg3 rfl (gives_sl (.tail _ (.tail _ (.tail _ (.head _)))) (ints_get (by omega)))) ?_
          exact d_closes ⟨look_row rfl 24 rfl s24, look_row rfl 32 rfl s32, trivial⟩ 33 rfl rfl rfl hS (AgreeR.refl _) (t_sat (fun _ h => h) (hK () trivial))
         · -- 34
          rintro _ S hF hS D hp K hK
          try dsimp only at hF ⊢
          have s24 := hp 24 rfl
          have s29 := hp 29 rfl
          have s33 := hp 33 rfl
          refine d_need (small := [(97, (.bool true)), (102, (.int .i64 ((raisedL NN EE us e0 e1).getD (i - 1) 0))), (106, (.int .i64 ((raisedL NN EE us e0 e1).getD i 0)))]) ⟨look_row rfl 24 rfl s24, look_row rfl 29 rfl s29, look_row rfl 33 rfl s33, trivial⟩ ?_
          refine t_guard rfl rfl ?_
          refine tp rfl (lv_geq rfl rfl (decide_eq_false (by have := hup (by omega); omega))) ?_
          exact d_closes ⟨look_row rfl 24 rfl s24, look_row rfl 29 rfl s29, look_row rfl 33 rfl s33, trivial⟩ 34 rfl rfl rfl hS (AgreeR.refl _) (t_sat (fun _ h => h) (hK () trivial))
         · -- 35
          rintro _ S hF hS D hp K hK
          try dsimp only at hF ⊢
          have s21 := hp 21 rfl
          have s24 := hp 24 rfl
          have s34 := hp 34 rfl
          refine d_need (small := [(94, (.bool false)), (97, (.bool true)), (107, (.bool false))]) ⟨look_row rfl 21 rfl s21, look_row rfl 24 rfl s24, look_row rfl 34 rfl s34, trivial⟩ ?_
          refine t_guard rfl rfl ?_
          refine tp rfl (lv_pick_t rfl rfl) ?_
          exact d_closes ⟨look_row rfl 21 rfl s21, look_row rfl 24 rfl s24, look_row rfl 34 rfl s34, trivial⟩ 35 rfl rfl rfl hS (AgreeR.refl _) (t_sat (fun _ h => h) (hK () trivial))
         · -- 36
          rintro _ S hF hS D hp K hK
          try dsimp only at hF ⊢
          have s21 := hp 21 rfl
          have s35 := hp 35 rfl
          refine d_need (small := [(94, (.bool false)), (108, (.bool false))]) ⟨look_row rfl 21 rfl s21, look_row rfl 35 rfl s35, trivial⟩ ?_
          refine tp rfl (lv_pick_f rfl rfl) ?_
          exact d_closes ⟨look_row rfl 21 rfl s21, look_row rfl 35 rfl s35, trivial⟩ 36 rfl rfl rfl hS (AgreeR.refl _) (t_sat (fun _ h => h) (hK () trivial))
         · -- 37
          rintro _ S hF hS D hp K hK
          try dsimp only at hF ⊢
          have s36 := hp 36 rfl
          refine d_need (small := [(109, (.bool false))]) ⟨look_row rfl 36 rfl s36, trivial⟩ ?_
          refine tp rfl (lv_move rfl) ?_
          exact d_closes ⟨look_row rfl 36 rfl s36, trivial⟩ 37 rfl rfl rfl hS (AgreeR.refl _) (t_sat (fun _ h => h) (hK () trivial))
         · -- 38
          rintro _ S hF hS D hp K hK
          try dsimp only at hF ⊢
          have s37 := hp 37 rfl
          refine d_need (small := [(10, (.pointer (some ⟨p2, 0, none⟩))), (110, (.bool false))]) ⟨look_b rfl rfl, look_row rfl 37 rfl s37, trivial⟩ ?_
          refine t_guard rfl rfl ?_
          refine tp rfl (lv_move rfl) ?_
          exact d_closes ⟨look_b rfl rfl, look_row rfl 37 rfl s37, trivial⟩ 38 rfl rfl rfl hS (AgreeR.refl _) (t_sat (fun _ h => h) (hK () trivial))
         · -- 39
          rintro _ S hF hS D hp K hK
          try dsimp only at hF ⊢
          have s37 := hp 37 rfl
          refine d_need (small := [(7, (.pointer (some ⟨b1, 0, none⟩))), (110, (.bool false))]) ⟨look_b rfl rfl, look_row rfl 37 rfl s37, trivial⟩ ?_
          refine t_guard rfl rfl ?_
          refine tp rfl (lv_fieldAddr (o' := 1) Tryd.underlying33 rfl Tryd.sizeOf3 rfl rfl) ?_
          exact d_closes ⟨look_b rfl rfl, look_row rfl 37 rfl s37, trivial⟩ 39 rfl rfl rfl hS (AgreeR.refl _) (t_sat (fun _ h => h) (hK () trivial))
         · -- 40
          rintro _ S hF hS D hp K hK
          try dsimp only at hF ⊢
          have s37 := hp 37 rfl
          have s39 := hp 39 rfl
          refine d_need (small := [(110, (.bool false)), (112, (.pointer (some ⟨b1, 1, none⟩)))]) ⟨look_row rfl 37 rfl s37, look_row rfl 39 rfl s39, trivial⟩ ?_
          refine t_guard rfl rfl ?_
          refine tp rfl (lv_load Tryd.isAgg3 rfl (gives_blk (.tail _ (.tail _ (.tail _ (.tail _ (.tail _ (.head _)))))) rfl)) ?_
          exact d_closes ⟨look_row rfl 37 rfl s37, look_row rfl 39 rfl s39, trivial⟩ 40 rfl rfl rfl hS (AgreeR.refl _) (t_sat (fun _ h => h) (hK () trivial))
         · -- 41
          rintro _ S hF hS D hp K hK
          try dsimp only at hF ⊢
          have s37 := hp 37 rfl
          refine d_need (small := [(12, (.slice bs7 ((raisedL NN EE us e0 e1).length) cp8)), (110, (.bool false))]) ⟨look_b rfl rfl, look_row rfl 37 rfl s37, trivial⟩ ?_
          refine t_guard rfl rfl ?_
          refine tp rfl (lv_move rfl) ?_
          exact d_closes ⟨look_b rfl rfl, look_row rfl 37 rfl s37, trivial⟩ 41 rfl rfl rfl hS (AgreeR.refl _) (t_sat (fun _ h => h) (hK () trivial))
         · -- 42
          rintro _ S hF hS D hp K hK
          try dsimp only at hF ⊢
          have s37 := hp 37 rfl
          refine d_need (small := [(17, (.int .i64 ((i : Nat) : Int))), (110, (.bool false))]) ⟨look_b rfl rfl, look_row rfl 37 rfl s37, trivial⟩ ?_
          refine t_guard rfl rfl ?_
          refine tp rfl (lv_move rfl) ?_
          exact d_closes ⟨look_b rfl rfl, look_row rfl 37 rfl s37, trivial⟩ 42 rfl rfl rfl hS (AgreeR.refl _) (t_sat (fun _ h => h) (hK () trivial))
         · -- 43
          rintro _ S hF hS D hp K hK
          try dsimp only at hF ⊢
          have s37 := hp 37 rfl
          have s41 := hp 41 rfl
          have s42 := hp 42 rfl
          refine d_need (small := [(110, (.bool false)), (114, (.slice bs7 ((raisedL NN EE us e0 e1).length) cp8)), (115, (.int .i64 ((i : Nat) : Int)))]) ⟨look_row rfl 37 rfl s37, look_row rfl 41 rfl s41, look_row rfl 42 rfl s42, trivial⟩ ?_
          refine t_guard rfl rfl ?_
          refine tp rfl (lv_indexAddr (k' := i) Tryd.underlying38 Tryd.sizeOf3 rfl rfl hok9 (by omega) (by omega) (by omega)) ?_
          exact d_closes ⟨look_row rfl 37 rfl s37, look_row rfl 41 rfl s41, look_row rfl 42 rfl s42, trivial⟩ 43 rfl rfl rfl hS (AgreeR.refl _) (t_sat (fun _ h => h) (hK () trivial))
         · -- 44
          rintro _ S hF hS D hp K hK
          try dsimp only at hF ⊢
          have s37 := hp 37 rfl
          have s43 := hp 43 rfl
          refine d_need (small := [(110, (.bool false)), (116, (.pointer (some (ad bs7 i))))]) ⟨look_row rfl 37 rfl s37, look_row rfl 43 rfl s43, trivial⟩ ?_
          refine t_guard rfl rfl ?_
          refine tp rfl (lv_load Tryd.isAgg3 rfl (gives_sl (.tail _ (.tail _ (.tail _ (.head _)))) (ints_get (by omega)))) ?_
          exact d_closes ⟨look_row rfl 37 rfl s37, look_row rfl 43 rfl s43, trivial⟩ 44 rfl rfl rfl hS (AgreeR.refl _) (t_sat (fun _ h => h) (hK () trivial))
         · -- 45
          rintro _ S hF hS D hp K hK
          try dsimp only at hF ⊢
          have s37 := hp 37 rfl
          have s38 := hp 38 rfl
          have s40 := hp 40 rfl
          have s44 := hp 44 rfl
          refine d_need (small := [(110, (.bool false)), (111, (.pointer (some ⟨p2, 0, none⟩))), (113, (.int .i64 e1)), (117, (.int .i64 ((raisedL NN EE us e0 e1).getD i 0)))]) ⟨look_row rfl 37 rfl s37, look_row rfl 38 rfl s38, look_row rfl 40 rfl s40, look_row rfl 44 rfl s44, trivial⟩ ?_
          refine t_guard rfl rfl ?_
          refine t_f2 ?_
          refine tc rfl (en_fn Tryd.call20 rfl) (reaches_ok (N := NN) (es := addE NN EE e0 e1) e1 ((raisedL NN EE us e0 e1).getD i 0) (Tab.cons (Tab.cons (Tab.cons (Tab.cons (Tab.cons hT)))))) ?_
          rintro _ _ ⟨rfl, rfl⟩
          rw [show reachB NN (addE NN EE e0 e1) e1 ((raisedL NN EE us e0 e1).getD i 0) = true from (raised_reach (by omega))]
          refine t_f2 ?_
          refine t_f2 ?_
          exact d_closes ⟨look_row rfl 37 rfl s37, look_row rfl 38 rfl s38, look_row rfl 40 rfl s40, look_row rfl 44 rfl s44, trivial⟩ 45 rfl rfl rfl hS (AgreeR.refl _) (t_sat (fun _ h => h) (hK () trivial))
         · -- 46
          rintro _ S hF hS D hp K hK
          try dsimp only at hF ⊢
          have s37 := hp 37 rfl
          have s45 := hp 45 rfl
          refine d_need (small := [(110, (.bool false)), (118, (.bool true))]) ⟨look_row rfl 37 rfl s37, look_row rfl 45 rfl s45, trivial⟩ ?_
          refine t_guard rfl rfl ?_
          refine tp rfl (lv_not (c := false) rfl rfl) ?_
          exact d_closes ⟨look_row rfl 37 rfl s37, look_row rfl 45 rfl s45, trivial⟩ 46 rfl rfl rfl hS (AgreeR.refl _) (t_sat (fun _ h => h) (hK () trivial))
         · -- 47
          rintro _ S hF hS D hp K hK
          try dsimp only at hF ⊢
          have s37 := hp 37 rfl
          have s46 := hp 46 rfl
          refine d_need (small := [(110, (.bool false)), (119, (.bool false))]) ⟨look_row rfl 37 rfl s37, look_row rfl 46 rfl s46, trivial⟩ ?_
          refine tp rfl (lv_pick_f rfl rfl) ?_
          exact d_closes ⟨look_row rfl 37 rfl s37, look_row rfl 46 rfl s46, trivial⟩ 47 rfl rfl rfl hS (AgreeR.refl _) (t_sat (fun _ h => h) (hK () trivial))
         · -- 48
          rintro _ S hF hS D hp K hK
          try dsimp only at hF ⊢
          have s47 := hp 47 rfl
          refine d_need (small := [(120, (.bool false))]) ⟨look_row rfl 47 rfl s47, trivial⟩ ?_
          refine tp rfl (lv_move rfl) ?_
          exact d_closes ⟨look_row rfl 47 rfl s47, trivial⟩ 48 rfl rfl rfl hS (AgreeR.refl _) (t_sat (fun _ h => h) (hK () trivial))
         · -- 49
          rintro _ S hF hS D hp K hK
          try dsimp only at hF ⊢
          have s48 := hp 48 rfl
          refine d_need (small := [(15, (.slice bs11 NN cp12)), (121, (.bool false))]) ⟨look_b rfl rfl, look_row rfl 48 rfl s48, trivial⟩ ?_
          refine t_guard rfl rfl ?_
          refine tp rfl (lv_move rfl) ?_
          exact d_closes ⟨look_b rfl rfl, look_row rfl 48 rfl s48, trivial⟩ 49 rfl rfl rfl hS (AgreeR.refl _) (t_sat (fun _ h => h) (hK () trivial))
         · -- 50
          rintro _ S hF hS D hp K hK
          try dsimp only at hF ⊢
          have s48 := hp 48 rfl
          refine d_need (small := [(12, (.slice bs7 ((raisedL NN EE us e0 e1).length) cp8)), (121, (.bool false))]) ⟨look_b rfl rfl, look_row rfl 48 rfl s48, trivial⟩ ?_
          refine t_guard rfl rfl ?_
          refine tp rfl (lv_move rfl) ?_
          exact d_closes ⟨look_b rfl rfl, look_row rfl 48 rfl s48, trivial⟩ 50 rfl rfl rfl hS (AgreeR.refl _) (t_sat (fun _ h => h) (hK () trivial))
         · -- 51
          rintro _ S hF hS D hp K hK
          try dsimp only at hF ⊢
          have s48 := hp 48 rfl
          refine d_need (small := [(17, (.int .i64 ((i : Nat) : Int))), (121, (.bool false))]) ⟨look_b rfl rfl, look_row rfl 48 rfl s48, trivial⟩ ?_
          refine t_guard rfl rfl ?_
          refine tp rfl (lv_move rfl) ?_
          exact d_closes ⟨look_b rfl rfl, look_row rfl 48 rfl s48, trivial⟩ 51 rfl rfl rfl hS (AgreeR.refl _) (t_sat (fun _ h => h) (hK () trivial))
         · -- 52
          rintro _ S hF hS D hp K hK
          try dsimp only at hF ⊢
          have s48 := hp 48 rfl
          have s50 := hp 50 rfl
          have s51 := hp 51 rfl
          refine d_need (small := [(121, (.bool false)), (123, (.slice bs7 ((raisedL NN EE us e0 e1).length) cp8)), (124, (.int .i64 ((i : Nat) : Int)))]) ⟨look_row rfl 48 rfl s48, look_row rfl 50 rfl s50, look_row rfl 51 rfl s51, trivial⟩ ?_
          refine t_guard rfl rfl ?_
          refine tp rfl (lv_indexAddr (k' := i) Tryd.underlying38 Tryd.sizeOf3 rfl rfl hok9 (by omega) (by omega) (by omega)) ?_
          exact d_closes ⟨look_row rfl 48 rfl s48, look_row rfl 50 rfl s50, look_row rfl 51 rfl s51, trivial⟩ 52 rfl rfl rfl hS (AgreeR.refl _) (t_sat (fun _ h => h) (hK () trivial))
         · -- 53
          rintro _ S hF hS D hp K hK
          try dsimp only at hF ⊢
          have s48 := hp 48 rfl
          have s52 := hp 52 rfl
          refine d_need (small := [(121, (.bool false)), (125, (.pointer (some (ad bs7 i))))]) ⟨look_row rfl 48 rfl s48, look_row rfl 52 rfl s52, trivial⟩ ?_
          refine t_guard rfl rfl ?_
          refine tp rfl (lv_load Tryd.isAgg3 rfl (gives_sl (.tail _ (.tail _ (.tail _ (.head _)))) (ints_get (by omega)))) ?_
          exact d_closes ⟨look_row rfl 48 rfl s48, look_row rfl 52 rfl s52, trivial⟩ 53 rfl rfl rfl hS (AgreeR.refl _) (t_sat (fun _ h => h) (hK () trivial))
         · -- 54
          rintro _ S hF hS D hp K hK
          try dsimp only at hF ⊢
          have s48 := hp 48 rfl
          have s49 := hp 49 rfl
          have s53 := hp 53 rfl
          refine d_need (small := [(121, (.bool false)), (122, (.slice bs11 NN cp12)), (126, (.int .i64 ((raisedL NN EE us e0 e1).getD i 0)))]) ⟨look_row rfl 48 rfl s48, look_row rfl 49 rfl s49, look_row rfl 53 rfl s53, trivial⟩ ?_
          refine t_guard rfl rfl ?_
          refine tp rfl (lv_indexAddr (k' := ((raisedL NN EE us e0 e1).getD i 0).toNat) Tryd.underlying38 Tryd.sizeOf3 rfl rfl hok13 (by omega) (by omega) (by omega)) ?_
          exact d_closes ⟨look_row rfl 48 rfl s48, look_row rfl 49 rfl s49, look_row rfl 53 rfl s53, trivial⟩ 54 rfl rfl rfl hS (AgreeR.refl _) (t_sat (fun _ h => h) (hK () trivial))
         · -- 55
          rintro _ S hF hS D hp K hK
          try dsimp only at hF ⊢
          have s48 := hp 48 rfl
          have s54 := hp 54 rfl
          refine d_need (small := [(121, (.bool false)), (127, (.pointer (some (ad bs11 (((raisedL NN EE us e0 e1).getD i 0).toNat)))))]) ⟨look_row rfl 48 rfl s48, look_row rfl 54 rfl s54, trivial⟩ ?_
          refine t_guard rfl rfl ?_
          refine tp rfl (lv_load Tryd.isAgg3 rfl (gives_sl (.tail _ (.head _)) (ints_get (by omega)))) ?_
          exact d_closes ⟨look_row rfl 48 rfl s48, look_row rfl 54 rfl s54, trivial⟩ 55 rfl rfl rfl hS (AgreeR.refl _) (t_sat (fun _ h => h) (hK () trivial))
         · -- 56
          rintro _ S hF hS D hp K hK
          try dsimp only at hF ⊢
          have s48 := hp 48 rfl
          refine d_need (small := [(15, (.slice bs11 NN cp12)), (121, (.bool false))]) ⟨look_b rfl rfl, look_row rfl 48 rfl s48, trivial⟩ ?_
          refine t_guard rfl rfl ?_
          refine tp rfl (lv_move rfl) ?_
          exact d_closes ⟨look_b rfl rfl, look_row rfl 48 rfl s48, trivial⟩ 56 rfl rfl rfl hS (AgreeR.refl _) (t_sat (fun _ h => h) (hK () trivial))
         · -- 57
          rintro _ S hF hS D hp K hK
          try dsimp only at hF ⊢
          have s48 := hp 48 rfl
          refine d_need (small := [(7, (.pointer (some ⟨b1, 0, none⟩))), (121, (.bool false))]) ⟨look_b rfl rfl, look_row rfl 48 rfl s48, trivial⟩ ?_
          refine t_guard rfl rfl ?_
          refine tp rfl (lv_fieldAddr (o' := 0) Tryd.underlying33 rfl Tryd.sizeOf3 rfl rfl) ?_
          exact d_closes ⟨look_b rfl rfl, look_row rfl 48 rfl s48, trivial⟩ 57 rfl rfl rfl hS (AgreeR.refl _) (t_sat (fun _ h => h) (hK () trivial))
         · -- 58
          rintro _ S hF hS D hp K hK
          try dsimp only at hF ⊢
          have s48 := hp 48 rfl
          have s57 := hp 57 rfl
          refine d_need (small := [(121, (.bool false)), (130, (.pointer (some ⟨b1, 0, none⟩)))]) ⟨look_row rfl 48 rfl s48, look_row rfl 57 rfl s57, trivial⟩ ?_
          refine t_guard rfl rfl ?_
          refine tp rfl (lv_load Tryd.isAgg3 rfl (gives_blk (.tail _ (.tail _ (.tail _ (.tail _ (.tail _ (.head _)))))) rfl)) ?_
          exact d_closes ⟨look_row rfl 48 rfl s48, look_row rfl 57 rfl s57, trivial⟩ 58 rfl rfl rfl hS (AgreeR.refl _) (t_sat (fun _ h => h) (hK () trivial))
         · -- 59
          rintro _ S hF hS D hp K hK
          try dsimp only at hF ⊢
          have s48 := hp 48 rfl
          have s56 := hp 56 rfl
          have s58 := hp 58 rfl
          refine d_need (small := [(121, (.bool false)), (129, (.slice bs11 NN cp12)), (131, (.int .i64 e0))]) ⟨look_row rfl 48 rfl s48, look_row rfl 56 rfl s56, look_row rfl 58 rfl s58, trivial⟩ ?_
          refine t_guard rfl rfl ?_
          refine tp rfl (lv_indexAddr (k' := e0.toNat) Tryd.underlying38 Tryd.sizeOf3 rfl rfl hok13 (by omega) (by omega) (by omega)) ?_
          exact d_closes ⟨look_row rfl 48 rfl s48, look_row rfl 56 rfl s56, look_row rfl 58 rfl s58, trivial⟩ 59 rfl rfl rfl hS (AgreeR.refl _) (t_sat (fun _ h => h) (hK () trivial))
         · -- 60
          rintro _ S hF hS D hp K hK
          try dsimp only at hF ⊢
          have s48 := hp 48 rfl
          have s59 := hp 59 rfl
          refine d_need (small := [(121, (.bool false)), (132, (.pointer (some (ad bs11 e0.toNat))))]) ⟨look_row rfl 48 rfl s48, look_row rfl 59 rfl s59, trivial⟩ ?_
          refine t_guard rfl rfl ?_
          refine tp rfl (lv_load Tryd.isAgg3 rfl (gives_sl (.tail _ (.head _)) (ints_get (by omega)))) ?_
          exact d_closes ⟨look_row rfl 48 rfl s48, look_row rfl 59 rfl s59, trivial⟩ 60 rfl rfl rfl hS (AgreeR.refl _) (t_sat (fun _ h => h) (hK () trivial))
         · -- 61
          rintro _ S hF hS D hp K hK
          try dsimp only at hF ⊢
          have s48 := hp 48 rfl
          have s55 := hp 55 rfl
          have s60 := hp 60 rfl
          refine d_need (small := [(121, (.bool false)), (128, (.int .i64 ((ofL NN (addE NN EE e0 e1) us).getD (((raisedL NN EE us e0 e1).getD i 0).toNat) 0))), (133, (.int .i64 ((ofL NN (addE NN EE e0 e1) us).getD e0.toNat 0)))]) ⟨look_row rfl 48 rfl s48, look_row rfl 55 rfl s55, look_row rfl 60 rfl s60, trivial⟩ ?_
          refine t_guard rfl rfl ?_
          refine tp rfl (lv_neq rfl rfl (bne_eq_false_iff_eq.2 (raised_val hgk (by omega)))) ?_
          exact d_closes ⟨look_row rfl 48 rfl s48, look_row rfl 55 rfl s55, look_row rfl 60 rfl s60, trivial⟩ 61 rfl rfl rfl hS (AgreeR.refl _) (t_sat (fun _ h => h) (hK () trivial))
         · -- 62
          rintro _ S hF hS D hp K hK
          try dsimp only at hF ⊢
          have s48 := hp 48 rfl
          have s61 := hp 61 rfl
          refine d_need (small := [(121, (.bool false)), (134, (.bool false))]) ⟨look_row rfl 48 rfl s48, look_row rfl 61 rfl s61, trivial⟩ ?_
          refine tp rfl (lv_pick_f rfl rfl) ?_
          exact d_closes ⟨look_row rfl 48 rfl s48, look_row rfl 61 rfl s61, trivial⟩ 62 rfl rfl rfl hS (AgreeR.refl _) (t_sat (fun _ h => h) (hK () trivial))
        · -- behind
         rintro _ hF
         try dsimp only at hF ⊢
         refine t_weak (E' := [(0, (.int .i64 n)), (1, (.slice beb es.length ceb)), (2, (.slice brb n1 crb)), (3, (.agg #[(.int .i64 e0), (.int .i64 e1)])), (7, (.pointer (some ⟨b1, 0, none⟩))), (9, (.bool true)), (10, (.pointer (some ⟨p2, 0, none⟩))), (11, (.slice bs3 NN cp4)), (12, (.slice bs7 ((raisedL NN EE us e0 e1).length) cp8)), (14, (.int .i64 (addErr NN e0 e1))), (15, (.slice bs11 NN cp12)), (16, (.pointer (some ⟨b20, 0, none⟩))), (17, (.int .i64 ((i : Nat) : Int))), (24, (.bool false)), (65, (.bool false)), (70, (.bool true)), (135, (.bool false))]) ⟨rfl, rfl, rfl, rfl, rfl, rfl, rfl, rfl, rfl, rfl, rfl, rfl, rfl, rfl, rfl, rfl, rfl, trivial⟩ ?_
         refine q_then_n (hK21 _ _ ?_)
         refine c_false rfl ?_
         refine c_skip ?_
         refine q_then_n (hK20 _ _ ?_)
         refine c_region ?_
         refine tp rfl (lv_move rfl) ?_
         refine tp rfl (lv_move rfl) ?_
         refine tp rfl (lv_indexAddr (k' := i) Tryd.underlying38 Tryd.sizeOf3 rfl rfl hok9 (by omega) (by omega) (by omega)) ?_
         refine tp rfl (lv_load Tryd.isAgg3 rfl (gives_sl (.tail _ (.tail _ (.tail _ (.head _)))) (ints_get (by omega)))) ?_
         refine tp rfl (lv_indexArr (k' := ((raisedL NN EE us e0 e1).getD i 0).toNat) Tryd.underlying49 Tryd.sizeOf4 rfl rfl (by have := raised_at (show i < (raisedL NN EE us e0 e1).length by omega); omega) (by have := raised_at (show i < (raisedL NN EE us e0 e1).length by omega); omega) (by have := raised_at (show i < (raisedL NN EE us e0 e1).length by omega); omega)) ?_
         refine ts (sv_blk Tryd.sizeOf4 rfl rfl rfl (by have := raised_at (show i < (raisedL NN EE us e0 e1).length by omega); rw [bools_length]; omega) bools_set) ?_
         refine t_done ?_
         refine q_in_n ?_
         refine q_then_n (hK19 _ _ ?_)
         refine c_region ?_
         refine tp rfl (lv_move rfl) ?_
         refine tp rfl (lv_add (c := ((i + 1 : Nat) : Int)) rfl rfl (wr_i64_succ (by omega))) ?_
         refine tp rfl (lv_assign rfl) ?_
         refine t_done ?_
         refine q_then_n ?_
         exact t_weak (by exact ⟨rfl, rfl, rfl, rfl, rfl, rfl, rfl, rfl, rfl, rfl, rfl, rfl, rfl, rfl, rfl, trivial⟩) ((hK16 (i + 1, bs.set ((raisedL NN EE us e0 e1).getD i 0).toNat true) ⟨by omega, hmk.next (by omega) (by omega)⟩ (by dsimp only; omega)))
      · -- no
        refine c_draw (γ := Unit) (n := 63) Tryd.mixed rfl rfl (fun _ S => True) (fun _ => [(0, 73, (.slice bs7 ((raisedL NN EE us e0 e1).length) cp8)), (1, 74, (.int .i64 ((i : Nat) : Int))), (2, 75, (.pointer (some (ad bs7 i)))), (3, 76, (.int .i64 ((raisedL NN EE us e0 e1).getD i 0))), (4, 77, (.bool false)), (5, 78, (.bool false)), (6, 79, (.slice bs7 ((raisedL NN EE us e0 e1).length) cp8)), (7, 80, (.int .i64 ((i : Nat) : Int))), (8, 81, (.pointer (some (ad bs7 i)))), (9, 82, (.int .i64 ((raisedL NN EE us e0 e1).getD i 0))), (10, 83, (.slice bs11 NN cp12)), (11, 84, (.int .i64 ((NN : Nat) : Int))), (12, 85, (.bool false)), (13, 86, (.bool false)), (14, 87, (.bool false)), (15, 88, (.slice bs7 ((raisedL NN EE us e0 e1).length) cp8)), (16, 89, (.int .i64 ((i : Nat) : Int))), (17, 90, (.pointer (some (ad bs7 i)))), (18, 91, (.int .i64 ((raisedL NN EE us e0 e1).getD i 0))), (19, 92, (.bool false)), (20, 93, (.bool false)), (21, 94, (.bool false)), (22, 95, (.int .i64 ((i : Nat) : Int))), (23, 96, (.bool false)), (24, 97, (.bool false)), (25, 98, undef), (26, 99, undef), (27, 100, undef), (28, 101, undef), (29, 102, undef), (30, 103, undef), (31, 104, undef), (32, 105, undef), (33, 106, undef), (34, 107, undef), (35, 108, (.bool false)), (36, 109, (.bool false)), (37, 110, (.bool false)), (38, 111, (.pointer (some ⟨p2, 0, none⟩))), (39, 112, (.pointer (some ⟨b1, 1, none⟩))), (40, 113, (.int .i64 e1)), (41, 114, (.slice bs7 ((raisedL NN EE us e0 e1).length) cp8)), (42, 115, (.int .i64 ((i : Nat) : Int))), (43, 116, (.pointer (some (ad bs7 i)))), (44, 117, (.int .i64 ((raisedL NN EE us e0 e1).getD i 0))), (45, 118, (.bool true)), (46, 119, (.bool false)), (47, 120, (.bool false)), (48, 121, (.bool false)), (49, 122, (.slice bs11 NN cp12)), (50, 123, (.slice bs7 ((raisedL NN EE us e0 e1).length) cp8)), (51, 124, (.int .i64 ((i : Nat) : Int))), (52, 125, (.pointer (some (ad bs7 i)))), (53, 126, (.int .i64 ((raisedL NN EE us e0 e1).getD i 0))), (54, 127, (.pointer (some (ad bs11 (((raisedL NN EE us e0 e1).getD i 0).toNat))))), (55, 128, (.int .i64 ((ofL NN (addE NN EE e0 e1) us).getD (((raisedL NN EE us e0 e1).getD i 0).toNat) 0))), (56, 129, (.slice bs11 NN cp12)), (57, 130, (.pointer (some ⟨b1, 0, none⟩))), (58, 131, (.int .i64 e0)), (59, 132, (.pointer (some (ad bs11 e0.toNat)))), (60, 133, (.int .i64 ((ofL NN (addE NN EE e0 e1) us).getD e0.toNat 0))), (61, 134, (.bool false)), (62, 135, (.bool false))]) (fun _ S => (Blk b20 (bools bs) 49) :: (SlV 3 1 (.slice bs11 NN cp12) NN (ints .i64 (ofL NN (addE NN EE e0 e1) us))) :: (GraphO p2 NN (addE NN EE e0 e1)) :: (SlV 3 1 (.slice bs7 ((raisedL NN EE us e0 e1).length) cp8) ((raisedL NN EE us e0 e1).length) (ints .i64 (raisedL NN EE us e0 e1))) :: (SlV 3 1 (.slice bs3 NN cp4) NN (ints .i64 (ofL NN EE us))) :: (Blk b1 [(.int .i64 e0), (.int .i64 e1)] 33) :: R) (()) trivial (fun _ h => h) (fun _ _ h => h) ?_ ?_
        · -- steps
         refine ⟨?_, ?_, ?_, ?_, ?_, ?_, ?_, ?_, ?_, ?_, ?_, ?_, ?_, ?_, ?_, ?_, ?_, ?_, ?_, ?_, ?_, ?_, ?_, ?_, ?_, ?_, ?_, ?_, ?_, ?_, ?_, ?_, ?_, ?_, ?_, ?_, ?_, ?_, ?_, ?_, ?_, ?_, ?_, ?_, ?_, ?_, ?_, ?_, ?_, ?_, ?_, ?_, ?_, ?_, ?_, ?_, ?_, ?_, ?_, ?_, ?_, ?_, ?_, trivial⟩
         · -- 0
          rintro _ S hF hS D hp K hK
          try dsimp only at hF ⊢
          refine d_need (small := [(12, (.slice bs7 ((raisedL NN EE us e0 e1).length) cp8))]) ⟨look_b rfl rfl, trivial⟩ ?_
          refine tp rfl (lv_move rfl) ?_
          exact d_closes ⟨look_b rfl rfl, trivial⟩ 0 rfl rfl rfl hS (AgreeR.refl _) (t_sat (fun _ h => h) (hK () trivial))
         · -- 1
          rintro _ S hF hS D hp K hK
          try dsimp only at hF ⊢
          refine d_need (small := [(17, (.int .i64 ((i : Nat) : Int)))]) ⟨look_b rfl rfl, trivial⟩ ?_
          refine tp rfl (lv_move rfl) ?_
          exact d_closes ⟨look_b rfl rfl, trivial⟩ 1 rfl rfl rfl hS (AgreeR.refl _) (t_sat (fun _ h => h) (hK () trivial))
         · -- 2
          rintro _ S hF hS D hp K hK
          try dsimp only at hF ⊢
          have s0 := hp 0 rfl
          have s1 := hp 1 rfl
          refine d_need (small := [(73, (.slice bs7 ((raisedL NN EE us e0 e1).length) cp8)), (74, (.int .i64 ((i : Nat) : Int)))]) ⟨look_row rfl 0 rfl s0, look_row rfl 1 rfl s1, trivial⟩ ?_
          refine tp rfl (lv_indexAddr (k' := i) Tryd.underlying38 Tryd.sizeOf3 rfl rfl hok9 (by omega) (by omega) (by omega)) ?_
          exact d_closes ⟨look_row rfl 0 rfl s0, look_row rfl 1 rfl s1, trivial⟩ 2 rfl rfl rfl hS (AgreeR.refl _) (t_sat (fun _ h => h) (hK () trivial))
         · -- 3
          rintro _ S hF hS D hp K hK
          try dsimp only at hF ⊢
          have s2 := hp 2 rfl
          refine d_need (small := [(75, (.pointer (some (ad bs7 i))))]) ⟨look_row rfl 2 rfl s2, trivial⟩ ?_
          refine tp rfl (lv_load Tryd.isAgg3 rfl (gives_sl (.tail _ (.tail _ (.tail _ (.head _)))) (ints_get (by omega)))) ?_
          exact d_closes ⟨look_row rfl 2 rfl s2, trivial⟩ 3 rfl rfl rfl hS (AgreeR.refl _) (t_sat (fun _ h => h) (hK () trivial))
         · -- 4
          rintro _ S hF hS D hp K hK
          try dsimp only at hF ⊢
          have s3 := hp 3 rfl
          refine d_need (small := [(76, (.int .i64 ((raisedL NN EE us e0 e1).getD i 0)))]) ⟨look_row rfl 3 rfl s3, trivial⟩ ?_
          refine tp rfl (lv_lss rfl rfl (decide_eq_false (by omega))) ?_
          exact d_closes ⟨look_row rfl 3 rfl s3, trivial⟩ 4 rfl rfl rfl hS (AgreeR.refl _) (t_sat (fun _ h => h) (hK () trivial))
         · -- 5
          rintro _ S hF hS D hp K hK
          try dsimp only at hF ⊢
          have s4 := hp 4 rfl
          refine d_need (small := [(77, (.bool false))]) ⟨look_row rfl 4 rfl s4, trivial⟩ ?_
          refine tp rfl (lv_move rfl) ?_
          exact d_closes ⟨look_row rfl 4 rfl s4, trivial⟩ 5 rfl rfl rfl hS (AgreeR.refl _) (t_sat (fun _ h => h) (hK () trivial))
         · -- 6
          rintro _ S hF hS D hp K hK
          try dsimp only at hF ⊢
          have s5 := hp 5 rfl
          refine d_need (small := [(12, (.slice bs7 ((raisedL NN EE us e0 e1).length) cp8)), (78, (.bool false))]) ⟨look_b rfl rfl, look_row rfl 5 rfl s5, trivial⟩ ?_
          refine t_guard rfl rfl ?_
          refine tp rfl (lv_move rfl) ?_
          exact d_closes ⟨look_b rfl rfl, look_row rfl 5 rfl s5, trivial⟩ 6 rfl rfl rfl hS (AgreeR.refl _) (t_sat (fun _ h => h) (hK () trivial))
         · -- 7
          rintro _ S hF hS D hp K hK
          try dsimp only at hF ⊢
          have s5 := hp 5 rfl
          refine d_need (small := [(17, (.int .i64 ((i : Nat) : Int))), (78, (.bool false))]) ⟨look_b rfl rfl, look_row rfl 5 rfl s5, trivial⟩ ?_
          refine t_guard rfl rfl ?_
          refine tp rfl (lv_move rfl) ?_
          exact d_closes ⟨look_b rfl rfl, look_row rfl 5 rfl s5, trivial⟩ 7 rfl rfl rfl hS (AgreeR.refl _) (t_sat (fun _ h => h) (hK () trivial))
         · -- 8
          rintro _ S hF hS D hp K hK
          try dsimp only at hF ⊢
          have s5 := hp 5 rfl
          have s6 := hp 6 rfl
          have s7 := hp 7 rfl
          refine d_need (small := [(78, (.bool false)), (79, (.slice bs7 ((raisedL NN EE us e0 e1).length) cp8)), (80, (.int .i64 ((i : Nat) : Int)))]) ⟨look_row rfl 5 rfl s5, look_row rfl 6 rfl s6, look_row rfl 7 rfl s7, trivial⟩ ?_
          refine t_guard rfl rfl ?_
          refine tp rfl (lv_indexAddr (k' := i) Tryd.underlying38 Tryd.sizeOf3 rfl rfl hok9 (by omega) (by omega) (by omega)) ?_
          exact d_closes ⟨look_row rfl 5 rfl s5, look_row rfl 6 rfl s6, look_row rfl 7 rfl s7, trivial⟩ 8 rfl rfl rfl hS (AgreeR.refl _) (t_sat (fun _ h => h) (hK () trivial))
         · -- 9
          rintro _ S hF hS D hp K hK
          try dsimp only at hF ⊢
          have s5 := hp 5 rfl
          have s8 := hp 8 rfl
          refine d_need (small := [(78, (.bool false)), (81, (.pointer (some (ad bs7 i))))]) ⟨look_row rfl 5 rfl s5, look_row rfl 8 rfl s8, trivial⟩ ?_
          refine t_guard rfl rfl ?_
          refine tp rfl (lv_load Tryd.isAgg3 rfl (gives_sl (.tail _ (.tail _ (.tail _ (.head _)))) (ints_get (by omega)))) ?_
          exact d_closes ⟨look_row rfl 5 rfl s5, look_row rfl 8 rfl s8, trivial⟩ 9 rfl rfl rfl hS (AgreeR.refl _) (t_sat (fun _ h => h) (hK () trivial))
         · -- 10
          rintro _ S hF hS D hp K hK
          try dsimp only at hF ⊢
          have s5 := hp 5 rfl
          refine d_need (small := [(15, (.slice bs11 NN cp12)), (78, (.bool false))]) ⟨look_b rfl rfl, look_row rfl 5 rfl s5, trivial⟩ ?_
          refine t_guard rfl rfl ?_
          refine tp rfl (lv_move rfl) ?_
          exact d_closes ⟨look_b rfl rfl, look_row rfl 5 rfl s5, trivial⟩ 10 rfl rfl rfl hS (AgreeR.refl _) (t_sat (fun _ h => h) (hK () trivial))
         · -- 11
          rintro _ S hF hS D hp K hK
          try dsimp only at hF ⊢
          have s5 := hp 5 rfl
          have s10 := hp 10 rfl
          refine d_need (small := [(78, (.bool false)), (83, (.slice bs11 NN cp12))]) ⟨look_row rfl 5 rfl s5, look_row rfl 10 rfl s10, trivial⟩ ?_
          refine t_guard rfl rfl ?_
          refine tp rfl (lv_len Tryd.underlying38 rfl rfl) ?_
          exact d_closes ⟨look_row rfl 5 rfl s5, look_row rfl 10 rfl s10, trivial⟩ 11 rfl rfl rfl hS (AgreeR.refl _) (t_sat (fun _ h => h) (hK () trivial))
         · -- 12
          rintro _ S hF hS D hp K hK
          try dsimp only at hF ⊢
          have s5 := hp 5 rfl
          have s9 := hp 9 rfl
          have s11 := hp 11 rfl
          refine d_need (small := [(78, (.bool false)), (82, (.int .i64 ((raisedL NN EE us e0 e1).getD i 0))), (84, (.int .i64 ((NN : Nat) : Int)))]) ⟨look_row rfl 5 rfl s5, look_row rfl 9 rfl s9, look_row rfl 11 rfl s11, trivial⟩ ?_
          refine t_guard rfl rfl ?_
          refine tp rfl (lv_geq rfl rfl (decide_eq_false (by omega))) ?_
          exact d_closes ⟨look_row rfl 5 rfl s5, look_row rfl 9 rfl s9, look_row rfl 11 rfl s11, trivial⟩ 12 rfl rfl rfl hS (AgreeR.refl _) (t_sat (fun _ h => h) (hK () trivial))
         · -- 13
          rintro _ S hF hS D hp K hK
          try dsimp only at hF ⊢
          have s5 := hp 5 rfl
          have s12 := hp 12 rfl
          refine d_need (small := [(78, (.bool false)), (85, (.bool false))]) ⟨look_row rfl 5 rfl s5, look_row rfl 12 rfl s12, trivial⟩ ?_
          refine tp rfl (lv_pick_f rfl rfl) ?_
          exact d_closes ⟨look_row rfl 5 rfl s5, look_row rfl 12 rfl s12, trivial⟩ 13 rfl rfl rfl hS (AgreeR.refl _) (t_sat (fun _ h => h) (hK () trivial))
         · -- 14
          rintro _ S hF hS D hp K hK
          try dsimp only at hF ⊢
          have s13 := hp 13 rfl
          refine d_need (small := [(86, (.bool false))]) ⟨look_row rfl 13 rfl s13, trivial⟩ ?_
          refine tp rfl (lv_move rfl) ?_
          exact d_closes ⟨look_row rfl 13 rfl s13, trivial⟩ 14 rfl rfl rfl hS (AgreeR.refl _) (t_sat (fun _ h => h) (hK () trivial))
         · -- 15
          rintro _ S hF hS D hp K hK
          try dsimp only at hF ⊢
          have s14 := hp 14 rfl
          refine d_need (small := [(12, (.slice bs7 ((raisedL NN EE us e0 e1).length) cp8)), (87, (.bool false))]) ⟨look_b rfl rfl, look_row rfl 14 rfl s14, trivial⟩ ?_
          refine t_guard rfl rfl ?_
          refine tp rfl (lv_move rfl) ?_
          exact d_closes ⟨look_b rfl rfl, look_row rfl 14 rfl s14, trivial⟩ 15 rfl rfl rfl hS (AgreeR.refl _) (t_sat (fun _ h => h) (hK () trivial))
         · -- 16
          rintro _ S hF hS D hp K hK
          try dsimp only at hF ⊢
          have s14 := hp 14 rfl
          refine d_need (small := [(17, (.int .i64 ((i : Nat) : Int))), (87, (.bool false))]) ⟨look_b rfl rfl, look_row rfl 14 rfl s14, trivial⟩ ?_
          refine t_guard rfl rfl ?_
          refine tp rfl (lv_move rfl) ?_
          exact d_closes ⟨look_b rfl rfl, look_row rfl 14 rfl s14, trivial⟩ 16 rfl rfl rfl hS (AgreeR.refl _) (t_sat (fun _ h => h) (hK () trivial))
         · -- 17
          rintro _ S hF hS D hp K hK
          try dsimp only at hF ⊢
          have s14 := hp 14 rfl
          have s15 := hp 15 rfl
          have s16 := hp 16 rfl
          refine d_need (small := [(87, (.bool false)), (88, (.slice bs7 ((raisedL NN EE us e0 e1).length) cp8)), (89, (.int .i64 ((i : Nat) : Int)))]) ⟨look_row rfl 14 rfl s14, look_row rfl 15 rfl s15, look_row rfl 16 rfl s16, trivial⟩ ?_
          refine t_guard rfl rfl ?_
          refine tp rfl (lv_indexAddr (k' := i) Tryd.underlying38 Tryd.sizeOf3 rfl rfl hok9 (by omega) (by omega) (by omega)) ?_
          exact d_closes ⟨look_row rfl 14 rfl s14, look_row rfl 15 rfl s15, look_row rfl 16 rfl s16, trivial⟩ 17 rfl rfl rfl hS (AgreeR.refl _) (t_sat (fun _ h => h) (hK () trivial))
         · -- 18
          rintro _ S hF hS D hp K hK
          try dsimp only at hF ⊢
          have s14 := hp 14 rfl
          have s17 := hp 17 rfl
          refine d_need (small := [(87, (.bool false)), (90, (.pointer (some (ad bs7 i))))]) ⟨look_row rfl 14 rfl s14, look_row rfl 17 rfl s17, trivial⟩ ?_
          refine t_guard rfl rfl ?_
          refine tp rfl (lv_load Tryd.isAgg3 rfl (gives_sl (.tail _ (.tail _ (.tail _ (.head _)))) (ints_get (by first | omega | (simp; omega))))) ?_
          exact d_closes ⟨look_row rfl 14 rfl s14, look_row rfl 17 rfl s17, trivial⟩ 18 rfl rfl rfl hS (AgreeR.refl _) (t_sat (fun _ h => h) (hK () trivial))
         · -- 19
          rintro _ S hF hS D hp K hK
          try dsimp only at hF ⊢
          have s14 := hp 14 rfl
          have s18 := hp 18 rfl
          refine d_need (small := [(87, (.bool false)), (91, (.int .i64 ((raisedL NN EE us e0 e1).getD i 0)))]) ⟨look_row rfl 14 rfl s14, look_row rfl 18 rfl s18, trivial⟩ ?_
          refine t_guard rfl rfl ?_
          refine tp rfl (lv_geq rfl rfl (decide_eq_false (by omega))) ?_
          exact d_closes ⟨look_row rfl 14 rfl s14, look_row rfl 18 rfl s18, trivial⟩ 19 rfl rfl rfl hS (AgreeR.refl _) (t_sat (fun _ h => h) (hK () trivial))
         · -- 20
          rintro _ S hF hS D hp K hK
          try dsimp only at hF ⊢
          have s14 := hp 14 rfl
          have s19 := hp 19 rfl
          refine d_need (small := [(87, (.bool false)), (92, (.bool false))]) ⟨look_row rfl 14 rfl s14, look_row rfl 19 rfl s19, trivial⟩ ?_
          refine tp rfl (lv_pick_f rfl rfl) ?_
          exact d_closes ⟨look_row rfl 14 rfl s14, look_row rfl 19 rfl s19, trivial⟩ 20 rfl rfl rfl hS (AgreeR.refl _) (t_sat (fun _ h => h) (hK () trivial))
         · -- 21
          rintro _ S hF hS D hp K hK
          try dsimp only at hF ⊢
          have s20 := hp 20 rfl
          refine d_need (small := [(93, (.bool false))]) ⟨look_row rfl 20 rfl s20, trivial⟩ ?_
          refine tp rfl (lv_move rfl) ?_
          exact d_closes ⟨look_row rfl 20 rfl s20, trivial⟩ 21 rfl rfl rfl hS (AgreeR.refl _) (t_sat (fun _ h => h) (hK () trivial))
         · -- 22
          rintro _ S hF hS D hp K hK
          try dsimp only at hF ⊢
          have s21 := hp 21 rfl
          refine d_need (small := [(17, (.int .i64 ((i : Nat) : Int))), (94, (.bool false))]) ⟨look_b rfl rfl, look_row rfl 21 rfl s21, trivial⟩ ?_
          refine t_guard rfl rfl ?_
          refine tp rfl (lv_move rfl) ?_
          exact d_closes ⟨look_b rfl rfl, look_row rfl 21 rfl s21, trivial⟩ 22 rfl rfl rfl hS (AgreeR.refl _) (t_sat (fun _ h => h) (hK () trivial))
         · -- 23
          rintro _ S hF hS D hp K hK
          try dsimp only at hF ⊢
          have s21 := hp 21 rfl
          have s22 := hp 22 rfl
          refine d_need (small := [(94, (.bool false)), (95, (.int .i64 ((i : Nat) : Int)))]) ⟨look_row rfl 21 rfl s21, look_row rfl 22 rfl s22, trivial⟩ ?_
          refine t_guard rfl rfl ?_
          refine tp rfl (lv_gtr rfl rfl (decide_eq_false h22)) ?_
          exact d_closes ⟨look_row rfl 21 rfl s21, look_row rfl 22 rfl s22, trivial⟩ 23 rfl rfl rfl hS (AgreeR.refl _) (t_sat (fun _ h => h) (hK () trivial))
         · -- 24
          rintro _ S hF hS D hp K hK
          try dsimp only at hF ⊢
          have s21 := hp 21 rfl
          have s23 := hp 23 rfl
          refine d_need (small := [(94, (.bool false)), (96, (.bool false))]) ⟨look_row rfl 21 rfl s21, look_row rfl 23 rfl s23, trivial⟩ ?_
          refine t_guard rfl rfl ?_
          refine tp rfl (lv_move rfl) ?_
          exact d_closes ⟨look_row rfl 21 rfl s21, look_row rfl 23 rfl s23, trivial⟩ 24 rfl rfl rfl hS (AgreeR.refl _) (t_sat (fun _ h => h) (hK () trivial))
         · -- 25
          rintro _ S hF hS D hp K hK
          try dsimp only at hF ⊢
          have s24 := hp 24 rfl
          refine d_need (small := [(12, (.slice bs7 ((raisedL NN EE us e0 e1).length) cp8)), (97, (.bool false))]) ⟨look_b rfl rfl, look_row rfl 24 rfl s24, trivial⟩ ?_
          refine t_skip rfl rfl rfl ?_
          exact d_closes ⟨look_b rfl rfl, look_row rfl 24 rfl s24, trivial⟩ 25 rfl rfl rfl hS (AgreeR.refl _) (t_sat (fun _ h => h) (hK () trivial))
         · -- 26
          rintro _ S hF hS D hp K hK
          try dsimp only at hF ⊢
          have s24 := hp 24 rfl
          refine d_need (small := [(17, (.int .i64 ((i : Nat) : Int))), (97, (.bool false))]) ⟨look_b rfl rfl, look_row rfl 24 rfl s24, trivial⟩ ?_
          refine t_skip rfl rfl rfl ?_
          exact d_closes ⟨look_b rfl rfl, look_row rfl 24 rfl s24, trivial⟩ 26 rfl rfl rfl hS (AgreeR.refl _) (t_sat (fun _ h => h) (hK () trivial))
         · -- 27
          rintro _ S hF hS D hp K hK
          try dsimp only at hF ⊢
          have s24 := hp 24 rfl
          have s26 := hp 26 rfl
          refine d_need (small := [(97, (.bool false)), (99, undef)]) ⟨look_row rfl 24 rfl s24, look_row rfl 26 rfl s26, trivial⟩ ?_
          refine t_skip rfl rfl rfl ?_
          exact d_closes ⟨look_row rfl 24 rfl s24, look_row rfl 26 rfl s26, trivial⟩ 27 rfl rfl rfl hS (AgreeR.refl _) (t_sat (fun _ h => h) (hK () trivial))
         · -- 28
          rintro _ S hF hS D hp K hK
          try dsimp only at hF ⊢
          have s24 := hp 24 rfl
          have s25 := hp 25 rfl
          have s27 := hp 27 rfl
          refine d_need (small := [(97, (.bool false)), (98, undef), (100, undef)]) ⟨look_row rfl 24 rfl s24, look_row rfl 25 rfl s25, look_row rfl 27 rfl s27, trivial⟩ ?_
          refine t_skip rfl rfl rfl ?_
          exact d_closes ⟨look_row rfl 24 rfl s24, look_row rfl 25 rfl s25, look_row rfl 27 rfl s27, trivial⟩ 28 rfl rfl rfl hS (AgreeR.refl _) (t_sat (fun _ h => h) (hK () trivial))
         · -- 29
          rintro _ S hF hS D hp K hK
          try dsimp only at hF ⊢
          have s24 := hp 24 rfl
          have s28 := hp 28 rfl
          refine d_need (small := [(97, (.bool false)), (101, undef)]) ⟨look_row rfl 24 rfl s24, look_row rfl 28 rfl s28, trivial⟩ ?_
          refine t_skip rfl rfl rfl ?_
          exact d_closes ⟨look_row rfl 24 rfl s24, look_row rfl 28 rfl s28, trivial⟩ 29 rfl rfl rfl hS (AgreeR.refl _) (t_sat (fun _ h => h) (hK () trivial))
         · -- 30
          rintro _ S hF hS D hp K hK
          try dsimp only at hF ⊢
          have s24 := hp 24 rfl
          refine d_need (small := [(12, (.slice bs7 ((raisedL NN EE us e0 e1).length) cp8)), (97, (.bool false))]) ⟨look_b rfl rfl, look_row rfl 24 rfl s24, trivial⟩ ?_
          refine t_skip rfl rfl rfl ?_
          exact d_closes ⟨look_b rfl rfl, look_row rfl 24 rfl s24, trivial⟩ 30 rfl rfl rfl hS (AgreeR.refl _) (t_sat (fun _ h => h) (hK () trivial))
         · -- 31
          rintro _ S hF hS D hp K hK
          try dsimp only at hF ⊢
          have s24 := hp 24 rfl
          refine d_need (small := [(17, (.int .i64 ((i : Nat) : Int))), (97, (.bool false))]) ⟨look_b rfl rfl, look_row rfl 24 rfl s24, trivial⟩ ?_
          refine t_skip rfl rfl rfl ?_
          exact d_closes ⟨look_b rfl rfl, look_row rfl 24 rfl s24, trivial⟩ 31 rfl rfl rfl hS (AgreeR.refl _) (t_sat (fun _ h => h) (hK () trivial))
         · -- 32
          rintro _ S hF hS D hp K hK
          try dsimp only at hF ⊢
          have s24 := hp 24 rfl
          have s30 := hp 30 rfl
          have s31 := hp 31 rfl
          refine d_need (small := [(97, (.bool false)), (103, undef), (104, undef)]) ⟨look_row rfl 24 rfl s24, look_row rfl 30 rfl s30, look_row rfl 31 rfl s31, trivial⟩ ?_
          refine t_skip rfl rfl rfl ?_
          exact d_closes ⟨look_row rfl 24 rfl s24, look_row rfl 30 rfl s30, look_row rfl 31 rfl s31, trivial⟩ 32 rfl rfl rfl hS (AgreeR.refl _) (t_sat (fun _ h => h) (hK () trivial))
         · -- 33
          rintro _ S hF hS D hp K hK
          try dsimp only at hF ⊢
          have s24 := hp 24 rfl
          have s32 := hp 32 rfl
          refine d_need (small := [(97, (.bool false)), (105, undef)]) ⟨look_row rfl 24 rfl s24, look_row rfl 32 rfl s32, trivial⟩ ?_
          refine t_skip rfl rfl rfl ?_
          exact d_closes ⟨look_row rfl 24 rfl s24, look_row rfl 32 rfl s32, trivial⟩ 33 rfl rfl rfl hS (AgreeR.refl _) (t_sat (fun _ h => h) (hK () trivial))
         · -- 34
          rintro _ S hF hS D hp K hK
          try dsimp only at hF ⊢
          have s24 := hp 24 rfl
          have s29 := hp 29 rfl
          have s33 := hp 33 rfl
          refine d_need (small := [(97, (.bool false)), (102, undef), (106, undef)]) ⟨look_row rfl 24 rfl s24, look_row rfl 29 rfl s29, look_row rfl 33 rfl s33, trivial⟩ ?_
          refine t_skip rfl rfl rfl ?_
          exact d_closes ⟨look_row rfl 24 rfl s24, look_row rfl 29 rfl s29, look_row rfl 33 rfl s33, trivial⟩ 34 rfl rfl rfl hS (AgreeR.refl _) (t_sat (fun _ h => h) (hK () trivial))
         · -- 35
          rintro _ S hF hS D hp K hK
          try dsimp only at hF ⊢
          have s21 := hp 21 rfl
          have s24 := hp 24 rfl
          have s34 := hp 34 rfl
          refine d_need (small := [(94, (.bool false)), (97, (.bool false)), (107, undef)]) ⟨look_row rfl 21 rfl s21, look_row rfl 24 rfl s24, look_row rfl 34 rfl s34, trivial⟩ ?_
          refine t_guard rfl rfl ?_
          refine tp rfl (lv_pick_f rfl rfl) ?_
          exact d_closes ⟨look_row rfl 21 rfl s21, look_row rfl 24 rfl s24, look_row rfl 34 rfl s34, trivial⟩ 35 rfl rfl rfl hS (AgreeR.refl _) (t_sat (fun _ h => h) (hK () trivial))
         · -- 36
          rintro _ S hF hS D hp K hK
          try dsimp only at hF ⊢
          have s21 := hp 21 rfl
          have s35 := hp 35 rfl
          refine d_need (small := [(94, (.bool false)), (108, (.bool false))]) ⟨look_row rfl 21 rfl s21, look_row rfl 35 rfl s35, trivial⟩ ?_
          refine tp rfl (lv_pick_f rfl rfl) ?_
          exact d_closes ⟨look_row rfl 21 rfl s21, look_row rfl 35 rfl s35, trivial⟩ 36 rfl rfl rfl hS (AgreeR.refl _) (t_sat (fun _ h => h) (hK () trivial))
         · -- 37
          rintro _ S hF hS D hp K hK
          try dsimp only at hF ⊢
          have s36 := hp 36 rfl
          refine d_need (small := [(109, (.bool false))]) ⟨look_row rfl 36 rfl s36, trivial⟩ ?_
          refine tp rfl (lv_move rfl) ?_
          exact d_closes ⟨look_row rfl 36 rfl s36, trivial⟩ 37 rfl rfl rfl hS (AgreeR.refl _) (t_sat (fun _ h => h) (hK () trivial))
         · -- 38
          rintro _ S hF hS D hp K hK
          try dsimp only at hF ⊢
          have s37 := hp 37 rfl
          refine d_need (small := [(10, (.pointer (some ⟨p2, 0, none⟩))), (110, (.bool false))]) ⟨look_b rfl rfl, look_row rfl 37 rfl s37, trivial⟩ ?_
          refine t_guard rfl rfl ?_
          refine tp rfl (lv_move rfl) ?_
          exact d_closes ⟨look_b rfl rfl, look_row rfl 37 rfl s37, trivial⟩ 38 rfl rfl rfl hS (AgreeR.refl _) (t_sat (fun _ h => h) (hK () trivial))
         · -- 39
          rintro _ S hF hS D hp K hK
          try dsimp only at hF ⊢
          have s37 := hp 37 rfl
          refine d_need (small := [(7, (.pointer (some ⟨b1, 0, none⟩))), (110, (.bool false))]) ⟨look_b rfl rfl, look_row rfl 37 rfl s37, trivial⟩ ?_
          refine t_guard rfl rfl ?_
          refine tp rfl (lv_fieldAddr (o' := 1) Tryd.underlying33 rfl Tryd.sizeOf3 rfl rfl) ?_
          exact d_closes ⟨look_b rfl rfl, look_row rfl 37 rfl s37, trivial⟩ 39 rfl rfl rfl hS (AgreeR.refl _) (t_sat (fun _ h => h) (hK () trivial))
         · -- 40
          rintro _ S hF hS D hp K hK
          try dsimp only at hF ⊢
          have s37 := hp 37 rfl
          have s39 := hp 39 rfl
          refine d_need (small := [(110, (.bool false)), (112, (.pointer (some ⟨b1, 1, none⟩)))]) ⟨look_row rfl 37 rfl s37, look_row rfl 39 rfl s39, trivial⟩ ?_
          refine t_guard rfl rfl ?_
          refine tp rfl (lv_load Tryd.isAgg3 rfl (gives_blk (.tail _ (.tail _ (.tail _ (.tail _ (.tail _ (.head _)))))) rfl)) ?_
          exact d_closes ⟨look_row rfl 37 rfl s37, look_row rfl 39 rfl s39, trivial⟩ 40 rfl rfl rfl hS (AgreeR.refl _) (t_sat (fun _ h => h) (hK () trivial))
         · -- 41
          rintro _ S hF hS D hp K hK
          try dsimp only at hF ⊢
          have s37 := hp 37 rfl
          refine d_need (small := [(12, (.slice bs7 ((raisedL NN EE us e0 e1).length) cp8)), (110, (.bool false))]) ⟨look_b rfl rfl, look_row rfl 37 rfl s37, trivial⟩ ?_
          refine t_guard rfl rfl ?_
          refine tp rfl (lv_move rfl) ?_
          exact d_closes ⟨look_b rfl rfl, look_row rfl 37 rfl s37, trivial⟩ 41 rfl rfl rfl hS (AgreeR.refl _) (t_sat (fun _ h => h) (hK () trivial))
         · -- 42
          rintro _ S hF hS D hp K hK
          try dsimp only at hF ⊢
          have s37 := hp 37 rfl
          refine d_need (small := [(17, (.int .i64 ((i : Nat) : Int))), (110, (.bool false))]) ⟨look_b rfl rfl, look_row rfl 37 rfl s37, trivial⟩ ?_
          refine t_guard rfl rfl ?_
          refine tp rfl (lv_move rfl) ?_
          exact d_closes ⟨look_b rfl rfl, look_row rfl 37 rfl s37, trivial⟩ 42 rfl rfl rfl hS (AgreeR.refl _) (t_sat (fun _ h => h) (hK () trivial))
         · -- 43
          rintro _ S hF hS D hp K hK
          try dsimp only at hF ⊢
          have s37 := hp 37 rfl
          have s41 := hp 41 rfl
          have s42 := hp 42 rfl
          refine d_need (small := [(110, (.bool false)), (114, (.slice bs7 ((raisedL NN EE us e0 e1).length) cp8)), (115, (.int .i64 ((i : Nat) : Int)))]) ⟨look_row rfl 37 rfl s37, look_row rfl 41 rfl s41, look_row rfl 42 rfl s42, trivial⟩ ?_
          refine t_guard rfl rfl ?_
          refine tp rfl (lv_indexAddr (k' := i) Tryd.underlying38 Tryd.sizeOf3 rfl rfl hok9 (by omega) (by omega) (by omega)) ?_
          exact d_closes ⟨look_row rfl 37 rfl s37, look_row rfl 41 rfl s41, look_row rfl 42 rfl s42, trivial⟩ 43 rfl rfl rfl hS (AgreeR.refl _) (t_sat (fun _ h => h) (hK () trivial))
         · -- 44
          rintro _ S hF hS D hp K hK
          try dsimp only at hF ⊢
          have s37 := hp 37 rfl
          have s43 := hp 43 rfl
          refine d_need (small := [(110, (.bool false)), (116, (.pointer (some (ad bs7 i))))]) ⟨look_row rfl 37 rfl s37, look_row rfl 43 rfl s43, trivial⟩ ?_
          refine t_guard rfl rfl ?_
          refine tp rfl (lv_load Tryd.isAgg3 rfl (gives_sl (.tail _ (.tail _ (.tail _ (.head _)))) (ints_get (by omega)))) ?_
          exact d_closes ⟨look_row rfl 37 rfl s37, look_row rfl 43 rfl s43, trivial⟩ 44 rfl rfl rfl hS (AgreeR.refl _) (t_sat (fun _ h => h) (hK () trivial))
         · -- 45
          rintro _ S hF hS D hp K hK
          try dsimp only at hF ⊢
          have s37 := hp 37 rfl
          have s38 := hp 38 rfl
          have s40 := hp 40 rfl
          have s44 := hp 44 rfl
          refine d_need (small := [(110, (.bool false)), (111, (.pointer (some ⟨p2, 0, none⟩))), (113, (.int .i64 e1)), (117, (.int .i64 ((raisedL NN EE us e0 e1).getD i 0)))]) ⟨look_row rfl 37 rfl s37, look_row rfl 38 rfl s38, look_row rfl 40 rfl s40, look_row rfl 44 rfl s44, trivial⟩ ?_
          refine t_guard rfl rfl ?_
          refine t_f2 ?_
          refine tc rfl (en_fn Tryd.call20 rfl) (reaches_ok (N := NN) (es := addE NN EE e0 e1) e1 ((raisedL NN EE us e0 e1).getD i 0) (Tab.cons (Tab.cons (Tab.cons (Tab.cons (Tab.cons hT)))))) ?_
          rintro _ _ ⟨rfl, rfl⟩
          rw [show reachB NN (addE NN EE e0 e1) e1 ((raisedL NN EE us e0 e1).getD i 0) = true from (raised_reach (by omega))]
          refine t_f2 ?_
          refine t_f2 ?_
          exact d_closes ⟨look_row rfl 37 rfl s37, look_row rfl 38 rfl s38, look_row rfl 40 rfl s40, look_row rfl 44 rfl s44, trivial⟩ 45 rfl rfl rfl hS (AgreeR.refl _) (t_sat (fun _ h => h) (hK () trivial))
         · -- 46
          rintro _ S hF hS D hp K hK
          try dsimp only at hF ⊢
          have s37 := hp 37 rfl
          have s45 := hp 45 rfl
          refine d_need (small := [(110, (.bool false)), (118, (.bool true))]) ⟨look_row rfl 37 rfl s37, look_row rfl 45 rfl s45, trivial⟩ ?_
          refine t_guard rfl rfl ?_
          refine tp rfl (lv_not (c := false) rfl rfl) ?_
          exact d_closes ⟨look_row rfl 37 rfl s37, look_row rfl 45 rfl s45, trivial⟩ 46 rfl rfl rfl hS (AgreeR.refl _) (t_sat (fun _ h => h) (hK () trivial))
         · -- 47
          rintro _ S hF hS D hp K hK
          try dsimp only at hF ⊢
          have s37 := hp 37 rfl
          have s46 := hp 46 rfl
          refine d_need (small := [(110, (.bool false)), (119, (.bool false))]) ⟨look_row rfl 37 rfl s37, look_row rfl 46 rfl s46, trivial⟩ ?_
          refine tp rfl (lv_pick_f rfl rfl) ?_
          exact d_closes ⟨look_row rfl 37 rfl s37, look_row rfl 46 rfl s46, trivial⟩ 47 rfl rfl rfl hS (AgreeR.refl _) (t_sat (fun _ h => h) (hK () trivial))
         · -- 48
          rintro _ S hF hS D hp K hK
          try dsimp only at hF ⊢
          have s47 := hp 47 rfl
          refine d_need (small := [(120, (.bool false))]) ⟨look_row rfl 47 rfl s47, trivial⟩ ?_
          refine tp rfl (lv_move rfl) ?_
          exact d_closes ⟨look_row rfl 47 rfl s47, trivial⟩ 48 rfl rfl rfl hS (AgreeR.refl _) (t_sat (fun _ h => h) (hK () trivial))
         · -- 49
          rintro _ S hF hS D hp K hK
          try dsimp only at hF ⊢
          have s48 := hp 48 rfl
          refine d_need (small := [(15, (.slice bs11 NN cp12)), (121, (.bool false))]) ⟨look_b rfl rfl, look_row rfl 48 rfl s48, trivial⟩ ?_
          refine t_guard rfl rfl ?_
          refine tp rfl (lv_move rfl) ?_
          exact d_closes ⟨look_b rfl rfl, look_row rfl 48 rfl s48, trivial⟩ 49 rfl rfl rfl hS (AgreeR.refl _) (t_sat (fun _ h => h) (hK () trivial))
         · -- 50
          rintro _ S hF hS D hp K hK
          try dsimp only at hF ⊢
          have s48 := hp 48 rfl
          refine d_need (small := [(12, (.slice bs7 ((raisedL NN EE us e0 e1).length) cp8)), (121, (.bool false))]) ⟨look_b rfl rfl, look_row rfl 48 rfl s48, trivial⟩ ?_
          refine t_guard rfl rfl ?_
          refine tp rfl (lv_move rfl) ?_
          exact d_closes ⟨look_b rfl rfl, look_row rfl 48 rfl s48, trivial⟩ 50 rfl rfl rfl hS (AgreeR.refl _) (t_sat (fun _ h => h) (hK () trivial))
         · -- 51
          rintro _ S hF hS D hp K hK
          try dsimp only at hF ⊢
          have s48 := hp 48 rfl
          refine d_need (small := [(17, (.int .i64 ((i : Nat) : Int))), (121, (.bool false))]) ⟨look_b rfl rfl, look_row rfl 48 rfl s48, trivial⟩ ?_
          refine t_guard rfl rfl ?_
          refine tp rfl (lv_move rfl) ?_
          exact d_closes ⟨look_b rfl rfl, look_row rfl 48 rfl s48, trivial⟩ 51 rfl rfl rfl hS (AgreeR.refl _) (t_sat (fun _ h => h) (hK () trivial))
         · -- 52
          rintro _ S hF hS D hp K hK
          try dsimp only at hF ⊢
          have s48 := hp 48 rfl
          have s50 := hp 50 rfl
          have s51 := hp 51 rfl
          refine d_need (small := [(121, (.bool false)), (123, (.slice bs7 ((raisedL NN EE us e0 e1).length) cp8)), (124, (.int .i64 ((i : Nat) : Int)))]) ⟨look_row rfl 48 rfl s48, look_row rfl 50 rfl s50, look_row rfl 51 rfl s51, trivial⟩ ?_
          refine t_guard rfl rfl ?_
          refine tp rfl (lv_indexAddr (k' := i) Tryd.underlying38 Tryd.sizeOf3 rfl rfl hok9 (by omega) (by omega) (by omega)) ?_
          exact d_closes ⟨look_row rfl 48 rfl s48, look_row rfl 50 rfl s50, look_row rfl 51 rfl s51, trivial⟩ 52 rfl rfl rfl hS (AgreeR.refl _) (t_sat (fun _ h => h) (hK () trivial))
         · -- 53
          rintro _ S hF hS D hp K hK
          try dsimp only at hF ⊢
          have s48 := hp 48 rfl
          have s52 := hp 52 rfl
          refine d_need (small := [(121, (.bool false)), (125, (.pointer (some (ad bs7 i))))]) ⟨look_row rfl 48 rfl s48, look_row rfl 52 rfl s52, trivial⟩ ?_
          refine t_guard rfl rfl ?_
          refine tp rfl (lv_load Tryd.isAgg3 rfl (gives_sl (.tail _ (.tail _ (.tail _ (.head _)))) (ints_get (by omega)))) ?_
          exact d_closes ⟨look_row rfl 48 rfl s48, look_row rfl 52 rfl s52, trivial⟩ 53 rfl rfl rfl hS (AgreeR.refl _) (t_sat (fun _ h => h) (hK () trivial))
         · -- 54
          rintro _ S hF hS D hp K hK
          try dsimp only at hF ⊢
          have s48 := hp 48 rfl
          have s49 := hp 49 rfl
          have s53 := hp 53 rfl
          refine d_need (small := [(121, (.bool false)), (122, (.slice bs11 NN cp12)), (126, (.int .i64 ((raisedL NN EE us e0 e1).getD i 0)))]) ⟨look_row rfl 48 rfl s48, look_row rfl 49 rfl s49, look_row rfl 53 rfl s53, trivial⟩ ?_
          refine t_guard rfl rfl ?_
          refine tp rfl (lv_indexAddr (k' := ((raisedL NN EE us e0 e1).getD i 0).toNat) Tryd.underlying38 Tryd.sizeOf3 rfl rfl hok13 (by omega) (by omega) (by omega)) ?_
          exact d_closes ⟨look_row rfl 48 rfl s48, look_row rfl 49 rfl s49, look_row rfl 53 rfl s53, trivial⟩ 54 rfl rfl rfl hS (AgreeR.refl _) (t_sat (fun _ h => h) (hK () trivial))
         · -- 55
          rintro _ S hF hS D hp K hK
          try dsimp only at hF ⊢
          have s48 := hp 48 rfl
          have s54 := hp 54 rfl
          refine d_need (small := [(121, (.bool false)), (127, (.pointer (some (ad bs11 (((raisedL NN EE us e0 e1).getD i 0).toNat)))))]) ⟨look_row rfl 48 rfl s48, look_row rfl 54 rfl s54, trivial⟩ ?_
          refine t_guard rfl rfl ?_
          refine tp rfl (lv_load Tryd.isAgg3 rfl (gives_sl (.tail _ (.head _)) (ints_get (by omega)))) ?_
          exact d_closes ⟨look_row rfl 48 rfl s48, look_row rfl 54 rfl s54, trivial⟩ 55 rfl rfl rfl hS (AgreeR.refl _) (t_sat (fun _ h => h) (hK () trivial))
         · -- 56
          rintro _ S hF hS D hp K hK
          try dsimp only at hF ⊢
          have s48 := hp 48 rfl
          refine d_need (small := [(15, (.slice bs11 NN cp12)), (121, (.bool false))]) ⟨look_b rfl rfl, look_row rfl 48 rfl s48, trivial⟩ ?_
          refine t_guard rfl rfl ?_
          refine tp rfl (lv_move rfl) ?_
          exact d_closes ⟨look_b rfl rfl, look_row rfl 48 rfl s48, trivial⟩ 56 rfl rfl rfl hS (AgreeR.refl _) (t_sat (fun _ h => h) (hK () trivial))
         · -- 57
          rintro _ S hF hS D hp K hK
          try dsimp only at hF ⊢
          have s48 := hp 48 rfl
          refine d_need (small := [(7, (.pointer (some ⟨b1, 0, none⟩))), (121, (.bool false))]) ⟨look_b rfl rfl, look_row rfl 48 rfl s48, trivial⟩ ?_
          refine t_guard rfl rfl ?_
          refine tp rfl (lv_fieldAddr (o' := 0) Tryd.underlying33 rfl Tryd.sizeOf3 rfl rfl) ?_
          exact d_closes ⟨look_b rfl rfl, look_row rfl 48 rfl s48, trivial⟩ 57 rfl rfl rfl hS (AgreeR.refl _) (t_sat (fun _ h => h) (hK () trivial))
         · -- 58
          rintro _ S hF hS D hp K hK
          try dsimp only at hF ⊢
          have s48 := hp 48 rfl
          have s57 := hp 57 rfl
          refine d_need (small := [(121, (.bool false)), (130, (.pointer (some ⟨b1, 0, none⟩)))]) ⟨look_row rfl 48 rfl s48, look_row rfl 57 rfl s57, trivial⟩ ?_
          refine t_guard rfl rfl ?_
          refine tp rfl (lv_load Tryd.isAgg3 rfl (gives_blk (.tail _ (.tail _ (.tail _ (.tail _ (.tail _ (.head _)))))) rfl)) ?_
          exact d_closes ⟨look_row rfl 48 rfl s48, look_row rfl 57 rfl s57, trivial⟩ 58 rfl rfl rfl hS (AgreeR.refl _) (t_sat (fun _ h => h) (hK () trivial))
         · -- 59
          rintro _ S hF hS D hp K hK
          try dsimp only at hF ⊢
          have s48 := hp 48 rfl
          have s56 := hp 56 rfl
          have s58 := hp 58 rfl
          refine d_need (small := [(121, (.bool false)), (129, (.slice bs11 NN cp12)), (131, (.int .i64 e0))]) ⟨look_row rfl 48 rfl s48, look_row rfl 56 rfl s56, look_row rfl 58 rfl s58, trivial⟩ ?_
          refine t_guard rfl rfl ?_
          refine tp rfl (lv_indexAddr (k' := e0.toNat) Tryd.underlying38 Tryd.sizeOf3 rfl rfl hok13 (by omega) (by omega) (by omega)) ?_
          exact d_closes ⟨look_row rfl 48 rfl s48, look_row rfl 56 rfl s56, look_row rfl 58 rfl s58, trivial⟩ 59 rfl rfl rfl hS (AgreeR.refl _) (t_sat (fun _ h => h) (hK () trivial))
         · -- 60
          rintro _ S hF hS D hp K hK
          try dsimp only at hF ⊢
          have s48 := hp 48 rfl
          have s59 := hp 59 rfl
          refine d_need (small := [(121, (.bool false)), (132, (.pointer (some (ad bs11 e0.toNat))))]) ⟨look_row rfl 48 rfl s48, look_row rfl 59 rfl s59, trivial⟩ ?_
          refine t_guard rfl rfl ?_
          refine tp rfl (lv_load Tryd.isAgg3 rfl (gives_sl (.tail _ (.head _)) (ints_get (by omega)))) ?_
          exact d_closes ⟨look_row rfl 48 rfl s48, look_row rfl 59 rfl s59, trivial⟩ 60 rfl rfl rfl hS (AgreeR.refl _) (t_sat (fun _ h => h) (hK () trivial))
         · -- 61
          rintro _ S hF hS D hp K hK
          try dsimp only at hF ⊢
          have s48 := hp 48 rfl
          have s55 := hp 55 rfl
          have s60 := hp 60 rfl
          refine d_need (small := [(121, (.bool false)), (128, (.int .i64 ((ofL NN (addE NN EE e0 e1) us).getD (((raisedL NN EE us e0 e1).getD i 0).toNat) 0))), (133, (.int .i64 ((ofL NN (addE NN EE e0 e1) us).getD e0.toNat 0)))]) ⟨look_row rfl 48 rfl s48, look_row rfl 55 rfl s55, look_row rfl 60 rfl s60, trivial⟩ ?_
          refine t_guard rfl rfl ?_
          refine tp rfl (lv_neq rfl rfl (bne_eq_false_iff_eq.2 (raised_val hgk (by omega)))) ?_
          exact d_closes ⟨look_row rfl 48 rfl s48, look_row rfl 55 rfl s55, look_row rfl 60 rfl s60, trivial⟩ 61 rfl rfl rfl hS (AgreeR.refl _) (t_sat (fun _ h => h) (hK () trivial))
         · -- 62
          rintro _ S hF hS D hp K hK
          try dsimp only at hF ⊢
          have s48 := hp 48 rfl
          have s61 := hp 61 rfl
          refine d_need (small := [(121, (.bool false)), (134, (.bool false))]) ⟨look_row rfl 48 rfl s48, look_row rfl 61 rfl s61, trivial⟩ ?_
          refine tp rfl (lv_pick_f rfl rfl) ?_
          exact d_closes ⟨look_row rfl 48 rfl s48, look_row rfl 61 rfl s61, trivial⟩ 62 rfl rfl rfl hS (AgreeR.refl _) (t_sat (fun _ h => h) (hK () trivial))
        · -- behind
         rintro _ hF
         try dsimp only at hF ⊢
         refine t_weak (E' := [(0, (.int .i64 n)), (1, (.slice beb es.length ceb)), (2, (.slice brb n1 crb)), (3, (.agg #[(.int .i64 e0), (.int .i64 e1)])), (7, (.pointer (some ⟨b1, 0, none⟩))), (9, (.bool true)), (10, (.pointer (some ⟨p2, 0, none⟩))), (11, (.slice bs3 NN cp4)), (12, (.slice bs7 ((raisedL NN EE us e0 e1).length) cp8)), (14, (.int .i64 (addErr NN e0 e1))), (15, (.slice bs11 NN cp12)), (16, (.pointer (some ⟨b20, 0, none⟩))), (17, (.int .i64 ((i : Nat) : Int))), (24, (.bool false)), (65, (.bool false)), (70, (.bool true)), (135, (.bool false))]) ⟨rfl, rfl, rfl, rfl, rfl, rfl, rfl, rfl, rfl, rfl, rfl, rfl, rfl, rfl, rfl, rfl, rfl, trivial⟩ ?_
         refine q_then_n (hK21 _ _ ?_)
         refine c_false rfl ?_
         refine c_skip ?_
         refine q_then_n (hK20 _ _ ?_)
         refine c_region ?_
         refine tp rfl (lv_move rfl) ?_
         refine tp rfl (lv_move rfl) ?_
         refine tp rfl (lv_indexAddr (k' := i) Tryd.underlying38 Tryd.sizeOf3 rfl rfl hok9 (by omega) (by omega) (by omega)) ?_
         refine tp rfl (lv_load Tryd.isAgg3 rfl (gives_sl (.tail _ (.tail _ (.tail _ (.head _)))) (ints_get (by omega)))) ?_
         refine tp rfl (lv_indexArr (k' := ((raisedL NN EE us e0 e1).getD i 0).toNat) Tryd.underlying49 Tryd.sizeOf4 rfl rfl (by have := raised_at (show i < (raisedL NN EE us e0 e1).length by omega); omega) (by have := raised_at (show i < (raisedL NN EE us e0 e1).length by omega); omega) (by have := raised_at (show i < (raisedL NN EE us e0 e1).length by omega); omega)) ?_
         refine ts (sv_blk Tryd.sizeOf4 rfl rfl rfl (by have := raised_at (show i < (raisedL NN EE us e0 e1).length by omega); rw [bools_length]; omega) bools_set) ?_
         refine t_done ?_
         refine q_in_n ?_
         refine q_then_n (hK19 _ _ ?_)
         refine c_region ?_
         refine tp rfl (lv_move rfl) ?_
         refine tp rfl (lv_add (c := ((i + 1 : Nat) : Int)) rfl rfl (wr_i64_succ (by omega))) ?_
         refine tp rfl (lv_assign rfl) ?_
         refine t_done ?_
         refine q_then_n ?_
         exact t_weak (by exact ⟨rfl, rfl, rfl, rfl, rfl, rfl, rfl, rfl, rfl, rfl, rfl, rfl, rfl, rfl, rfl, trivial⟩) ((hK16 (i + 1, bs.set ((raisedL NN EE us e0 e1).getD i 0).toNat true) ⟨by omega, hmk.next (by omega) (by omega)⟩ (by dsimp only; omega)))
    · -- no
      refine tp rfl (lv_lss rfl rfl (decide_eq_false h21)) ?_
      refine t_done ?_
      refine q_then_n (hK18 _ _ ?_)
      refine c_false rfl ?_
      refine c_exit ?_
      refine q_then_x ?_
      refine q_then_x ?_
      refine q_in_x ?_
      refine q_then_n (hK14 _ _ ?_)
      refine c_seq (fun K19 hK19 => ?_)
      refine c_seq (fun K20 hK20 => ?_)
      refine c_region ?_
      refine tp rfl (lv_assign rfl) ?_
      refine t_done ?_
      refine q_then_n (hK20 _ _ ?_)
      refine c_block ?_
      refine c_loop (γ := (Nat)) (fun (y : Nat) => y ≤ NN) (fun (y : Nat) => [(0, (.int .i64 n)), (1, (.slice beb es.length ceb)), (2, (.slice brb n1 crb)), (3, (.agg #[(.int .i64 e0), (.int .i64 e1)])), (7, (.pointer (some ⟨b1, 0, none⟩))), (9, (.bool true)), (10, (.pointer (some ⟨p2, 0, none⟩))), (11, (.slice bs3 NN cp4)), (12, (.slice bs7 ((raisedL NN EE us e0 e1).length) cp8)), (14, (.int .i64 (addErr NN e0 e1))), (15, (.slice bs11 NN cp12)), (16, (.pointer (some ⟨b20, 0, none⟩))), (17, (.int .i64 ((i : Nat) : Int))), (18, (.int .i64 ((y : Nat) : Int))), (24, (.bool false)), (65, (.bool false)), (70, (.bool false))]) (fun (y : Nat) => (Blk b20 (bools bs) 49) :: (SlV 3 1 (.slice bs11 NN cp12) NN (ints .i64 (ofL NN (addE NN EE e0 e1) us))) :: (GraphO p2 NN (addE NN EE e0 e1)) :: (SlV 3 1 (.slice bs7 ((raisedL NN EE us e0 e1).length) cp8) ((raisedL NN EE us e0 e1).length) (ints .i64 (raisedL NN EE us e0 e1))) :: (SlV 3 1 (.slice bs3 NN cp4) NN (ints .i64 (ofL NN EE us))) :: (Blk b1 [(.int .i64 e0), (.int .i64 e1)] 33) :: R) (fun (y : Nat) => NN - y) (0) (by omega) ⟨rfl, rfl, rfl, rfl, rfl, rfl, rfl, rfl, rfl, rfl, rfl, rfl, rfl, rfl, rfl, rfl, rfl, trivial⟩ (fun _ h => h) ?_
      rintro y K21 hF hK21
      try dsimp only at hF hK21 ⊢
      refine c_seq (fun K22 hK22 => ?_)
      refine c_seq (fun K23 hK23 => ?_)
      refine c_region ?_
      by_cases hc23 : ((y : Nat) : Int) < ((NN : Nat) : Int) ∧ ((y : Nat) : Int) < 64
      · -- both
        have hc23a := hc23.1
        have hc23b := hc23.2
        refine tp rfl (lv_move rfl) ?_
        refine tp rfl (lv_move rfl) ?_
        refine tp rfl (lv_len Tryd.underlying38 rfl rfl) ?_
        refine tp rfl (lv_lss rfl rfl (decide_eq_true hc23.1)) ?_
        refine tp rfl (lv_move rfl) ?_
        refine t_guard rfl rfl ?_
        refine tp rfl (lv_move rfl) ?_
        refine t_guard rfl rfl ?_
        refine tp rfl (lv_lss rfl rfl (decide_eq_true hc23.2)) ?_
        refine tp rfl (lv_pick_t rfl rfl) ?_
        refine t_done ?_
        refine q_then_n (hK23 _ _ ?_)
        refine c_true rfl ?_
        refine c_skip ?_
        refine q_then_n (hK22 _ _ ?_)
        refine c_seq (fun K24 hK24 => ?_)
        refine c_block ?_
        refine c_seq (fun K25 hK25 => ?_)
        refine c_draw (γ := Unit) (n := 24) Tryd.mixed rfl rfl (fun _ S => True) (fun _ => [(0, 151, (.int .i64 ((y : Nat) : Int))), (1, 152, (.pointer (some ⟨b20, y, none⟩))), (2, 153, (.bool ((bs).getD y false))), (3, 154, (.slice bs11 NN cp12)), (4, 155, (.int .i64 ((y : Nat) : Int))), (5, 156, (.pointer (some (ad bs11 y)))), (6, 157, (.int .i64 ((ofL NN (addE NN EE e0 e1) us).getD y 0))), (7, 158, (.slice bs3 NN cp4)), (8, 159, (.int .i64 ((y : Nat) : Int))), (9, 160, (.pointer (some (ad bs3 y)))), (10, 161, (.int .i64 ((ofL NN EE us).getD y 0))), (11, 162, (.bool (decide (((ofL NN (addE NN EE e0 e1) us).getD y 0) > ((ofL NN EE us).getD y 0))))), (12, 163, (.bool false)), (13, 164, (.bool false)), (14, 165, (.slice bs11 NN cp12)), (15, 166, (.int .i64 ((y : Nat) : Int))), (16, 167, (.pointer (some (ad bs11 y)))), (17, 168, (.int .i64 ((ofL NN (addE NN EE e0 e1) us).getD y 0))), (18, 169, (.slice bs3 NN cp4)), (19, 170, (.int .i64 ((y : Nat) : Int))), (20, 171, (.pointer (some (ad bs3 y)))), (21, 172, (.int .i64 ((ofL NN EE us).getD y 0))), (22, 173, (.bool false)), (23, 174, (.bool false))]) (fun _ S => (Blk b20 (bools bs) 49) :: (SlV 3 1 (.slice bs11 NN cp12) NN (ints .i64 (ofL NN (addE NN EE e0 e1) us))) :: (GraphO p2 NN (addE NN EE e0 e1)) :: (SlV 3 1 (.slice bs7 ((raisedL NN EE us e0 e1).length) cp8) ((raisedL NN EE us e0 e1).length) (ints .i64 (raisedL NN EE us e0 e1))) :: (SlV 3 1 (.slice bs3 NN cp4) NN (ints .i64 (ofL NN EE us))) :: (Blk b1 [(.int .i64 e0), (.int .i64 e1)] 33) :: R) (()) trivial (fun _ h => h) (fun _ _ h => h) ?_ ?_
        · -- steps
         refine ⟨?_, ?_, ?_, ?_, ?_, ?_, ?_, ?_, ?_, ?_, ?_, ?_, ?_, ?_, ?_, ?_, ?_, ?_, ?_, ?_, ?_, ?_, ?_, ?_, trivial⟩
         · -- 0
          rintro _ S hF hS D hp K hK
          try dsimp only at hF ⊢
          refine d_need (small := [(18, (.int .i64 ((y : Nat) : Int)))]) ⟨look_b rfl rfl, trivial⟩ ?_
          refine tp rfl (lv_move rfl) ?_
          exact d_closes ⟨look_b rfl rfl, trivial⟩ 0 rfl rfl rfl hS (AgreeR.refl _) (t_sat (fun _ h => h) (hK () trivial))
         · -- 1
          rintro _ S hF hS D hp K hK
          try dsimp only at hF ⊢
          have s0 := hp 0 rfl
          refine d_need (small := [(16, (.pointer (some ⟨b20, 0, none⟩))), (151, (.int .i64 ((y : Nat) : Int)))]) ⟨look_b rfl rfl, look_row rfl 0 rfl s0, trivial⟩ ?_
          refine tp rfl (lv_indexArr (k' := y) Tryd.underlying49 Tryd.sizeOf4 rfl rfl (by omega) (by omega) (by omega)) ?_
          exact d_closes ⟨look_b rfl rfl, look_row rfl 0 rfl s0, trivial⟩ 1 rfl rfl rfl hS (AgreeR.refl _) (t_sat (fun _ h => h) (hK () trivial))
         · -- 2
          rintro _ S hF hS D hp K hK
          try dsimp only at hF ⊢
          have s1 := hp 1 rfl
          refine d_need (small := [(152, (.pointer (some ⟨b20, y, none⟩)))]) ⟨look_row rfl 1 rfl s1, trivial⟩ ?_
          refine tp rfl (lv_load Tryd.isAgg4 rfl (gives_blk (.head _) (bools_get (by omega)))) ?_
          exact d_closes ⟨look_row rfl 1 rfl s1, trivial⟩ 2 rfl rfl rfl hS (AgreeR.refl _) (t_sat (fun _ h => h) (hK () trivial))
         · -- 3
          rintro _ S hF hS D hp K hK
          try dsimp only at hF ⊢
          refine d_need (small := [(15, (.slice bs11 NN cp12))]) ⟨look_b rfl rfl, trivial⟩ ?_
          refine tp rfl (lv_move rfl) ?_
          exact d_closes ⟨look_b rfl rfl, trivial⟩ 3 rfl rfl rfl hS (AgreeR.refl _) (t_sat (fun _ h => h) (hK () trivial))
         · -- 4
          rintro _ S hF hS D hp K hK
          try dsimp only at hF ⊢
          refine d_need (small := [(18, (.int .i64 ((y : Nat) : Int)))]) ⟨look_b rfl rfl, trivial⟩ ?_
          refine tp rfl (lv_move rfl) ?_
          exact d_closes ⟨look_b rfl rfl, trivial⟩ 4 rfl rfl rfl hS (AgreeR.refl _) (t_sat (fun _ h => h) (hK () trivial))
         · -- 5
          rintro _ S hF hS D hp K hK
          try dsimp only at hF ⊢
          have s3 := hp 3 rfl
          have s4 := hp 4 rfl
          refine d_need (small := [(154, (.slice bs11 NN cp12)), (155, (.int .i64 ((y : Nat) : Int)))]) ⟨look_row rfl 3 rfl s3, look_row rfl 4 rfl s4, trivial⟩ ?_
          refine tp rfl (lv_indexAddr (k' := y) Tryd.underlying38 Tryd.sizeOf3 rfl rfl hok13 (by omega) (by omega) (by omega)) ?_
          exact d_closes ⟨look_row rfl 3 rfl s3, look_row rfl 4 rfl s4, trivial⟩ 5 rfl rfl rfl hS (AgreeR.refl _) (t_sat (fun _ h => h) (hK () trivial))
         · -- 6
          rintro _ S hF hS D hp K hK
          try dsimp only at hF ⊢
          have s5 := hp 5 rfl
          refine d_need (small := [(156, (.pointer (some (ad bs11 y))))]) ⟨look_row rfl 5 rfl s5, trivial⟩ ?_
          refine tp rfl (lv_load Tryd.isAgg3 rfl (gives_sl (.tail _ (.head _)) (ints_get (by omega)))) ?_
          exact d_closes ⟨look_row rfl 5 rfl s5, trivial⟩ 6 rfl rfl rfl hS (AgreeR.refl _) (t_sat (fun _ h => h) (hK () trivial))
         · -- 7
          rintro _ S hF hS D hp K hK
          try dsimp only at hF ⊢
          refine d_need (small := [(11, (.slice bs3 NN cp4))]) ⟨look_b rfl rfl, trivial⟩ ?_
          refine tp rfl (lv_move rfl) ?_
          exact d_closes ⟨look_b rfl rfl, trivial⟩ 7 rfl rfl rfl hS (AgreeR.refl _) (t_sat (fun _ h => h) (hK () trivial))
         · -- 8
          rintro _ S hF hS D hp K hK
          try dsimp only at hF ⊢
          refine d_need (small := [(18, (.int .i64 ((y : Nat) : Int)))]) ⟨look_b rfl rfl, trivial⟩ ?_
          refine tp rfl (lv_move rfl) ?_
          exact d_closes ⟨look_b rfl rfl, trivial⟩ 8 rfl rfl rfl hS (AgreeR.refl _) (t_sat (fun _ h => h) (hK () trivial))
         · -- 9
          rintro _ S hF hS D hp K hK
          try dsimp only at hF ⊢
          have s7 := hp 7 rfl
          have s8 := hp 8 rfl
          refine d_need (small := [(158, (.slice bs3 NN cp4)), (159, (.int .i64 ((y : Nat) : Int)))]) ⟨look_row rfl 7 rfl s7, look_row rfl 8 rfl s8, trivial⟩ ?_
          refine tp rfl (lv_indexAddr (k' := y) Tryd.underlying38 Tryd.sizeOf3 rfl rfl hok5 (by omega) (by omega) (by omega)) ?_
          exact d_closes ⟨look_row rfl 7 rfl s7, look_row rfl 8 rfl s8, trivial⟩ 9 rfl rfl rfl hS (AgreeR.refl _) (t_sat (fun _ h => h) (hK () trivial))
         · -- 10
          rintro _ S hF hS D hp K hK
          try dsimp only at hF ⊢
          have s9 := hp 9 rfl
          refine d_need (small := [(160, (.pointer (some (ad bs3 y))))]) ⟨look_row rfl 9 rfl s9, trivial⟩ ?_
          refine tp rfl (lv_load Tryd.isAgg3 rfl (gives_sl (.tail _ (.tail _ (.tail _ (.tail _ (.head _))))) (ints_get (by omega)))) ?_
          exact d_closes ⟨look_row rfl 9 rfl s9, trivial⟩ 10 rfl rfl rfl hS (AgreeR.refl _) (t_sat (fun _ h => h) (hK () trivial))
         · -- 11
          rintro _ S hF hS D hp K hK
          try dsimp only at hF ⊢
          have s6 := hp 6 rfl
          have s10 := hp 10 rfl
          refine d_need (small := [(157, (.int .i64 ((ofL NN (addE NN EE e0 e1) us).getD y 0))), (161, (.int .i64 ((ofL NN EE us).getD y 0)))]) ⟨look_row rfl 6 rfl s6, look_row rfl 10 rfl s10, trivial⟩ ?_
          refine tp rfl (lv_gtr rfl rfl rfl) ?_
          exact d_closes ⟨look_row rfl 6 rfl s6, look_row rfl 10 rfl s10, trivial⟩ 11 rfl rfl rfl hS (AgreeR.refl _) (t_sat (fun _ h => h) (hK () trivial))
         · -- 12
          rintro _ S hF hS D hp K hK
          try dsimp only at hF ⊢
          have s2 := hp 2 rfl
          have s11 := hp 11 rfl
          refine d_need (small := [(153, (.bool ((bs).getD y false))), (162, (.bool (decide (((ofL NN (addE NN EE e0 e1) us).getD y 0) > ((ofL NN EE us).getD y 0)))))]) ⟨look_row rfl 2 rfl s2, look_row rfl 11 rfl s11, trivial⟩ ?_
          refine tp rfl (lv_neb Tryd.underlying4 rfl rfl (raised_mk hgk hmk (by omega) (by omega) (by omega) (by omega))) ?_
          exact d_closes ⟨look_row rfl 2 rfl s2, look_row rfl 11 rfl s11, trivial⟩ 12 rfl rfl rfl hS (AgreeR.refl _) (t_sat (fun _ h => h) (hK () trivial))
         · -- 13
          rintro _ S hF hS D hp K hK
          try dsimp only at hF ⊢
          have s12 := hp 12 rfl
          refine d_need (small := [(163, (.bool false))]) ⟨look_row rfl 12 rfl s12, trivial⟩ ?_
          refine tp rfl (lv_move rfl) ?_
          exact d_closes ⟨look_row rfl 12 rfl s12, trivial⟩ 13 rfl rfl rfl hS (AgreeR.refl _) (t_sat (fun _ h => h) (hK () trivial))
         · -- 14
          rintro _ S hF hS D hp K hK
          try dsimp only at hF ⊢
          have s13 := hp 13 rfl
          refine d_need (small := [(15, (.slice bs11 NN cp12)), (164, (.bool false))]) ⟨look_b rfl rfl, look_row rfl 13 rfl s13, trivial⟩ ?_
          refine t_guard rfl rfl ?_
          refine tp rfl (lv_move rfl) ?_
          exact d_closes ⟨look_b rfl rfl, look_row rfl 13 rfl s13, trivial⟩ 14 rfl rfl rfl hS (AgreeR.refl _) (t_sat (fun _ h => h) (hK () trivial))
         · -- 15
          rintro _ S hF hS D hp K hK
          try dsimp only at hF ⊢
          have s13 := hp 13 rfl
          refine d_need (small := [(18, (.int .i64 ((y : Nat) : Int))), (164, (.bool false))]) ⟨look_b rfl rfl, look_row rfl 13 rfl s13, trivial⟩ ?_
          refine t_guard rfl rfl ?_
          refine tp rfl (lv_move rfl) ?_
          exact d_closes ⟨look_b rfl rfl, look_row rfl 13 rfl s13, trivial⟩ 15 rfl rfl rfl hS (AgreeR.refl _) (t_sat (fun _ h => h) (hK () trivial))
         · -- 16
          rintro _ S hF hS D hp K hK
          try dsimp only at hF ⊢
          have s13 := hp 13 rfl
          have s14 := hp 14 rfl
          have s15 := hp 15 rfl
          refine d_need (small := [(164, (.bool false)), (165, (.slice bs11 NN cp12)), (166, (.int .i64 ((y : Nat) : Int)))]) ⟨look_row rfl 13 rfl s13, look_row rfl 14 rfl s14, look_row rfl 15 rfl s15, trivial⟩ ?_
          refine t_guard rfl rfl ?_
          refine tp rfl (lv_indexAddr (k' := y) Tryd.underlying38 Tryd.sizeOf3 rfl rfl hok13 (by omega) (by omega) (by omega)) ?_
          exact d_closes ⟨look_row rfl 13 rfl s13, look_row rfl 14 rfl s14, look_row rfl 15 rfl s15, trivial⟩ 16 rfl rfl rfl hS (AgreeR.refl _) (t_sat (fun _ h => h) (hK () trivial))
         · -- 17
          rintro _ S hF hS D hp K hK
          try dsimp only at hF ⊢
          have s13 := hp 13 rfl
          have s16 := hp 16 rfl
          refine d_need (small := [(164, (.bool false)), (167, (.pointer (some (ad bs11 y))))]) ⟨look_row rfl 13 rfl s13, look_row rfl 16 rfl s16, trivial⟩ ?_
          refine t_guard rfl rfl ?_
          refine tp rfl (lv_load Tryd.isAgg3 rfl (gives_sl (.tail _ (.head _)) (ints_get (by omega)))) ?_
          exact d_closes ⟨look_row rfl 13 rfl s13, look_row rfl 16 rfl s16, trivial⟩ 17 rfl rfl rfl hS (AgreeR.refl _) (t_sat (fun _ h => h) (hK () trivial))
         · -- 18
          rintro _ S hF hS D hp K hK
          try dsimp only at hF ⊢
          have s13 := hp 13 rfl
          refine d_need (small := [(11, (.slice bs3 NN cp4)), (164, (.bool false))]) ⟨look_b rfl rfl, look_row rfl 13 rfl s13, trivial⟩ ?_
          refine t_guard rfl rfl ?_
          refine tp rfl (lv_move rfl) ?_
          exact d_closes ⟨look_b rfl rfl, look_row rfl 13 rfl s13, trivial⟩ 18 rfl rfl rfl hS (AgreeR.refl _) (t_sat (fun _ h => h) (hK () trivial))
         · -- 19
          rintro _ S hF hS D hp K hK
          try dsimp only at hF ⊢
          have s13 := hp 13 rfl
          refine d_need (small := [(18, (.int .i64 ((y : Nat) : Int))), (164, (.bool false))]) ⟨look_b rfl rfl, look_row rfl 13 rfl s13, trivial⟩ ?_
          refine t_guard rfl rfl ?_
          refine tp rfl (lv_move rfl) ?_
          exact d_closes ⟨look_b rfl rfl, look_row rfl 13 rfl s13, trivial⟩ 19 rfl rfl rfl hS (AgreeR.refl _) (t_sat (fun _ h => h) (hK () trivial))
         · -- 20
          rintro _ S hF hS D hp K hK
          try dsimp only at hF ⊢
          have s13 := hp 13 rfl
          have s18 := hp 18 rfl
          have s19 := hp 19 rfl
          refine d_need (small := [(164, (.bool false)), (169, (.slice bs3 NN cp4)), (170, (.int .i64 ((y : Nat) : Int)))]) ⟨look_row rfl 13 rfl s13, look_row rfl 18 rfl s18, look_row rfl 19 rfl s19, trivial⟩ ?_
          refine t_guard rfl rfl ?_
          refine tp rfl (lv_indexAddr (k' := y) Tryd.underlying38 Tryd.sizeOf3 rfl rfl hok5 (by omega) (by omega) (by omega)) ?_
          exact d_closes ⟨look_row rfl 13 rfl s13, look_row rfl 18 rfl s18, look_row rfl 19 rfl s19, trivial⟩ 20 rfl rfl rfl hS (AgreeR.refl _) (t_sat (fun _ h => h) (hK () trivial))
         · -- 21
          rintro _ S hF hS D hp K hK
          try dsimp only at hF ⊢
          have s13 := hp 13 rfl
          have s20 := hp 20 rfl
          refine d_need (small := [(164, (.bool false)), (171, (.pointer (some (ad bs3 y))))]) ⟨look_row rfl 13 rfl s13, look_row rfl 20 rfl s20, trivial⟩ ?_
          refine t_guard rfl rfl ?_
          refine tp rfl (lv_load Tryd.isAgg3 rfl (gives_sl (.tail _ (.tail _ (.tail _ (.tail _ (.head _))))) (ints_get (by omega)))) ?_
          exact d_closes ⟨look_row rfl 13 rfl s13, look_row rfl 20 rfl s20, trivial⟩ 21 rfl rfl rfl hS (AgreeR.refl _) (t_sat (fun _ h => h) (hK () trivial))
         · -- 22
          rintro _ S hF hS D hp K hK
          try dsimp only at hF ⊢
          have s13 := hp 13 rfl
          have s17 := hp 17 rfl
          have s21 := hp 21 rfl
          refine d_need (small := [(164, (.bool false)), (168, (.int .i64 ((ofL NN (addE NN EE e0 e1) us).getD y 0))), (172, (.int .i64 ((ofL NN EE us).getD y 0)))]) ⟨look_row rfl 13 rfl s13, look_row rfl 17 rfl s17, look_row rfl 21 rfl s21, trivial⟩ ?_
          refine t_guard rfl rfl ?_
          refine tp rfl (lv_lss rfl rfl (decide_eq_false (by have := of_edge (N := NN) (E := EE) (rs := us) (a := e0) (b := e1) (x := y) (by omega); omega))) ?_
          exact d_closes ⟨look_row rfl 13 rfl s13, look_row rfl 17 rfl s17, look_row rfl 21 rfl s21, trivial⟩ 22 rfl rfl rfl hS (AgreeR.refl _) (t_sat (fun _ h => h) (hK () trivial))
         · -- 23
          rintro _ S hF hS D hp K hK
          try dsimp only at hF ⊢
          have s13 := hp 13 rfl
          have s22 := hp 22 rfl
          refine d_need (small := [(164, (.bool false)), (173, (.bool false))]) ⟨look_row rfl 13 rfl s13, look_row rfl 22 rfl s22, trivial⟩ ?_
          refine tp rfl (lv_pick_f rfl rfl) ?_
          exact d_closes ⟨look_row rfl 13 rfl s13, look_row rfl 22 rfl s22, trivial⟩ 23 rfl rfl rfl hS (AgreeR.refl _) (t_sat (fun _ h => h) (hK () trivial))
        · -- behind
         rintro _ hF
         try dsimp only at hF ⊢
         refine t_weak (E' := [(0, (.int .i64 n)), (1, (.slice beb es.length ceb)), (2, (.slice brb n1 crb)), (3, (.agg #[(.int .i64 e0), (.int .i64 e1)])), (7, (.pointer (some ⟨b1, 0, none⟩))), (9, (.bool true)), (10, (.pointer (some ⟨p2, 0, none⟩))), (11, (.slice bs3 NN cp4)), (12, (.slice bs7 ((raisedL NN EE us e0 e1).length) cp8)), (14, (.int .i64 (addErr NN e0 e1))), (15, (.slice bs11 NN cp12)), (16, (.pointer (some ⟨b20, 0, none⟩))), (17, (.int .i64 ((i : Nat) : Int))), (18, (.int .i64 ((y : Nat) : Int))), (24, (.bool false)), (65, (.bool false)), (70, (.bool false)), (148, (.bool true)), (174, (.bool false))]) ⟨rfl, rfl, rfl, rfl, rfl, rfl, rfl, rfl, rfl, rfl, rfl, rfl, rfl, rfl, rfl, rfl, rfl, rfl, rfl, trivial⟩ ?_
         refine q_then_n (hK25 _ _ ?_)
         refine c_false rfl ?_
         refine c_skip ?_
         refine q_in_n ?_
         refine q_then_n (hK24 _ _ ?_)
         refine c_region ?_
         refine tp rfl (lv_move rfl) ?_
         refine tp rfl (lv_add (c := ((y + 1 : Nat) : Int)) rfl rfl (wr_i64_succ (by omega))) ?_
         refine tp rfl (lv_assign rfl) ?_
         refine t_done ?_
         refine q_then_n ?_
         exact t_weak (by exact ⟨rfl, rfl, rfl, rfl, rfl, rfl, rfl, rfl, rfl, rfl, rfl, rfl, rfl, rfl, rfl, rfl, rfl, trivial⟩) ((hK21 (y + 1) (by omega) (by omega)))
      · -- not both
        refine t_cut0 (E' := [(0, (.int .i64 n)), (1, (.slice beb es.length ceb)), (2, (.slice brb n1 crb)), (3, (.agg #[(.int .i64 e0), (.int .i64 e1)])), (7, (.pointer (some ⟨b1, 0, none⟩))), (9, (.bool true)), (10, (.pointer (some ⟨p2, 0, none⟩))), (11, (.slice bs3 NN cp4)), (12, (.slice bs7 ((raisedL NN EE us e0 e1).length) cp8)), (14, (.int .i64 (addErr NN e0 e1))), (15, (.slice bs11 NN cp12)), (16, (.pointer (some ⟨b20, 0, none⟩))), (17, (.int .i64 ((i : Nat) : Int))), (18, (.int .i64 ((y : Nat) : Int))), (24, (.bool false)), (65, (.bool false)), (70, (.bool false)), (148, (.bool false))]) ?_ (fun KK hKK => ?_)
        ·
         refine q_then_n (hK23 _ _ ?_)
         refine c_false rfl ?_
         refine c_exit ?_
         refine q_then_x ?_
         refine q_then_x ?_
         refine q_in_x ?_
         refine q_then_n (hK19 _ _ ?_)
         refine c_seq (fun K24 hK24 => ?_)
         refine c_region ?_
         refine tp rfl (lv_move rfl) ?_
         refine tp rfl (lv_assign rfl) ?_
         refine t_done ?_
         refine q_then_n (hK24 _ _ ?_)
         refine c_ret ?_
         refine t_drop ?_
         refine t_drop ?_
         refine t_drop ?_
         refine t_drop ?_
         refine t_drop ?_
         refine t_drop ?_
         refine q_ret rfl rfl ?_
         exact ⟨rfl, rfl⟩
        · -- which
         by_cases hc23A : ((y : Nat) : Int) < ((NN : Nat) : Int)
         ·
          have hc23B : ¬ (((y : Nat) : Int) < 64) := fun hh => hc23 ⟨hc23A, hh⟩
          refine tp rfl (lv_move rfl) ?_
          refine tp rfl (lv_move rfl) ?_
          refine tp rfl (lv_len Tryd.underlying38 rfl rfl) ?_
          refine tp rfl (lv_lss rfl rfl (decide_eq_true hc23A)) ?_
          refine tp rfl (lv_move rfl) ?_
          refine t_guard rfl rfl ?_
          refine tp rfl (lv_move rfl) ?_
          refine t_guard rfl rfl ?_
          refine tp rfl (lv_lss rfl rfl (decide_eq_false hc23B)) ?_
          refine tp rfl (lv_pick_t rfl rfl) ?_
          exact t_done (t_weak (by exact ⟨rfl, rfl, rfl, rfl, rfl, rfl, rfl, rfl, rfl, rfl, rfl, rfl, rfl, rfl, rfl, rfl, rfl, rfl, trivial⟩) hKK)
         ·
          refine tp rfl (lv_move rfl) ?_
          refine tp rfl (lv_move rfl) ?_
          refine tp rfl (lv_len Tryd.underlying38 rfl rfl) ?_
          refine tp rfl (lv_lss rfl rfl (decide_eq_false hc23A)) ?_
          refine tp rfl (lv_move rfl) ?_
          refine t_skip rfl rfl rfl ?_
          refine t_skip rfl rfl rfl ?_
          refine tp rfl (lv_pick_f rfl rfl) ?_
          exact t_done (t_weak (by exact ⟨rfl, rfl, rfl, rfl, rfl, rfl, rfl, rfl, rfl, rfl, rfl, rfl, rfl, rfl, rfl, rfl, rfl, rfl, trivial⟩) hKK)
end Go.Proofs.YtlkcgpcgnhdnmaaDoor
