/- PickBest: the law's walk. -/
import Derived.Test.YtfoiopbjomaclaaDoorLa
import Derived.Test.YtfoiopbjomaclaaDoorPib
set_option maxRecDepth 100000
set_option linter.unusedVariables false
set_option linter.unusedSimpArgs false
namespace Go.Proofs.YtfoiopbjomaclaaDoor
open Go Go.Proofs Sp
set_option maxHeartbeats 4000000 in
theorem best_law {R : List HP} {ba : Option Addr} {ca : Nat} (xs : List Int) (ha : Rd R ba (ints .i64 xs)) (oka : SlOk ba xs.length) (la : xs.length ≤ 9223372036854775807) (lca : xs.length ≤ ca) {bp : Option Addr} {cp : Nat} (ys : List Int) (hp : Rd R bp (ints .i64 ys)) (okp : SlOk bp ys.length) (lp : ys.length ≤ 9223372036854775807) (lcp : ys.length ≤ cp) (hT : Tab R) :
    Ok Tryd.prog 4 [(.slice ba xs.length ca), (.slice bp ys.length cp)] R
      (fun v M => v = .bool true ∧ M = R) := by
  obtain ⟨n1, hn1n⟩ : ∃ n, n = min xs.length 60 := ⟨_, rfl⟩
  obtain ⟨us, husl⟩ : ∃ l, l = xs.take n1 := ⟨_, rfl⟩
  have usn : us.length = n1 := by rw [husl, List.length_take]; omega
  have rda : Rd R ba (ints .i64 us) := by rw [husl]; exact rd_tk_ints n1 ha
  obtain ⟨n2, hn2n⟩ : ∃ n, n = min ys.length 60 := ⟨_, rfl⟩
  obtain ⟨vs, hvsl⟩ : ∃ l, l = ys.take n2 := ⟨_, rfl⟩
  have vsn : vs.length = n2 := by rw [hvsl, List.length_take]; omega
  have rdp : Rd R bp (ints .i64 vs) := by rw [hvsl]; exact rd_tk_ints n2 hp
  obtain ⟨m, hm⟩ : ∃ m, m = min n1 n2 := ⟨_, rfl⟩
  have hB := best_inv us vs m
  have hbl := bestN_len us vs m
  refine ok_of (N := 141) Tryd.func4 rfl rfl rfl (fun W => ?_)
  refine c_seq (fun K1 hK1 => ?_)
  refine c_region ?_
  refine tp rfl (lv_assign rfl) ?_
  refine t_done ?_
  refine q_then_n (hK1 _ _ ?_)
  refine c_seq (fun K2 hK2 => ?_)
  refine c_region ?_
  refine tc rfl (en_fn Tryd.call8 rfl) (shown_ok hT) ?_
  rintro _ _ ⟨rfl, hMR⟩
  rw [hMR]; clear hMR
  refine tp rfl (lv_assign rfl) ?_
  refine t_done ?_
  refine q_then_n (hK2 _ _ ?_)
  refine c_seq (fun K3 hK3 => ?_)
  refine c_region ?_
  refine tp rfl (lv_move rfl) ?_
  refine tp rfl (lv_move rfl) ?_
  refine tp rfl (lv_len Tryd.underlying22 rfl rfl) ?_
  refine tp rfl (lv_min (c := ((n1 : Nat) : Int)) rfl rfl (by omega)) ?_
  refine tp rfl (lv_slice (l := 0) (h := n1) (m := ca) (v := (.slice ba n1 ca)) Tryd.underlying22 Tryd.sizeOf3 rfl rfl rfl rfl (.inr ⟨rfl, rfl⟩) (.inl ⟨_, _, rfl, (by omega), (by omega), (by omega)⟩) (.inr ⟨rfl, rfl⟩) (by simp) (by rw [sbase_zero]; rfl)) ?_
  refine tp rfl (lv_assign rfl) ?_
  refine t_done ?_
  refine q_then_n (hK3 _ _ ?_)
  refine c_seq (fun K4 hK4 => ?_)
  refine c_region ?_
  refine tp rfl (lv_move rfl) ?_
  refine tp rfl (lv_move rfl) ?_
  refine tp rfl (lv_len Tryd.underlying22 rfl rfl) ?_
  refine tp rfl (lv_min (c := ((n2 : Nat) : Int)) rfl rfl (by omega)) ?_
  refine tp rfl (lv_slice (l := 0) (h := n2) (m := cp) (v := (.slice bp n2 cp)) Tryd.underlying22 Tryd.sizeOf3 rfl rfl rfl rfl (.inr ⟨rfl, rfl⟩) (.inl ⟨_, _, rfl, (by omega), (by omega), (by omega)⟩) (.inr ⟨rfl, rfl⟩) (by simp) (by rw [sbase_zero]; rfl)) ?_
  refine tp rfl (lv_assign rfl) ?_
  refine t_done ?_
  refine q_then_n (hK4 _ _ ?_)
  refine c_seq (fun K5 hK5 => ?_)
  refine c_region ?_
  refine tp rfl (lv_move rfl) ?_
  refine tp rfl (lv_move rfl) ?_
  refine tc rfl (en_fn Tryd.call13 rfl) (best_ok (m := m) us vs (by first | rfl | omega | (simp; done) | (simp; omega)) (by first | rfl | omega | (simp; done) | (simp; omega)) (by first | rfl | omega | (simp; done) | (simp; omega)) rda rdp (fun hz => oka (by omega)) (fun hz => okp (by omega)) (by first | omega | (simp; omega) | (simp; done)) (by first | omega | (simp; omega) | (simp; done)) (by first | omega | (simp; omega))) ?_
  rintro _ _ ⟨bs1, cp2, hok3, hle4, rfl, rfl⟩
  refine tp rfl (lv_move rfl) ?_
  refine tp rfl (lv_extract rfl rfl) ?_
  refine tp rfl (lv_extract rfl rfl) ?_
  refine tp rfl (lv_assign rfl) ?_
  refine tp rfl (lv_assign rfl) ?_
  refine t_done ?_
  refine q_then_n (hK5 _ _ ?_)
  refine c_seq (fun K6 hK6 => ?_)
  refine c_region ?_
  obtain ⟨p0, hp0⟩ : ∃ x, (bestN us vs m).1 = x := ⟨_, rfl⟩
  rw [hp0] at hB ⊢
  obtain ⟨L, hL⟩ : ∃ x, (bestN us vs m).2 = x := ⟨_, rfl⟩
  rw [hL] at hB hbl hok3 hle4 ⊢
  refine tp rfl (lv_buildArr0 (cs := (bools (List.replicate 60 false))) Tryd.underlying49 Tryd.zeroValue49 Tryd.sizeOf4 rfl) ?_
  refine tm rfl (mv_alloc (cs := (bools (List.replicate 60 false))) Tryd.zeroValue49 rfl) ?_
  rintro _ _ ⟨b5, rfl, rfl⟩
  refine ts (sv_blkAgg (news := (bools (List.replicate 60 false))) (cs' := (bools (List.replicate 60 false))) Tryd.sizeOf49 rfl rfl rfl (by decide) (by decide) rfl) ?_
  refine t_done ?_
  refine q_then_n (hK6 _ _ ?_)
  refine c_seq (fun K7 hK7 => ?_)
  refine c_seq (fun K8 hK8 => ?_)
  refine c_region ?_
  refine tp rfl (lv_assign rfl) ?_
  refine t_done ?_
  refine q_then_n (hK8 _ _ ?_)
  refine c_block ?_
  refine c_loop (γ := (Nat) × (List Bool)) (fun (i, bs) => i ≤ L.length ∧ Mk L i bs) (fun (i, bs) => [(0, (.slice ba n1 ca)), (1, (.slice bp n2 cp)), (5, (.bool true)), (6, (.int .i64 p0)), (7, (.slice bs1 L.length cp2)), (8, (.pointer (some ⟨b5, 0, none⟩))), (9, (.int .i64 ((i : Nat) : Int)))]) (fun (i, bs) => (Blk b5 (bools bs) 49) :: (SlV 3 1 (.slice bs1 L.length cp2) L.length (ints .i64 L)) :: R) (fun (i, bs) => L.length - i) (0, List.replicate 60 false) ⟨by omega, Mk.zero L⟩ ⟨rfl, rfl, rfl, rfl, rfl, rfl, rfl, trivial⟩ (fun _ h => h) ?_
  rintro ⟨i, bs⟩ K9 hF hK9
  try dsimp only at hF hK9 ⊢
  obtain ⟨hi, hmk⟩ := hF
  have hbsl := hmk.len
  refine c_seq (fun K10 hK10 => ?_)
  refine c_seq (fun K11 hK11 => ?_)
  refine c_region ?_
  refine tp rfl (lv_move rfl) ?_
  refine tp rfl (lv_move rfl) ?_
  refine tp rfl (lv_len Tryd.underlying22 rfl rfl) ?_
  by_cases h6 : ((i : Nat) : Int) < ((L.length : Nat) : Int)
  · -- yes
    refine tp rfl (lv_lss rfl rfl (decide_eq_true h6)) ?_
    refine t_done ?_
    refine q_then_n (hK11 _ _ ?_)
    refine c_true rfl ?_
    refine c_skip ?_
    refine q_then_n (hK10 _ _ ?_)
    refine c_seq (fun K12 hK12 => ?_)
    refine c_block ?_
    refine c_seq (fun K13 hK13 => ?_)
    refine c_seq (fun K14 hK14 => ?_)
    obtain ⟨t0, ht0, htm, _, _⟩ := best_at hB (show i < L.length by omega)
    have hup := fun h0 => best_up hB h0 (show i < L.length by omega)
    by_cases h7 : ((i : Nat) : Int) > 0
    · -- yes
      refine c_draw (γ := Unit) (n := 39) Tryd.mixed rfl rfl (fun _ S => True) (fun _ => [(0, 36, (.slice bs1 L.length cp2)), (1, 37, (.int .i64 ((i : Nat) : Int))), (2, 38, (.pointer (some (ad bs1 i)))), (3, 39, (.int .i64 ((L).getD i 0))), (4, 40, (.bool false)), (5, 41, (.bool false)), (6, 42, (.slice bs1 L.length cp2)), (7, 43, (.int .i64 ((i : Nat) : Int))), (8, 44, (.pointer (some (ad bs1 i)))), (9, 45, (.int .i64 ((L).getD i 0))), (10, 46, (.slice ba n1 ca)), (11, 47, (.int .i64 ((n1 : Nat) : Int))), (12, 48, (.bool false)), (13, 49, (.bool false)), (14, 50, (.bool false)), (15, 51, (.slice bs1 L.length cp2)), (16, 52, (.int .i64 ((i : Nat) : Int))), (17, 53, (.pointer (some (ad bs1 i)))), (18, 54, (.int .i64 ((L).getD i 0))), (19, 55, (.slice bp n2 cp)), (20, 56, (.int .i64 ((n2 : Nat) : Int))), (21, 57, (.bool false)), (22, 58, (.bool false)), (23, 59, (.bool false)), (24, 60, (.int .i64 ((i : Nat) : Int))), (25, 61, (.bool true)), (26, 62, (.bool true)), (27, 63, (.slice bs1 L.length cp2)), (28, 64, (.int .i64 ((i : Nat) : Int))), (29, 65, (.int .i64 ((i - 1 : Nat) : Int))), (30, 66, (.pointer (some (ad bs1 (i - 1))))), (31, 67, (.int .i64 ((L).getD (i - 1) 0))), (32, 68, (.slice bs1 L.length cp2)), (33, 69, (.int .i64 ((i : Nat) : Int))), (34, 70, (.pointer (some (ad bs1 i)))), (35, 71, (.int .i64 ((L).getD i 0))), (36, 72, (.bool false)), (37, 73, (.bool false)), (38, 74, (.bool false))]) (fun _ S => (Blk b5 (bools bs) 49) :: (SlV 3 1 (.slice bs1 L.length cp2) L.length (ints .i64 L)) :: R) (()) trivial (fun _ h => h) (fun _ _ h => h) ?_ ?_
      · -- steps
        refine ⟨?_, ?_, ?_, ?_, ?_, ?_, ?_, ?_, ?_, ?_, ?_, ?_, ?_, ?_, ?_, ?_, ?_, ?_, ?_, ?_, ?_, ?_, ?_, ?_, ?_, ?_, ?_, ?_, ?_, ?_, ?_, ?_, ?_, ?_, ?_, ?_, ?_, ?_, ?_, trivial⟩
        · -- 0
         rintro _ S hF hS D hp K hK
         try dsimp only at hF ⊢
         refine d_need (small := [(7, (.slice bs1 L.length cp2))]) ⟨look_b rfl rfl, trivial⟩ ?_
         refine tp rfl (lv_move rfl) ?_
         exact d_closes ⟨look_b rfl rfl, trivial⟩ 0 rfl rfl rfl hS (AgreeR.refl _) (t_sat (fun _ h => h) (hK () trivial))
        · -- 1
         rintro _ S hF hS D hp K hK
         try dsimp only at hF ⊢
         refine d_need (small := [(9, (.int .i64 ((i : Nat) : Int)))]) ⟨look_b rfl rfl, trivial⟩ ?_
         refine tp rfl (lv_move rfl) ?_
         exact d_closes ⟨look_b rfl rfl, trivial⟩ 1 rfl rfl rfl hS (AgreeR.refl _) (t_sat (fun _ h => h) (hK () trivial))
        · -- 2
         rintro _ S hF hS D hp K hK
         try dsimp only at hF ⊢
         have s0 := hp 0 rfl
         have s1 := hp 1 rfl
         refine d_need (small := [(36, (.slice bs1 L.length cp2)), (37, (.int .i64 ((i : Nat) : Int)))]) ⟨look_row rfl 0 rfl s0, look_row rfl 1 rfl s1, trivial⟩ ?_
         refine tp rfl (lv_indexAddr (k' := i) Tryd.underlying22 Tryd.sizeOf3 rfl rfl hok3 (by omega) (by omega) (by omega)) ?_
         exact d_closes ⟨look_row rfl 0 rfl s0, look_row rfl 1 rfl s1, trivial⟩ 2 rfl rfl rfl hS (AgreeR.refl _) (t_sat (fun _ h => h) (hK () trivial))
        · -- 3
         rintro _ S hF hS D hp K hK
         try dsimp only at hF ⊢
         have s2 := hp 2 rfl
         refine d_need (small := [(38, (.pointer (some (ad bs1 i))))]) ⟨look_row rfl 2 rfl s2, trivial⟩ ?_
         refine tp rfl (lv_load Tryd.isAgg3 rfl (gives_sl (.tail _ (.head _)) (ints_get (by first | omega | (simp; omega))))) ?_
         exact d_closes ⟨look_row rfl 2 rfl s2, trivial⟩ 3 rfl rfl rfl hS (AgreeR.refl _) (t_sat (fun _ h => h) (hK () trivial))
        · -- 4
         rintro _ S hF hS D hp K hK
         try dsimp only at hF ⊢
         have s3 := hp 3 rfl
         refine d_need (small := [(39, (.int .i64 ((L).getD i 0)))]) ⟨look_row rfl 3 rfl s3, trivial⟩ ?_
         refine tp rfl (lv_lss rfl rfl (decide_eq_false (by omega))) ?_
         exact d_closes ⟨look_row rfl 3 rfl s3, trivial⟩ 4 rfl rfl rfl hS (AgreeR.refl _) (t_sat (fun _ h => h) (hK () trivial))
        · -- 5
         rintro _ S hF hS D hp K hK
         try dsimp only at hF ⊢
         have s4 := hp 4 rfl
         refine d_need (small := [(40, (.bool false))]) ⟨look_row rfl 4 rfl s4, trivial⟩ ?_
         refine tp rfl (lv_move rfl) ?_
         exact d_closes ⟨look_row rfl 4 rfl s4, trivial⟩ 5 rfl rfl rfl hS (AgreeR.refl _) (t_sat (fun _ h => h) (hK () trivial))
        · -- 6
         rintro _ S hF hS D hp K hK
         try dsimp only at hF ⊢
         have s5 := hp 5 rfl
         refine d_need (small := [(7, (.slice bs1 L.length cp2)), (41, (.bool false))]) ⟨look_b rfl rfl, look_row rfl 5 rfl s5, trivial⟩ ?_
         refine t_guard rfl rfl ?_
         refine tp rfl (lv_move rfl) ?_
         exact d_closes ⟨look_b rfl rfl, look_row rfl 5 rfl s5, trivial⟩ 6 rfl rfl rfl hS (AgreeR.refl _) (t_sat (fun _ h => h) (hK () trivial))
        · -- 7
         rintro _ S hF hS D hp K hK
         try dsimp only at hF ⊢
         have s5 := hp 5 rfl
         refine d_need (small := [(9, (.int .i64 ((i : Nat) : Int))), (41, (.bool false))]) ⟨look_b rfl rfl, look_row rfl 5 rfl s5, trivial⟩ ?_
         refine t_guard rfl rfl ?_
         refine tp rfl (lv_move rfl) ?_
         exact d_closes ⟨look_b rfl rfl, look_row rfl 5 rfl s5, trivial⟩ 7 rfl rfl rfl hS (AgreeR.refl _) (t_sat (fun _ h => h) (hK () trivial))
        · -- 8
         rintro _ S hF hS D hp K hK
         try dsimp only at hF ⊢
         have s5 := hp 5 rfl
         have s6 := hp 6 rfl
         have s7 := hp 7 rfl
         refine d_need (small := [(41, (.bool false)), (42, (.slice bs1 L.length cp2)), (43, (.int .i64 ((i : Nat) : Int)))]) ⟨look_row rfl 5 rfl s5, look_row rfl 6 rfl s6, look_row rfl 7 rfl s7, trivial⟩ ?_
         refine t_guard rfl rfl ?_
         refine tp rfl (lv_indexAddr (k' := i) Tryd.underlying22 Tryd.sizeOf3 rfl rfl hok3 (by omega) (by omega) (by omega)) ?_
         exact d_closes ⟨look_row rfl 5 rfl s5, look_row rfl 6 rfl s6, look_row rfl 7 rfl s7, trivial⟩ 8 rfl rfl rfl hS (AgreeR.refl _) (t_sat (fun _ h => h) (hK () trivial))
        · -- 9
         rintro _ S hF hS D hp K hK
         try dsimp only at hF ⊢
         have s5 := hp 5 rfl
         have s8 := hp 8 rfl
         refine d_need (small := [(41, (.bool false)), (44, (.pointer (some (ad bs1 i))))]) ⟨look_row rfl 5 rfl s5, look_row rfl 8 rfl s8, trivial⟩ ?_
         refine t_guard rfl rfl ?_
         refine tp rfl (lv_load Tryd.isAgg3 rfl (gives_sl (.tail _ (.head _)) (ints_get (by first | omega | (simp; omega))))) ?_
         exact d_closes ⟨look_row rfl 5 rfl s5, look_row rfl 8 rfl s8, trivial⟩ 9 rfl rfl rfl hS (AgreeR.refl _) (t_sat (fun _ h => h) (hK () trivial))
        · -- 10
         rintro _ S hF hS D hp K hK
         try dsimp only at hF ⊢
         have s5 := hp 5 rfl
         refine d_need (small := [(0, (.slice ba n1 ca)), (41, (.bool false))]) ⟨look_b rfl rfl, look_row rfl 5 rfl s5, trivial⟩ ?_
         refine t_guard rfl rfl ?_
         refine tp rfl (lv_move rfl) ?_
         exact d_closes ⟨look_b rfl rfl, look_row rfl 5 rfl s5, trivial⟩ 10 rfl rfl rfl hS (AgreeR.refl _) (t_sat (fun _ h => h) (hK () trivial))
        · -- 11
         rintro _ S hF hS D hp K hK
         try dsimp only at hF ⊢
         have s5 := hp 5 rfl
         have s10 := hp 10 rfl
         refine d_need (small := [(41, (.bool false)), (46, (.slice ba n1 ca))]) ⟨look_row rfl 5 rfl s5, look_row rfl 10 rfl s10, trivial⟩ ?_
         refine t_guard rfl rfl ?_
         refine tp rfl (lv_len Tryd.underlying22 rfl rfl) ?_
         exact d_closes ⟨look_row rfl 5 rfl s5, look_row rfl 10 rfl s10, trivial⟩ 11 rfl rfl rfl hS (AgreeR.refl _) (t_sat (fun _ h => h) (hK () trivial))
        · -- 12
         rintro _ S hF hS D hp K hK
         try dsimp only at hF ⊢
         have s5 := hp 5 rfl
         have s9 := hp 9 rfl
         have s11 := hp 11 rfl
         refine d_need (small := [(41, (.bool false)), (45, (.int .i64 ((L).getD i 0))), (47, (.int .i64 ((n1 : Nat) : Int)))]) ⟨look_row rfl 5 rfl s5, look_row rfl 9 rfl s9, look_row rfl 11 rfl s11, trivial⟩ ?_
         refine t_guard rfl rfl ?_
         refine tp rfl (lv_geq rfl rfl (decide_eq_false (by omega))) ?_
         exact d_closes ⟨look_row rfl 5 rfl s5, look_row rfl 9 rfl s9, look_row rfl 11 rfl s11, trivial⟩ 12 rfl rfl rfl hS (AgreeR.refl _) (t_sat (fun _ h => h) (hK () trivial))
        · -- 13
         rintro _ S hF hS D hp K hK
         try dsimp only at hF ⊢
         have s5 := hp 5 rfl
         have s12 := hp 12 rfl
         refine d_need (small := [(41, (.bool false)), (48, (.bool false))]) ⟨look_row rfl 5 rfl s5, look_row rfl 12 rfl s12, trivial⟩ ?_
         refine tp rfl (lv_pick_f rfl rfl) ?_
         exact d_closes ⟨look_row rfl 5 rfl s5, look_row rfl 12 rfl s12, trivial⟩ 13 rfl rfl rfl hS (AgreeR.refl _) (t_sat (fun _ h => h) (hK () trivial))
        · -- 14
         rintro _ S hF hS D hp K hK
         try dsimp only at hF ⊢
         have s13 := hp 13 rfl
         refine d_need (small := [(49, (.bool false))]) ⟨look_row rfl 13 rfl s13, trivial⟩ ?_
         refine tp rfl (lv_move rfl) ?_
         exact d_closes ⟨look_row rfl 13 rfl s13, trivial⟩ 14 rfl rfl rfl hS (AgreeR.refl _) (t_sat (fun _ h => h) (hK () trivial))
        · -- 15
         rintro _ S hF hS D hp K hK
         try dsimp only at hF ⊢
         have s14 := hp 14 rfl
         refine d_need (small := [(7, (.slice bs1 L.length cp2)), (50, (.bool false))]) ⟨look_b rfl rfl, look_row rfl 14 rfl s14, trivial⟩ ?_
         refine t_guard rfl rfl ?_
         refine tp rfl (lv_move rfl) ?_
         exact d_closes ⟨look_b rfl rfl, look_row rfl 14 rfl s14, trivial⟩ 15 rfl rfl rfl hS (AgreeR.refl _) (t_sat (fun _ h => h) (hK () trivial))
        · -- 16
         rintro _ S hF hS D hp K hK
         try dsimp only at hF ⊢
         have s14 := hp 14 rfl
         refine d_need (small := [(9, (.int .i64 ((i : Nat) : Int))), (50, (.bool false))]) ⟨look_b rfl rfl, look_row rfl 14 rfl s14, trivial⟩ ?_
         refine t_guard rfl rfl ?_
         refine tp rfl (lv_move rfl) ?_
         exact d_closes ⟨look_b rfl rfl, look_row rfl 14 rfl s14, trivial⟩ 16 rfl rfl rfl hS (AgreeR.refl _) (t_sat (fun _ h => h) (hK () trivial))
        · -- 17
         rintro _ S hF hS D hp K hK
         try dsimp only at hF ⊢
         have s14 := hp 14 rfl
         have s15 := hp 15 rfl
         have s16 := hp 16 rfl
         refine d_need (small := [(50, (.bool false)), (51, (.slice bs1 L.length cp2)), (52, (.int .i64 ((i : Nat) : Int)))]) ⟨look_row rfl 14 rfl s14, look_row rfl 15 rfl s15, look_row rfl 16 rfl s16, trivial⟩ ?_
         refine t_guard rfl rfl ?_
         refine tp rfl (lv_indexAddr (k' := i) Tryd.underlying22 Tryd.sizeOf3 rfl rfl hok3 (by omega) (by omega) (by omega)) ?_
         exact d_closes ⟨look_row rfl 14 rfl s14, look_row rfl 15 rfl s15, look_row rfl 16 rfl s16, trivial⟩ 17 rfl rfl rfl hS (AgreeR.refl _) (t_sat (fun _ h => h) (hK () trivial))
        · -- 18
         rintro _ S hF hS D hp K hK
         try dsimp only at hF ⊢
         have s14 := hp 14 rfl
         have s17 := hp 17 rfl
         refine d_need (small := [(50, (.bool false)), (53, (.pointer (some (ad bs1 i))))]) ⟨look_row rfl 14 rfl s14, look_row rfl 17 rfl s17, trivial⟩ ?_
         refine t_guard rfl rfl ?_
         refine tp rfl (lv_load Tryd.isAgg3 rfl (gives_sl (.tail _ (.head _)) (ints_get (by first | omega | (simp; omega))))) ?_
         exact d_closes ⟨look_row rfl 14 rfl s14, look_row rfl 17 rfl s17, trivial⟩ 18 rfl rfl rfl hS (AgreeR.refl _) (t_sat (fun _ h => h) (hK () trivial))
        · -- 19
         rintro _ S hF hS D hp K hK
         try dsimp only at hF ⊢
         have s14 := hp 14 rfl
         refine d_need (small := [(1, (.slice bp n2 cp)), (50, (.bool false))]) ⟨look_b rfl rfl, look_row rfl 14 rfl s14, trivial⟩ ?_
         refine t_guard rfl rfl ?_
         refine tp rfl (lv_move rfl) ?_
         exact d_closes ⟨look_b rfl rfl, look_row rfl 14 rfl s14, trivial⟩ 19 rfl rfl rfl hS (AgreeR.refl _) (t_sat (fun _ h => h) (hK () trivial))
        · -- 20
         rintro _ S hF hS D hp K hK
         try dsimp only at hF ⊢
         have s14 := hp 14 rfl
         have s19 := hp 19 rfl
         refine d_need (small := [(50, (.bool false)), (55, (.slice bp n2 cp))]) ⟨look_row rfl 14 rfl s14, look_row rfl 19 rfl s19, trivial⟩ ?_
         refine t_guard rfl rfl ?_
         refine tp rfl (lv_len Tryd.underlying22 rfl rfl) ?_
         exact d_closes ⟨look_row rfl 14 rfl s14, look_row rfl 19 rfl s19, trivial⟩ 20 rfl rfl rfl hS (AgreeR.refl _) (t_sat (fun _ h => h) (hK () trivial))
        · -- 21
         rintro _ S hF hS D hp K hK
         try dsimp only at hF ⊢
         have s14 := hp 14 rfl
         have s18 := hp 18 rfl
         have s20 := hp 20 rfl
         refine d_need (small := [(50, (.bool false)), (54, (.int .i64 ((L).getD i 0))), (56, (.int .i64 ((n2 : Nat) : Int)))]) ⟨look_row rfl 14 rfl s14, look_row rfl 18 rfl s18, look_row rfl 20 rfl s20, trivial⟩ ?_
         refine t_guard rfl rfl ?_
         refine tp rfl (lv_geq rfl rfl (decide_eq_false (by omega))) ?_
         exact d_closes ⟨look_row rfl 14 rfl s14, look_row rfl 18 rfl s18, look_row rfl 20 rfl s20, trivial⟩ 21 rfl rfl rfl hS (AgreeR.refl _) (t_sat (fun _ h => h) (hK () trivial))
        · -- 22
         rintro _ S hF hS D hp K hK
         try dsimp only at hF ⊢
         have s14 := hp 14 rfl
         have s21 := hp 21 rfl
         refine d_need (small := [(50, (.bool false)), (57, (.bool false))]) ⟨look_row rfl 14 rfl s14, look_row rfl 21 rfl s21, trivial⟩ ?_
         refine tp rfl (lv_pick_f rfl rfl) ?_
         exact d_closes ⟨look_row rfl 14 rfl s14, look_row rfl 21 rfl s21, trivial⟩ 22 rfl rfl rfl hS (AgreeR.refl _) (t_sat (fun _ h => h) (hK () trivial))
        · -- 23
         rintro _ S hF hS D hp K hK
         try dsimp only at hF ⊢
         have s22 := hp 22 rfl
         refine d_need (small := [(58, (.bool false))]) ⟨look_row rfl 22 rfl s22, trivial⟩ ?_
         refine tp rfl (lv_move rfl) ?_
         exact d_closes ⟨look_row rfl 22 rfl s22, trivial⟩ 23 rfl rfl rfl hS (AgreeR.refl _) (t_sat (fun _ h => h) (hK () trivial))
        · -- 24
         rintro _ S hF hS D hp K hK
         try dsimp only at hF ⊢
         have s23 := hp 23 rfl
         refine d_need (small := [(9, (.int .i64 ((i : Nat) : Int))), (59, (.bool false))]) ⟨look_b rfl rfl, look_row rfl 23 rfl s23, trivial⟩ ?_
         refine t_guard rfl rfl ?_
         refine tp rfl (lv_move rfl) ?_
         exact d_closes ⟨look_b rfl rfl, look_row rfl 23 rfl s23, trivial⟩ 24 rfl rfl rfl hS (AgreeR.refl _) (t_sat (fun _ h => h) (hK () trivial))
        · -- 25
         rintro _ S hF hS D hp K hK
         try dsimp only at hF ⊢
         have s23 := hp 23 rfl
         have s24 := hp 24 rfl
         refine d_need (small := [(59, (.bool false)), (60, (.int .i64 ((i : Nat) : Int)))]) ⟨look_row rfl 23 rfl s23, look_row rfl 24 rfl s24, trivial⟩ ?_
         refine t_guard rfl rfl ?_
         refine tp rfl (lv_gtr rfl rfl (decide_eq_true h7)) ?_
         exact d_closes ⟨look_row rfl 23 rfl s23, look_row rfl 24 rfl s24, trivial⟩ 25 rfl rfl rfl hS (AgreeR.refl _) (t_sat (fun _ h => h) (hK () trivial))
        · -- 26
         rintro _ S hF hS D hp K hK
         try dsimp only at hF ⊢
         have s23 := hp 23 rfl
         have s25 := hp 25 rfl
         refine d_need (small := [(59, (.bool false)), (61, (.bool true))]) ⟨look_row rfl 23 rfl s23, look_row rfl 25 rfl s25, trivial⟩ ?_
         refine t_guard rfl rfl ?_
         refine tp rfl (lv_move rfl) ?_
         exact d_closes ⟨look_row rfl 23 rfl s23, look_row rfl 25 rfl s25, trivial⟩ 26 rfl rfl rfl hS (AgreeR.refl _) (t_sat (fun _ h => h) (hK () trivial))
        · -- 27
         rintro _ S hF hS D hp K hK
         try dsimp only at hF ⊢
         have s26 := hp 26 rfl
         refine d_need (small := [(7, (.slice bs1 L.length cp2)), (62, (.bool true))]) ⟨look_b rfl rfl, look_row rfl 26 rfl s26, trivial⟩ ?_
         refine t_guard rfl rfl ?_
         refine tp rfl (lv_move rfl) ?_
         exact d_closes ⟨look_b rfl rfl, look_row rfl 26 rfl s26, trivial⟩ 27 rfl rfl rfl hS (AgreeR.refl _) (t_sat (fun _ h => h) (hK () trivial))
        · -- 28
         rintro _ S hF hS D hp K hK
         try dsimp only at hF ⊢
         have s26 := hp 26 rfl
         refine d_need (small := [(9, (.int .i64 ((i : Nat) : Int))), (62, (.bool true))]) ⟨look_b rfl rfl, look_row rfl 26 rfl s26, trivial⟩ ?_
         refine t_guard rfl rfl ?_
         refine tp rfl (lv_move rfl) ?_
         exact d_closes ⟨look_b rfl rfl, look_row rfl 26 rfl s26, trivial⟩ 28 rfl rfl rfl hS (AgreeR.refl _) (t_sat (fun _ h => h) (hK () trivial))
        · -- 29
         rintro _ S hF hS D hp K hK
         try dsimp only at hF ⊢
         have s26 := hp 26 rfl
         have s28 := hp 28 rfl
         refine d_need (small := [(62, (.bool true)), (64, (.int .i64 ((i : Nat) : Int)))]) ⟨look_row rfl 26 rfl s26, look_row rfl 28 rfl s28, trivial⟩ ?_
         refine t_guard rfl rfl ?_
         refine tp rfl (lv_sub (c := ((i - 1 : Nat) : Int)) rfl rfl ((wr_i64 (by omega) (by omega)).trans (by omega))) ?_
         exact d_closes ⟨look_row rfl 26 rfl s26, look_row rfl 28 rfl s28, trivial⟩ 29 rfl rfl rfl hS (AgreeR.refl _) (t_sat (fun _ h => h) (hK () trivial))
        · -- 30
         rintro _ S hF hS D hp K hK
         try dsimp only at hF ⊢
         have s26 := hp 26 rfl
         have s27 := hp 27 rfl
         have s29 := hp 29 rfl
         refine d_need (small := [(62, (.bool true)), (63, (.slice bs1 L.length cp2)), (65, (.int .i64 ((i - 1 : Nat) : Int)))]) ⟨look_row rfl 26 rfl s26, look_row rfl 27 rfl s27, look_row rfl 29 rfl s29, trivial⟩ ?_
         refine t_guard rfl rfl ?_
         refine tp rfl (lv_indexAddr (k' := i - 1) Tryd.underlying22 Tryd.sizeOf3 rfl rfl hok3 (by omega) (by omega) (by omega)) ?_
         exact d_closes ⟨look_row rfl 26 rfl s26, look_row rfl 27 rfl s27, look_row rfl 29 rfl s29, trivial⟩ 30 rfl rfl rfl hS (AgreeR.refl _) (t_sat (fun _ h => h) (hK () trivial))
        · -- 31
         rintro _ S hF hS D hp K hK
         try dsimp only at hF ⊢
         have s26 := hp 26 rfl
         have s30 := hp 30 rfl
         refine d_need (small := [(62, (.bool true)), (66, (.pointer (some (ad bs1 (i - 1)))))]) ⟨look_row rfl 26 rfl s26, look_row rfl 30 rfl s30, trivial⟩ ?_
         refine t_guard rfl rfl ?_
         refine tp rfl (lv_load Tryd.isAgg3 rfl (gives_sl (.tail _ (.head _)) (ints_get (by first | omega | (simp; omega))))) ?_
         exact d_closes ⟨look_row rfl 26 rfl s26, look_row rfl 30 rfl s30, trivial⟩ 31 rfl rfl rfl hS (AgreeR.refl _) (t_sat (fun _ h => h) (hK () trivial))
        · -- 32
         rintro _ S hF hS D hp K hK
         try dsimp only at hF ⊢
         have s26 := hp 26 rfl
         refine d_need (small := [(7, (.slice bs1 L.length cp2)), (62, (.bool true))]) ⟨look_b rfl rfl, look_row rfl 26 rfl s26, trivial⟩ ?_
         refine t_guard rfl rfl ?_
         refine tp rfl (lv_move rfl) ?_
         exact d_closes ⟨look_b rfl rfl, look_row rfl 26 rfl s26, trivial⟩ 32 rfl rfl rfl hS (AgreeR.refl _) (t_sat (fun _ h => h) (hK () trivial))
        · -- 33
         rintro _ S hF hS D hp K hK
         try dsimp only at hF ⊢
         have s26 := hp 26 rfl
         refine d_need (small := [(9, (.int .i64 ((i : Nat) : Int))), (62, (.bool true))]) ⟨look_b rfl rfl, look_row rfl 26 rfl s26, trivial⟩ ?_
         refine t_guard rfl rfl ?_
         refine tp rfl (lv_move rfl) ?_
         exact d_closes ⟨look_b rfl rfl, look_row rfl 26 rfl s26, trivial⟩ 33 rfl rfl rfl hS (AgreeR.refl _) (t_sat (fun _ h => h) (hK () trivial))
        · -- 34
         rintro _ S hF hS D hp K hK
         try dsimp only at hF ⊢
         have s26 := hp 26 rfl
         have s32 := hp 32 rfl
         have s33 := hp 33 rfl
         refine d_need (small := [(62, (.bool true)), (68, (.slice bs1 L.length cp2)), (69, (.int .i64 ((i : Nat) : Int)))]) ⟨look_row rfl 26 rfl s26, look_row rfl 32 rfl s32, look_row rfl 33 rfl s33, trivial⟩ ?_
         refine t_guard rfl rfl ?_
         refine tp rfl (lv_indexAddr (k' := i) Tryd.underlying22 Tryd.sizeOf3 rfl rfl hok3 (by omega) (by omega) (by omega)) ?_
         exact d_closes ⟨look_row rfl 26 rfl s26, look_row rfl 32 rfl s32, look_row rfl 33 rfl s33, trivial⟩ 34 rfl rfl rfl hS (AgreeR.refl _) (t_sat (fun _ h => h) (hK () trivial))
        · -- 35
         rintro _ S hF hS D hp K hK
         try dsimp only at hF ⊢
         have s26 := hp 26 rfl
         have s34 := hp 34 rfl
         refine d_need (small := [(62, (.bool true)), (70, (.pointer (some (ad bs1 i))))]) ⟨look_row rfl 26 rfl s26, look_row rfl 34 rfl s34, trivial⟩ ?_
         refine t_guard rfl rfl ?_
         refine tp rfl (lv_load Tryd.isAgg3 rfl (gives_sl (.tail _ (.head _)) (ints_get (by first | omega | (simp; omega))))) ?_
         exact d_closes ⟨look_row rfl 26 rfl s26, look_row rfl 34 rfl s34, trivial⟩ 35 rfl rfl rfl hS (AgreeR.refl _) (t_sat (fun _ h => h) (hK () trivial))
        · -- 36
         rintro _ S hF hS D hp K hK
         try dsimp only at hF ⊢
         have s26 := hp 26 rfl
         have s31 := hp 31 rfl
         have s35 := hp 35 rfl
         refine d_need (small := [(62, (.bool true)), (67, (.int .i64 ((L).getD (i - 1) 0))), (71, (.int .i64 ((L).getD i 0)))]) ⟨look_row rfl 26 rfl s26, look_row rfl 31 rfl s31, look_row rfl 35 rfl s35, trivial⟩ ?_
         refine t_guard rfl rfl ?_
         refine tp rfl (lv_geq rfl rfl (decide_eq_false (by have := hup (by omega); omega))) ?_
         exact d_closes ⟨look_row rfl 26 rfl s26, look_row rfl 31 rfl s31, look_row rfl 35 rfl s35, trivial⟩ 36 rfl rfl rfl hS (AgreeR.refl _) (t_sat (fun _ h => h) (hK () trivial))
        · -- 37
         rintro _ S hF hS D hp K hK
         try dsimp only at hF ⊢
         have s23 := hp 23 rfl
         have s26 := hp 26 rfl
         have s36 := hp 36 rfl
         refine d_need (small := [(59, (.bool false)), (62, (.bool true)), (72, (.bool false))]) ⟨look_row rfl 23 rfl s23, look_row rfl 26 rfl s26, look_row rfl 36 rfl s36, trivial⟩ ?_
         refine t_guard rfl rfl ?_
         refine tp rfl (lv_pick_t rfl rfl) ?_
         exact d_closes ⟨look_row rfl 23 rfl s23, look_row rfl 26 rfl s26, look_row rfl 36 rfl s36, trivial⟩ 37 rfl rfl rfl hS (AgreeR.refl _) (t_sat (fun _ h => h) (hK () trivial))
        · -- 38
         rintro _ S hF hS D hp K hK
         try dsimp only at hF ⊢
         have s23 := hp 23 rfl
         have s37 := hp 37 rfl
         refine d_need (small := [(59, (.bool false)), (73, (.bool false))]) ⟨look_row rfl 23 rfl s23, look_row rfl 37 rfl s37, trivial⟩ ?_
         refine tp rfl (lv_pick_f rfl rfl) ?_
         exact d_closes ⟨look_row rfl 23 rfl s23, look_row rfl 37 rfl s37, trivial⟩ 38 rfl rfl rfl hS (AgreeR.refl _) (t_sat (fun _ h => h) (hK () trivial))
      · -- behind
        rintro _ hF
        try dsimp only at hF ⊢
        refine t_weak (E' := [(0, (.slice ba n1 ca)), (1, (.slice bp n2 cp)), (5, (.bool true)), (6, (.int .i64 p0)), (7, (.slice bs1 L.length cp2)), (8, (.pointer (some ⟨b5, 0, none⟩))), (9, (.int .i64 ((i : Nat) : Int))), (33, (.bool true)), (74, (.bool false))]) ⟨rfl, rfl, rfl, rfl, rfl, rfl, rfl, rfl, rfl, trivial⟩ ?_
        refine q_then_n (hK14 _ _ ?_)
        refine c_false rfl ?_
        refine c_skip ?_
        refine q_then_n (hK13 _ _ ?_)
        refine c_region ?_
        refine tp rfl (lv_move rfl) ?_
        refine tp rfl (lv_move rfl) ?_
        refine tp rfl (lv_indexAddr (k' := i) Tryd.underlying22 Tryd.sizeOf3 rfl rfl hok3 (by omega) (by omega) (by omega)) ?_
        refine tp rfl (lv_load Tryd.isAgg3 rfl (gives_sl (.tail _ (.head _)) (ints_get (by first | omega | (simp; omega))))) ?_
        refine tp rfl (lv_indexArr (k' := ((L).getD i 0).toNat) Tryd.underlying49 Tryd.sizeOf4 rfl rfl (by omega) (by omega) (by omega)) ?_
        refine ts (sv_blk Tryd.sizeOf4 rfl rfl rfl (by rw [bools_length]; omega) bools_set) ?_
        refine t_done ?_
        refine q_in_n ?_
        refine q_then_n (hK12 _ _ ?_)
        refine c_region ?_
        refine tp rfl (lv_move rfl) ?_
        refine tp rfl (lv_add (c := ((i + 1 : Nat) : Int)) rfl rfl (wr_i64_succ (by omega))) ?_
        refine tp rfl (lv_assign rfl) ?_
        refine t_done ?_
        refine q_then_n ?_
        exact t_weak (by exact ⟨rfl, rfl, rfl, rfl, rfl, rfl, rfl, trivial⟩) ((hK9 (i + 1, bs.set (L.getD i 0).toNat true) ⟨by omega, hmk.next (by omega) (by omega)⟩ (by dsimp only; omega)))
    · -- no
      refine c_draw (γ := Unit) (n := 39) Tryd.mixed rfl rfl (fun _ S => True) (fun _ => [(0, 36, (.slice bs1 L.length cp2)), (1, 37, (.int .i64 ((i : Nat) : Int))), (2, 38, (.pointer (some (ad bs1 i)))), (3, 39, (.int .i64 ((L).getD i 0))), (4, 40, (.bool false)), (5, 41, (.bool false)), (6, 42, (.slice bs1 L.length cp2)), (7, 43, (.int .i64 ((i : Nat) : Int))), (8, 44, (.pointer (some (ad bs1 i)))), (9, 45, (.int .i64 ((L).getD i 0))), (10, 46, (.slice ba n1 ca)), (11, 47, (.int .i64 ((n1 : Nat) : Int))), (12, 48, (.bool false)), (13, 49, (.bool false)), (14, 50, (.bool false)), (15, 51, (.slice bs1 L.length cp2)), (16, 52, (.int .i64 ((i : Nat) : Int))), (17, 53, (.pointer (some (ad bs1 i)))), (18, 54, (.int .i64 ((L).getD i 0))), (19, 55, (.slice bp n2 cp)), (20, 56, (.int .i64 ((n2 : Nat) : Int))), (21, 57, (.bool false)), (22, 58, (.bool false)), (23, 59, (.bool false)), (24, 60, (.int .i64 ((i : Nat) : Int))), (25, 61, (.bool false)), (26, 62, (.bool false)), (27, 63, undef), (28, 64, undef), (29, 65, undef), (30, 66, undef), (31, 67, undef), (32, 68, undef), (33, 69, undef), (34, 70, undef), (35, 71, undef), (36, 72, undef), (37, 73, (.bool false)), (38, 74, (.bool false))]) (fun _ S => (Blk b5 (bools bs) 49) :: (SlV 3 1 (.slice bs1 L.length cp2) L.length (ints .i64 L)) :: R) (()) trivial (fun _ h => h) (fun _ _ h => h) ?_ ?_
      · -- steps
        refine ⟨?_, ?_, ?_, ?_, ?_, ?_, ?_, ?_, ?_, ?_, ?_, ?_, ?_, ?_, ?_, ?_, ?_, ?_, ?_, ?_, ?_, ?_, ?_, ?_, ?_, ?_, ?_, ?_, ?_, ?_, ?_, ?_, ?_, ?_, ?_, ?_, ?_, ?_, ?_, trivial⟩
        · -- 0
         rintro _ S hF hS D hp K hK
         try dsimp only at hF ⊢
         refine d_need (small := [(7, (.slice bs1 L.length cp2))]) ⟨look_b rfl rfl, trivial⟩ ?_
         refine tp rfl (lv_move rfl) ?_
         exact d_closes ⟨look_b rfl rfl, trivial⟩ 0 rfl rfl rfl hS (AgreeR.refl _) (t_sat (fun _ h => h) (hK () trivial))
        · -- 1
         rintro _ S hF hS D hp K hK
         try dsimp only at hF ⊢
         refine d_need (small := [(9, (.int .i64 ((i : Nat) : Int)))]) ⟨look_b rfl rfl, trivial⟩ ?_
         refine tp rfl (lv_move rfl) ?_
         exact d_closes ⟨look_b rfl rfl, trivial⟩ 1 rfl rfl rfl hS (AgreeR.refl _) (t_sat (fun _ h => h) (hK () trivial))
        · -- 2
         rintro _ S hF hS D hp K hK
         try dsimp only at hF ⊢
         have s0 := hp 0 rfl
         have s1 := hp 1 rfl
         refine d_need (small := [(36, (.slice bs1 L.length cp2)), (37, (.int .i64 ((i : Nat) : Int)))]) ⟨look_row rfl 0 rfl s0, look_row rfl 1 rfl s1, trivial⟩ ?_
         refine tp rfl (lv_indexAddr (k' := i) Tryd.underlying22 Tryd.sizeOf3 rfl rfl hok3 (by omega) (by omega) (by omega)) ?_
         exact d_closes ⟨look_row rfl 0 rfl s0, look_row rfl 1 rfl s1, trivial⟩ 2 rfl rfl rfl hS (AgreeR.refl _) (t_sat (fun _ h => h) (hK () trivial))
        · -- 3
         rintro _ S hF hS D hp K hK
         try dsimp only at hF ⊢
         have s2 := hp 2 rfl
         refine d_need (small := [(38, (.pointer (some (ad bs1 i))))]) ⟨look_row rfl 2 rfl s2, trivial⟩ ?_
         refine tp rfl (lv_load Tryd.isAgg3 rfl (gives_sl (.tail _ (.head _)) (ints_get (by first | omega | (simp; omega))))) ?_
         exact d_closes ⟨look_row rfl 2 rfl s2, trivial⟩ 3 rfl rfl rfl hS (AgreeR.refl _) (t_sat (fun _ h => h) (hK () trivial))
        · -- 4
         rintro _ S hF hS D hp K hK
         try dsimp only at hF ⊢
         have s3 := hp 3 rfl
         refine d_need (small := [(39, (.int .i64 ((L).getD i 0)))]) ⟨look_row rfl 3 rfl s3, trivial⟩ ?_
         refine tp rfl (lv_lss rfl rfl (decide_eq_false (by omega))) ?_
         exact d_closes ⟨look_row rfl 3 rfl s3, trivial⟩ 4 rfl rfl rfl hS (AgreeR.refl _) (t_sat (fun _ h => h) (hK () trivial))
        · -- 5
         rintro _ S hF hS D hp K hK
         try dsimp only at hF ⊢
         have s4 := hp 4 rfl
         refine d_need (small := [(40, (.bool false))]) ⟨look_row rfl 4 rfl s4, trivial⟩ ?_
         refine tp rfl (lv_move rfl) ?_
         exact d_closes ⟨look_row rfl 4 rfl s4, trivial⟩ 5 rfl rfl rfl hS (AgreeR.refl _) (t_sat (fun _ h => h) (hK () trivial))
        · -- 6
         rintro _ S hF hS D hp K hK
         try dsimp only at hF ⊢
         have s5 := hp 5 rfl
         refine d_need (small := [(7, (.slice bs1 L.length cp2)), (41, (.bool false))]) ⟨look_b rfl rfl, look_row rfl 5 rfl s5, trivial⟩ ?_
         refine t_guard rfl rfl ?_
         refine tp rfl (lv_move rfl) ?_
         exact d_closes ⟨look_b rfl rfl, look_row rfl 5 rfl s5, trivial⟩ 6 rfl rfl rfl hS (AgreeR.refl _) (t_sat (fun _ h => h) (hK () trivial))
        · -- 7
         rintro _ S hF hS D hp K hK
         try dsimp only at hF ⊢
         have s5 := hp 5 rfl
         refine d_need (small := [(9, (.int .i64 ((i : Nat) : Int))), (41, (.bool false))]) ⟨look_b rfl rfl, look_row rfl 5 rfl s5, trivial⟩ ?_
         refine t_guard rfl rfl ?_
         refine tp rfl (lv_move rfl) ?_
         exact d_closes ⟨look_b rfl rfl, look_row rfl 5 rfl s5, trivial⟩ 7 rfl rfl rfl hS (AgreeR.refl _) (t_sat (fun _ h => h) (hK () trivial))
        · -- 8
         rintro _ S hF hS D hp K hK
         try dsimp only at hF ⊢
         have s5 := hp 5 rfl
         have s6 := hp 6 rfl
         have s7 := hp 7 rfl
         refine d_need (small := [(41, (.bool false)), (42, (.slice bs1 L.length cp2)), (43, (.int .i64 ((i : Nat) : Int)))]) ⟨look_row rfl 5 rfl s5, look_row rfl 6 rfl s6, look_row rfl 7 rfl s7, trivial⟩ ?_
         refine t_guard rfl rfl ?_
         refine tp rfl (lv_indexAddr (k' := i) Tryd.underlying22 Tryd.sizeOf3 rfl rfl hok3 (by omega) (by omega) (by omega)) ?_
         exact d_closes ⟨look_row rfl 5 rfl s5, look_row rfl 6 rfl s6, look_row rfl 7 rfl s7, trivial⟩ 8 rfl rfl rfl hS (AgreeR.refl _) (t_sat (fun _ h => h) (hK () trivial))
        · -- 9
         rintro _ S hF hS D hp K hK
         try dsimp only at hF ⊢
         have s5 := hp 5 rfl
         have s8 := hp 8 rfl
         refine d_need (small := [(41, (.bool false)), (44, (.pointer (some (ad bs1 i))))]) ⟨look_row rfl 5 rfl s5, look_row rfl 8 rfl s8, trivial⟩ ?_
         refine t_guard rfl rfl ?_
         refine tp rfl (lv_load Tryd.isAgg3 rfl (gives_sl (.tail _ (.head _)) (ints_get (by first | omega | (simp; omega))))) ?_
         exact d_closes ⟨look_row rfl 5 rfl s5, look_row rfl 8 rfl s8, trivial⟩ 9 rfl rfl rfl hS (AgreeR.refl _) (t_sat (fun _ h => h) (hK () trivial))
        · -- 10
         rintro _ S hF hS D hp K hK
         try dsimp only at hF ⊢
         have s5 := hp 5 rfl
         refine d_need (small := [(0, (.slice ba n1 ca)), (41, (.bool false))]) ⟨look_b rfl rfl, look_row rfl 5 rfl s5, trivial⟩ ?_
         refine t_guard rfl rfl ?_
         refine tp rfl (lv_move rfl) ?_
         exact d_closes ⟨look_b rfl rfl, look_row rfl 5 rfl s5, trivial⟩ 10 rfl rfl rfl hS (AgreeR.refl _) (t_sat (fun _ h => h) (hK () trivial))
        · -- 11
         rintro _ S hF hS D hp K hK
         try dsimp only at hF ⊢
         have s5 := hp 5 rfl
         have s10 := hp 10 rfl
         refine d_need (small := [(41, (.bool false)), (46, (.slice ba n1 ca))]) ⟨look_row rfl 5 rfl s5, look_row rfl 10 rfl s10, trivial⟩ ?_
         refine t_guard rfl rfl ?_
         refine tp rfl (lv_len Tryd.underlying22 rfl rfl) ?_
         exact d_closes ⟨look_row rfl 5 rfl s5, look_row rfl 10 rfl s10, trivial⟩ 11 rfl rfl rfl hS (AgreeR.refl _) (t_sat (fun _ h => h) (hK () trivial))
        · -- 12
         rintro _ S hF hS D hp K hK
         try dsimp only at hF ⊢
         have s5 := hp 5 rfl
         have s9 := hp 9 rfl
         have s11 := hp 11 rfl
         refine d_need (small := [(41, (.bool false)), (45, (.int .i64 ((L).getD i 0))), (47, (.int .i64 ((n1 : Nat) : Int)))]) ⟨look_row rfl 5 rfl s5, look_row rfl 9 rfl s9, look_row rfl 11 rfl s11, trivial⟩ ?_
         refine t_guard rfl rfl ?_
         refine tp rfl (lv_geq rfl rfl (decide_eq_false (by omega))) ?_
         exact d_closes ⟨look_row rfl 5 rfl s5, look_row rfl 9 rfl s9, look_row rfl 11 rfl s11, trivial⟩ 12 rfl rfl rfl hS (AgreeR.refl _) (t_sat (fun _ h => h) (hK () trivial))
        · -- 13
         rintro _ S hF hS D hp K hK
         try dsimp only at hF ⊢
         have s5 := hp 5 rfl
         have s12 := hp 12 rfl
         refine d_need (small := [(41, (.bool false)), (48, (.bool false))]) ⟨look_row rfl 5 rfl s5, look_row rfl 12 rfl s12, trivial⟩ ?_
         refine tp rfl (lv_pick_f rfl rfl) ?_
         exact d_closes ⟨look_row rfl 5 rfl s5, look_row rfl 12 rfl s12, trivial⟩ 13 rfl rfl rfl hS (AgreeR.refl _) (t_sat (fun _ h => h) (hK () trivial))
        · -- 14
         rintro _ S hF hS D hp K hK
         try dsimp only at hF ⊢
         have s13 := hp 13 rfl
         refine d_need (small := [(49, (.bool false))]) ⟨look_row rfl 13 rfl s13, trivial⟩ ?_
         refine tp rfl (lv_move rfl) ?_
         exact d_closes ⟨look_row rfl 13 rfl s13, trivial⟩ 14 rfl rfl rfl hS (AgreeR.refl _) (t_sat (fun _ h => h) (hK () trivial))
        · -- 15
         rintro _ S hF hS D hp K hK
         try dsimp only at hF ⊢
         have s14 := hp 14 rfl
         refine d_need (small := [(7, (.slice bs1 L.length cp2)), (50, (.bool false))]) ⟨look_b rfl rfl, look_row rfl 14 rfl s14, trivial⟩ ?_
         refine t_guard rfl rfl ?_
         refine tp rfl (lv_move rfl) ?_
         exact d_closes ⟨look_b rfl rfl, look_row rfl 14 rfl s14, trivial⟩ 15 rfl rfl rfl hS (AgreeR.refl _) (t_sat (fun _ h => h) (hK () trivial))
        · -- 16
         rintro _ S hF hS D hp K hK
         try dsimp only at hF ⊢
         have s14 := hp 14 rfl
         refine d_need (small := [(9, (.int .i64 ((i : Nat) : Int))), (50, (.bool false))]) ⟨look_b rfl rfl, look_row rfl 14 rfl s14, trivial⟩ ?_
         refine t_guard rfl rfl ?_
         refine tp rfl (lv_move rfl) ?_
         exact d_closes ⟨look_b rfl rfl, look_row rfl 14 rfl s14, trivial⟩ 16 rfl rfl rfl hS (AgreeR.refl _) (t_sat (fun _ h => h) (hK () trivial))
        · -- 17
         rintro _ S hF hS D hp K hK
         try dsimp only at hF ⊢
         have s14 := hp 14 rfl
         have s15 := hp 15 rfl
         have s16 := hp 16 rfl
         refine d_need (small := [(50, (.bool false)), (51, (.slice bs1 L.length cp2)), (52, (.int .i64 ((i : Nat) : Int)))]) ⟨look_row rfl 14 rfl s14, look_row rfl 15 rfl s15, look_row rfl 16 rfl s16, trivial⟩ ?_
         refine t_guard rfl rfl ?_
         refine tp rfl (lv_indexAddr (k' := i) Tryd.underlying22 Tryd.sizeOf3 rfl rfl hok3 (by omega) (by omega) (by omega)) ?_
         exact d_closes ⟨look_row rfl 14 rfl s14, look_row rfl 15 rfl s15, look_row rfl 16 rfl s16, trivial⟩ 17 rfl rfl rfl hS (AgreeR.refl _) (t_sat (fun _ h => h) (hK () trivial))
        · -- 18
         rintro _ S hF hS D hp K hK
         try dsimp only at hF ⊢
         have s14 := hp 14 rfl
         have s17 := hp 17 rfl
         refine d_need (small := [(50, (.bool false)), (53, (.pointer (some (ad bs1 i))))]) ⟨look_row rfl 14 rfl s14, look_row rfl 17 rfl s17, trivial⟩ ?_
         refine t_guard rfl rfl ?_
         refine tp rfl (lv_load Tryd.isAgg3 rfl (gives_sl (.tail _ (.head _)) (ints_get (by first | omega | (simp; omega))))) ?_
         exact d_closes ⟨look_row rfl 14 rfl s14, look_row rfl 17 rfl s17, trivial⟩ 18 rfl rfl rfl hS (AgreeR.refl _) (t_sat (fun _ h => h) (hK () trivial))
        · -- 19
         rintro _ S hF hS D hp K hK
         try dsimp only at hF ⊢
         have s14 := hp 14 rfl
         refine d_need (small := [(1, (.slice bp n2 cp)), (50, (.bool false))]) ⟨look_b rfl rfl, look_row rfl 14 rfl s14, trivial⟩ ?_
         refine t_guard rfl rfl ?_
         refine tp rfl (lv_move rfl) ?_
         exact d_closes ⟨look_b rfl rfl, look_row rfl 14 rfl s14, trivial⟩ 19 rfl rfl rfl hS (AgreeR.refl _) (t_sat (fun _ h => h) (hK () trivial))
        · -- 20
         rintro _ S hF hS D hp K hK
         try dsimp only at hF ⊢
         have s14 := hp 14 rfl
         have s19 := hp 19 rfl
         refine d_need (small := [(50, (.bool false)), (55, (.slice bp n2 cp))]) ⟨look_row rfl 14 rfl s14, look_row rfl 19 rfl s19, trivial⟩ ?_
         refine t_guard rfl rfl ?_
         refine tp rfl (lv_len Tryd.underlying22 rfl rfl) ?_
         exact d_closes ⟨look_row rfl 14 rfl s14, look_row rfl 19 rfl s19, trivial⟩ 20 rfl rfl rfl hS (AgreeR.refl _) (t_sat (fun _ h => h) (hK () trivial))
        · -- 21
         rintro _ S hF hS D hp K hK
         try dsimp only at hF ⊢
         have s14 := hp 14 rfl
         have s18 := hp 18 rfl
         have s20 := hp 20 rfl
         refine d_need (small := [(50, (.bool false)), (54, (.int .i64 ((L).getD i 0))), (56, (.int .i64 ((n2 : Nat) : Int)))]) ⟨look_row rfl 14 rfl s14, look_row rfl 18 rfl s18, look_row rfl 20 rfl s20, trivial⟩ ?_
         refine t_guard rfl rfl ?_
         refine tp rfl (lv_geq rfl rfl (decide_eq_false (by omega))) ?_
         exact d_closes ⟨look_row rfl 14 rfl s14, look_row rfl 18 rfl s18, look_row rfl 20 rfl s20, trivial⟩ 21 rfl rfl rfl hS (AgreeR.refl _) (t_sat (fun _ h => h) (hK () trivial))
        · -- 22
         rintro _ S hF hS D hp K hK
         try dsimp only at hF ⊢
         have s14 := hp 14 rfl
         have s21 := hp 21 rfl
         refine d_need (small := [(50, (.bool false)), (57, (.bool false))]) ⟨look_row rfl 14 rfl s14, look_row rfl 21 rfl s21, trivial⟩ ?_
         refine tp rfl (lv_pick_f rfl rfl) ?_
         exact d_closes ⟨look_row rfl 14 rfl s14, look_row rfl 21 rfl s21, trivial⟩ 22 rfl rfl rfl hS (AgreeR.refl _) (t_sat (fun _ h => h) (hK () trivial))
        · -- 23
         rintro _ S hF hS D hp K hK
         try dsimp only at hF ⊢
         have s22 := hp 22 rfl
         refine d_need (small := [(58, (.bool false))]) ⟨look_row rfl 22 rfl s22, trivial⟩ ?_
         refine tp rfl (lv_move rfl) ?_
         exact d_closes ⟨look_row rfl 22 rfl s22, trivial⟩ 23 rfl rfl rfl hS (AgreeR.refl _) (t_sat (fun _ h => h) (hK () trivial))
        · -- 24
         rintro _ S hF hS D hp K hK
         try dsimp only at hF ⊢
         have s23 := hp 23 rfl
         refine d_need (small := [(9, (.int .i64 ((i : Nat) : Int))), (59, (.bool false))]) ⟨look_b rfl rfl, look_row rfl 23 rfl s23, trivial⟩ ?_
         refine t_guard rfl rfl ?_
         refine tp rfl (lv_move rfl) ?_
         exact d_closes ⟨look_b rfl rfl, look_row rfl 23 rfl s23, trivial⟩ 24 rfl rfl rfl hS (AgreeR.refl _) (t_sat (fun _ h => h) (hK () trivial))
        · -- 25
         rintro _ S hF hS D hp K hK
         try dsimp only at hF ⊢
         have s23 := hp 23 rfl
         have s24 := hp 24 rfl
         refine d_need (small := [(59, (.bool false)), (60, (.int .i64 ((i : Nat) : Int)))]) ⟨look_row rfl 23 rfl s23, look_row rfl 24 rfl s24, trivial⟩ ?_
         refine t_guard rfl rfl ?_
         refine tp rfl (lv_gtr rfl rfl (decide_eq_false h7)) ?_
         exact d_closes ⟨look_row rfl 23 rfl s23, look_row rfl 24 rfl s24, trivial⟩ 25 rfl rfl rfl hS (AgreeR.refl _) (t_sat (fun _ h => h) (hK () trivial))
        · -- 26
         rintro _ S hF hS D hp K hK
         try dsimp only at hF ⊢
         have s23 := hp 23 rfl
         have s25 := hp 25 rfl
         refine d_need (small := [(59, (.bool false)), (61, (.bool false))]) ⟨look_row rfl 23 rfl s23, look_row rfl 25 rfl s25, trivial⟩ ?_
         refine t_guard rfl rfl ?_
         refine tp rfl (lv_move rfl) ?_
         exact d_closes ⟨look_row rfl 23 rfl s23, look_row rfl 25 rfl s25, trivial⟩ 26 rfl rfl rfl hS (AgreeR.refl _) (t_sat (fun _ h => h) (hK () trivial))
        · -- 27
         rintro _ S hF hS D hp K hK
         try dsimp only at hF ⊢
         have s26 := hp 26 rfl
         refine d_need (small := [(7, (.slice bs1 L.length cp2)), (62, (.bool false))]) ⟨look_b rfl rfl, look_row rfl 26 rfl s26, trivial⟩ ?_
         refine t_skip rfl rfl rfl ?_
         exact d_closes ⟨look_b rfl rfl, look_row rfl 26 rfl s26, trivial⟩ 27 rfl rfl rfl hS (AgreeR.refl _) (t_sat (fun _ h => h) (hK () trivial))
        · -- 28
         rintro _ S hF hS D hp K hK
         try dsimp only at hF ⊢
         have s26 := hp 26 rfl
         refine d_need (small := [(9, (.int .i64 ((i : Nat) : Int))), (62, (.bool false))]) ⟨look_b rfl rfl, look_row rfl 26 rfl s26, trivial⟩ ?_
         refine t_skip rfl rfl rfl ?_
         exact d_closes ⟨look_b rfl rfl, look_row rfl 26 rfl s26, trivial⟩ 28 rfl rfl rfl hS (AgreeR.refl _) (t_sat (fun _ h => h) (hK () trivial))
        · -- 29
         rintro _ S hF hS D hp K hK
         try dsimp only at hF ⊢
         have s26 := hp 26 rfl
         have s28 := hp 28 rfl
         refine d_need (small := [(62, (.bool false)), (64, undef)]) ⟨look_row rfl 26 rfl s26, look_row rfl 28 rfl s28, trivial⟩ ?_
         refine t_skip rfl rfl rfl ?_
         exact d_closes ⟨look_row rfl 26 rfl s26, look_row rfl 28 rfl s28, trivial⟩ 29 rfl rfl rfl hS (AgreeR.refl _) (t_sat (fun _ h => h) (hK () trivial))
        · -- 30
         rintro _ S hF hS D hp K hK
         try dsimp only at hF ⊢
         have s26 := hp 26 rfl
         have s27 := hp 27 rfl
         have s29 := hp 29 rfl
         refine d_need (small := [(62, (.bool false)), (63, undef), (65, undef)]) ⟨look_row rfl 26 rfl s26, look_row rfl 27 rfl s27, look_row rfl 29 rfl s29, trivial⟩ ?_
         refine t_skip rfl rfl rfl ?_
         exact d_closes ⟨look_row rfl 26 rfl s26, look_row rfl 27 rfl s27, look_row rfl 29 rfl s29, trivial⟩ 30 rfl rfl rfl hS (AgreeR.refl _) (t_sat (fun _ h => h) (hK () trivial))
        · -- 31
         rintro _ S hF hS D hp K hK
         try dsimp only at hF ⊢
         have s26 := hp 26 rfl
         have s30 := hp 30 rfl
         refine d_need (small := [(62, (.bool false)), (66, undef)]) ⟨look_row rfl 26 rfl s26, look_row rfl 30 rfl s30, trivial⟩ ?_
         refine t_skip rfl rfl rfl ?_
         exact d_closes ⟨look_row rfl 26 rfl s26, look_row rfl 30 rfl s30, trivial⟩ 31 rfl rfl rfl hS (AgreeR.refl _) (t_sat (fun _ h => h) (hK () trivial))
        · -- 32
         rintro _ S hF hS D hp K hK
         try dsimp only at hF ⊢
         have s26 := hp 26 rfl
         refine d_need (small := [(7, (.slice bs1 L.length cp2)), (62, (.bool false))]) ⟨look_b rfl rfl, look_row rfl 26 rfl s26, trivial⟩ ?_
         refine t_skip rfl rfl rfl ?_
         exact d_closes ⟨look_b rfl rfl, look_row rfl 26 rfl s26, trivial⟩ 32 rfl rfl rfl hS (AgreeR.refl _) (t_sat (fun _ h => h) (hK () trivial))
        · -- 33
         rintro _ S hF hS D hp K hK
         try dsimp only at hF ⊢
         have s26 := hp 26 rfl
         refine d_need (small := [(9, (.int .i64 ((i : Nat) : Int))), (62, (.bool false))]) ⟨look_b rfl rfl, look_row rfl 26 rfl s26, trivial⟩ ?_
         refine t_skip rfl rfl rfl ?_
         exact d_closes ⟨look_b rfl rfl, look_row rfl 26 rfl s26, trivial⟩ 33 rfl rfl rfl hS (AgreeR.refl _) (t_sat (fun _ h => h) (hK () trivial))
        · -- 34
         rintro _ S hF hS D hp K hK
         try dsimp only at hF ⊢
         have s26 := hp 26 rfl
         have s32 := hp 32 rfl
         have s33 := hp 33 rfl
         refine d_need (small := [(62, (.bool false)), (68, undef), (69, undef)]) ⟨look_row rfl 26 rfl s26, look_row rfl 32 rfl s32, look_row rfl 33 rfl s33, trivial⟩ ?_
         refine t_skip rfl rfl rfl ?_
         exact d_closes ⟨look_row rfl 26 rfl s26, look_row rfl 32 rfl s32, look_row rfl 33 rfl s33, trivial⟩ 34 rfl rfl rfl hS (AgreeR.refl _) (t_sat (fun _ h => h) (hK () trivial))
        · -- 35
         rintro _ S hF hS D hp K hK
         try dsimp only at hF ⊢
         have s26 := hp 26 rfl
         have s34 := hp 34 rfl
         refine d_need (small := [(62, (.bool false)), (70, undef)]) ⟨look_row rfl 26 rfl s26, look_row rfl 34 rfl s34, trivial⟩ ?_
         refine t_skip rfl rfl rfl ?_
         exact d_closes ⟨look_row rfl 26 rfl s26, look_row rfl 34 rfl s34, trivial⟩ 35 rfl rfl rfl hS (AgreeR.refl _) (t_sat (fun _ h => h) (hK () trivial))
        · -- 36
         rintro _ S hF hS D hp K hK
         try dsimp only at hF ⊢
         have s26 := hp 26 rfl
         have s31 := hp 31 rfl
         have s35 := hp 35 rfl
         refine d_need (small := [(62, (.bool false)), (67, undef), (71, undef)]) ⟨look_row rfl 26 rfl s26, look_row rfl 31 rfl s31, look_row rfl 35 rfl s35, trivial⟩ ?_
         refine t_skip rfl rfl rfl ?_
         exact d_closes ⟨look_row rfl 26 rfl s26, look_row rfl 31 rfl s31, look_row rfl 35 rfl s35, trivial⟩ 36 rfl rfl rfl hS (AgreeR.refl _) (t_sat (fun _ h => h) (hK () trivial))
        · -- 37
         rintro _ S hF hS D hp K hK
         try dsimp only at hF ⊢
         have s23 := hp 23 rfl
         have s26 := hp 26 rfl
         have s36 := hp 36 rfl
         refine d_need (small := [(59, (.bool false)), (62, (.bool false)), (72, undef)]) ⟨look_row rfl 23 rfl s23, look_row rfl 26 rfl s26, look_row rfl 36 rfl s36, trivial⟩ ?_
         refine t_guard rfl rfl ?_
         refine tp rfl (lv_pick_f rfl rfl) ?_
         exact d_closes ⟨look_row rfl 23 rfl s23, look_row rfl 26 rfl s26, look_row rfl 36 rfl s36, trivial⟩ 37 rfl rfl rfl hS (AgreeR.refl _) (t_sat (fun _ h => h) (hK () trivial))
        · -- 38
         rintro _ S hF hS D hp K hK
         try dsimp only at hF ⊢
         have s23 := hp 23 rfl
         have s37 := hp 37 rfl
         refine d_need (small := [(59, (.bool false)), (73, (.bool false))]) ⟨look_row rfl 23 rfl s23, look_row rfl 37 rfl s37, trivial⟩ ?_
         refine tp rfl (lv_pick_f rfl rfl) ?_
         exact d_closes ⟨look_row rfl 23 rfl s23, look_row rfl 37 rfl s37, trivial⟩ 38 rfl rfl rfl hS (AgreeR.refl _) (t_sat (fun _ h => h) (hK () trivial))
      · -- behind
        rintro _ hF
        try dsimp only at hF ⊢
        refine t_weak (E' := [(0, (.slice ba n1 ca)), (1, (.slice bp n2 cp)), (5, (.bool true)), (6, (.int .i64 p0)), (7, (.slice bs1 L.length cp2)), (8, (.pointer (some ⟨b5, 0, none⟩))), (9, (.int .i64 ((i : Nat) : Int))), (33, (.bool true)), (74, (.bool false))]) ⟨rfl, rfl, rfl, rfl, rfl, rfl, rfl, rfl, rfl, trivial⟩ ?_
        refine q_then_n (hK14 _ _ ?_)
        refine c_false rfl ?_
        refine c_skip ?_
        refine q_then_n (hK13 _ _ ?_)
        refine c_region ?_
        refine tp rfl (lv_move rfl) ?_
        refine tp rfl (lv_move rfl) ?_
        refine tp rfl (lv_indexAddr (k' := i) Tryd.underlying22 Tryd.sizeOf3 rfl rfl hok3 (by omega) (by omega) (by omega)) ?_
        refine tp rfl (lv_load Tryd.isAgg3 rfl (gives_sl (.tail _ (.head _)) (ints_get (by first | omega | (simp; omega))))) ?_
        refine tp rfl (lv_indexArr (k' := ((L).getD i 0).toNat) Tryd.underlying49 Tryd.sizeOf4 rfl rfl (by omega) (by omega) (by omega)) ?_
        refine ts (sv_blk Tryd.sizeOf4 rfl rfl rfl (by rw [bools_length]; omega) bools_set) ?_
        refine t_done ?_
        refine q_in_n ?_
        refine q_then_n (hK12 _ _ ?_)
        refine c_region ?_
        refine tp rfl (lv_move rfl) ?_
        refine tp rfl (lv_add (c := ((i + 1 : Nat) : Int)) rfl rfl (wr_i64_succ (by omega))) ?_
        refine tp rfl (lv_assign rfl) ?_
        refine t_done ?_
        refine q_then_n ?_
        exact t_weak (by exact ⟨rfl, rfl, rfl, rfl, rfl, rfl, rfl, trivial⟩) ((hK9 (i + 1, bs.set (L.getD i 0).toNat true) ⟨by omega, hmk.next (by omega) (by omega)⟩ (by dsimp only; omega)))
  · -- no
    refine tp rfl (lv_lss rfl rfl (decide_eq_false h6)) ?_
    refine t_done ?_
    refine q_then_n (hK11 _ _ ?_)
    refine c_false rfl ?_
    refine c_exit ?_
    refine q_then_x ?_
    refine q_then_x ?_
    refine q_in_x ?_
    refine q_then_n (hK7 _ _ ?_)
    refine c_seq (fun K12 hK12 => ?_)
    refine c_seq (fun K13 hK13 => ?_)
    refine c_region ?_
    refine tp rfl (lv_assign rfl) ?_
    refine t_done ?_
    refine q_then_n (hK13 _ _ ?_)
    refine c_block ?_
    refine c_loop (γ := (Nat)) (fun (t : Nat) => t ≤ m) (fun (t : Nat) => [(0, (.slice ba n1 ca)), (1, (.slice bp n2 cp)), (5, (.bool true)), (6, (.int .i64 p0)), (7, (.slice bs1 L.length cp2)), (8, (.pointer (some ⟨b5, 0, none⟩))), (9, (.int .i64 ((i : Nat) : Int))), (10, (.int .i64 ((t : Nat) : Int))), (33, (.bool false))]) (fun (t : Nat) => (Blk b5 (bools bs) 49) :: (SlV 3 1 (.slice bs1 L.length cp2) L.length (ints .i64 L)) :: R) (fun (t : Nat) => m - t) (0) (by omega) ⟨rfl, rfl, rfl, rfl, rfl, rfl, rfl, rfl, rfl, trivial⟩ (fun _ h => h) ?_
    rintro t K14 hF hK14
    try dsimp only at hF hK14 ⊢
    refine c_seq (fun K15 hK15 => ?_)
    refine c_seq (fun K16 hK16 => ?_)
    refine c_region ?_
    by_cases hc8 : ((t : Nat) : Int) < ((n1 : Nat) : Int) ∧ ((t : Nat) : Int) < ((n2 : Nat) : Int)
    · -- both
      have hc8a := hc8.1
      have hc8b := hc8.2
      refine tp rfl (lv_move rfl) ?_
      refine tp rfl (lv_move rfl) ?_
      refine tp rfl (lv_len Tryd.underlying22 rfl rfl) ?_
      refine tp rfl (lv_lss rfl rfl (decide_eq_true hc8.1)) ?_
      refine tp rfl (lv_move rfl) ?_
      refine t_guard rfl rfl ?_
      refine tp rfl (lv_move rfl) ?_
      refine t_guard rfl rfl ?_
      refine tp rfl (lv_move rfl) ?_
      refine t_guard rfl rfl ?_
      refine tp rfl (lv_len Tryd.underlying22 rfl rfl) ?_
      refine t_guard rfl rfl ?_
      refine tp rfl (lv_lss rfl rfl (decide_eq_true hc8.2)) ?_
      refine tp rfl (lv_pick_t rfl rfl) ?_
      refine t_done ?_
      refine q_then_n (hK16 _ _ ?_)
      refine c_true rfl ?_
      refine c_skip ?_
      refine q_then_n (hK15 _ _ ?_)
      refine c_seq (fun K17 hK17 => ?_)
      refine c_block ?_
      refine c_seq (fun K18 hK18 => ?_)
      refine c_region ?_
      refine tp rfl (lv_move rfl) ?_
      refine tp rfl (lv_move rfl) ?_
      refine tp rfl (lv_indexAddr (k' := t) Tryd.underlying22 Tryd.sizeOf3 rfl rfl (fun hz => oka (by omega)) (by omega) (by omega) (by omega)) ?_
      refine tp rfl (lv_load Tryd.isAgg3 rfl (Rd.gives (Rd.cons (Rd.cons rda)) (ints_get (by first | omega | (simp; omega))))) ?_
      by_cases hst : ((us).getD t 0) = 1
      · -- yes
        refine tp rfl (lv_eql rfl rfl (beq_iff_eq.2 hst)) ?_
        refine tp rfl (lv_move rfl) ?_
        refine t_guard rfl rfl ?_
        refine tp rfl (lv_move rfl) ?_
        refine t_guard rfl rfl ?_
        refine tp rfl (lv_move rfl) ?_
        refine t_guard rfl rfl ?_
        refine tp rfl (lv_indexAddr (k' := t) Tryd.underlying22 Tryd.sizeOf3 rfl rfl (fun hz => okp (by omega)) (by omega) (by omega) (by omega)) ?_
        refine t_guard rfl rfl ?_
        refine tp rfl (lv_load Tryd.isAgg3 rfl (Rd.gives (Rd.cons (Rd.cons rdp)) (ints_get (by first | omega | (simp; omega))))) ?_
        refine t_guard rfl rfl ?_
        refine tp rfl (lv_geq rfl rfl rfl) ?_
        refine tp rfl (lv_pick_t rfl rfl) ?_
        refine tp rfl (lv_assign rfl) ?_
        refine t_done ?_
        refine q_then_n (hK18 _ _ ?_)
        refine c_seq (fun K19 hK19 => ?_)
        rcases hh9 : decide (((vs).getD t 0) ≥ 0) with _ | _
        · -- false
         refine c_draw (γ := Unit) (n := 24) Tryd.mixed rfl rfl (fun _ S => True) (fun _ => [(0, 104, (.int .i64 ((t : Nat) : Int))), (1, 105, (.pointer (some ⟨b5, t, none⟩))), (2, 106, (.bool ((bs).getD t false))), (3, 107, (.bool false)), (4, 108, (.bool false)), (5, 109, undef), (6, 110, undef), (7, 111, undef), (8, 112, undef), (9, 113, undef), (10, 114, undef), (11, 115, (.bool false)), (12, 116, (.bool false)), (13, 117, (.bool false)), (14, 118, (.bool false)), (15, 119, (.bool false)), (16, 120, undef), (17, 121, undef), (18, 122, undef), (19, 123, undef), (20, 124, undef), (21, 125, undef), (22, 126, (.bool false)), (23, 127, (.bool false))]) (fun _ S => (Blk b5 (bools bs) 49) :: (SlV 3 1 (.slice bs1 L.length cp2) L.length (ints .i64 L)) :: R) (()) trivial (fun _ h => h) (fun _ _ h => h) ?_ ?_
         · -- steps
          refine ⟨?_, ?_, ?_, ?_, ?_, ?_, ?_, ?_, ?_, ?_, ?_, ?_, ?_, ?_, ?_, ?_, ?_, ?_, ?_, ?_, ?_, ?_, ?_, ?_, trivial⟩
          · -- 0
           rintro _ S hF hS D hp K hK
           try dsimp only at hF ⊢
           refine d_need (small := [(10, (.int .i64 ((t : Nat) : Int)))]) ⟨look_b rfl rfl, trivial⟩ ?_
           refine tp rfl (lv_move rfl) ?_
           exact d_closes ⟨look_b rfl rfl, trivial⟩ 0 rfl rfl rfl hS (AgreeR.refl _) (t_sat (fun _ h => h) (hK () trivial))
          · -- 1
           rintro _ S hF hS D hp K hK
           try dsimp only at hF ⊢
           have s0 := hp 0 rfl
           refine d_need (small := [(8, (.pointer (some ⟨b5, 0, none⟩))), (104, (.int .i64 ((t : Nat) : Int)))]) ⟨look_b rfl rfl, look_row rfl 0 rfl s0, trivial⟩ ?_
           refine tp rfl (lv_indexArr (k' := t) Tryd.underlying49 Tryd.sizeOf4 rfl rfl (by omega) (by omega) (by omega)) ?_
           exact d_closes ⟨look_b rfl rfl, look_row rfl 0 rfl s0, trivial⟩ 1 rfl rfl rfl hS (AgreeR.refl _) (t_sat (fun _ h => h) (hK () trivial))
          · -- 2
           rintro _ S hF hS D hp K hK
           try dsimp only at hF ⊢
           have s1 := hp 1 rfl
           refine d_need (small := [(105, (.pointer (some ⟨b5, t, none⟩)))]) ⟨look_row rfl 1 rfl s1, trivial⟩ ?_
           refine tp rfl (lv_load Tryd.isAgg4 rfl (gives_blk (.head _) (bools_get (by first | omega | (simp; omega))))) ?_
           exact d_closes ⟨look_row rfl 1 rfl s1, trivial⟩ 2 rfl rfl rfl hS (AgreeR.refl _) (t_sat (fun _ h => h) (hK () trivial))
          · -- 3
           rintro _ S hF hS D hp K hK
           try dsimp only at hF ⊢
           refine d_need (small := [(11, (.bool false))]) ⟨look_b rfl rfl, trivial⟩ ?_
           refine tp rfl (lv_move rfl) ?_
           exact d_closes ⟨look_b rfl rfl, trivial⟩ 3 rfl rfl rfl hS (AgreeR.refl _) (t_sat (fun _ h => h) (hK () trivial))
          · -- 4
           rintro _ S hF hS D hp K hK
           try dsimp only at hF ⊢
           have s3 := hp 3 rfl
           refine d_need (small := [(107, (.bool false))]) ⟨look_row rfl 3 rfl s3, trivial⟩ ?_
           refine tp rfl (lv_move rfl) ?_
           exact d_closes ⟨look_row rfl 3 rfl s3, trivial⟩ 4 rfl rfl rfl hS (AgreeR.refl _) (t_sat (fun _ h => h) (hK () trivial))
          · -- 5
           rintro _ S hF hS D hp K hK
           try dsimp only at hF ⊢
           have s4 := hp 4 rfl
           refine d_need (small := [(1, (.slice bp n2 cp)), (108, (.bool false))]) ⟨look_b rfl rfl, look_row rfl 4 rfl s4, trivial⟩ ?_
           refine t_skip rfl rfl rfl ?_
           exact d_closes ⟨look_b rfl rfl, look_row rfl 4 rfl s4, trivial⟩ 5 rfl rfl rfl hS (AgreeR.refl _) (t_sat (fun _ h => h) (hK () trivial))
          · -- 6
           rintro _ S hF hS D hp K hK
           try dsimp only at hF ⊢
           have s4 := hp 4 rfl
           refine d_need (small := [(10, (.int .i64 ((t : Nat) : Int))), (108, (.bool false))]) ⟨look_b rfl rfl, look_row rfl 4 rfl s4, trivial⟩ ?_
           refine t_skip rfl rfl rfl ?_
           exact d_closes ⟨look_b rfl rfl, look_row rfl 4 rfl s4, trivial⟩ 6 rfl rfl rfl hS (AgreeR.refl _) (t_sat (fun _ h => h) (hK () trivial))
          · -- 7
           rintro _ S hF hS D hp K hK
           try dsimp only at hF ⊢
           have s4 := hp 4 rfl
           have s5 := hp 5 rfl
           have s6 := hp 6 rfl
           refine d_need (small := [(108, (.bool false)), (109, undef), (110, undef)]) ⟨look_row rfl 4 rfl s4, look_row rfl 5 rfl s5, look_row rfl 6 rfl s6, trivial⟩ ?_
           refine t_skip rfl rfl rfl ?_
           exact d_closes ⟨look_row rfl 4 rfl s4, look_row rfl 5 rfl s5, look_row rfl 6 rfl s6, trivial⟩ 7 rfl rfl rfl hS (AgreeR.refl _) (t_sat (fun _ h => h) (hK () trivial))
          · -- 8
           rintro _ S hF hS D hp K hK
           try dsimp only at hF ⊢
           have s4 := hp 4 rfl
           have s7 := hp 7 rfl
           refine d_need (small := [(108, (.bool false)), (111, undef)]) ⟨look_row rfl 4 rfl s4, look_row rfl 7 rfl s7, trivial⟩ ?_
           refine t_skip rfl rfl rfl ?_
           exact d_closes ⟨look_row rfl 4 rfl s4, look_row rfl 7 rfl s7, trivial⟩ 8 rfl rfl rfl hS (AgreeR.refl _) (t_sat (fun _ h => h) (hK () trivial))
          · -- 9
           rintro _ S hF hS D hp K hK
           try dsimp only at hF ⊢
           have s4 := hp 4 rfl
           refine d_need (small := [(6, (.int .i64 p0)), (108, (.bool false))]) ⟨look_b rfl rfl, look_row rfl 4 rfl s4, trivial⟩ ?_
           refine t_skip rfl rfl rfl ?_
           exact d_closes ⟨look_b rfl rfl, look_row rfl 4 rfl s4, trivial⟩ 9 rfl rfl rfl hS (AgreeR.refl _) (t_sat (fun _ h => h) (hK () trivial))
          · -- 10
           rintro _ S hF hS D hp K hK
           try dsimp only at hF ⊢
           have s4 := hp 4 rfl
           have s8 := hp 8 rfl
           have s9 := hp 9 rfl
           refine d_need (small := [(108, (.bool false)), (112, undef), (113, undef)]) ⟨look_row rfl 4 rfl s4, look_row rfl 8 rfl s8, look_row rfl 9 rfl s9, trivial⟩ ?_
           refine t_skip rfl rfl rfl ?_
           exact d_closes ⟨look_row rfl 4 rfl s4, look_row rfl 8 rfl s8, look_row rfl 9 rfl s9, trivial⟩ 10 rfl rfl rfl hS (AgreeR.refl _) (t_sat (fun _ h => h) (hK () trivial))
          · -- 11
           rintro _ S hF hS D hp K hK
           try dsimp only at hF ⊢
           have s4 := hp 4 rfl
           have s10 := hp 10 rfl
           refine d_need (small := [(108, (.bool false)), (114, undef)]) ⟨look_row rfl 4 rfl s4, look_row rfl 10 rfl s10, trivial⟩ ?_
           refine tp rfl (lv_pick_f rfl rfl) ?_
           exact d_closes ⟨look_row rfl 4 rfl s4, look_row rfl 10 rfl s10, trivial⟩ 11 rfl rfl rfl hS (AgreeR.refl _) (t_sat (fun _ h => h) (hK () trivial))
          · -- 12
           rintro _ S hF hS D hp K hK
           try dsimp only at hF ⊢
           have s2 := hp 2 rfl
           have s11 := hp 11 rfl
           refine d_need (small := [(106, (.bool ((bs).getD t false))), (115, (.bool false))]) ⟨look_row rfl 2 rfl s2, look_row rfl 11 rfl s11, trivial⟩ ?_
           refine tp rfl (lv_neb Tryd.underlying4 rfl rfl (by first | exact mk_yes hmk (by omega) (by omega) hB (by omega) (by omega) hst ‹_› | exact mk_no hmk (by omega) (by omega) hB (by omega) (by omega) (fun hh => hst hh.1) | exact mk_no hmk (by omega) (by omega) hB (by omega) (by omega) (fun hh => Bool.noConfusion ((decide_eq_true hh.2).symm.trans ‹decide (vs.getD t 0 ≥ 0) = false›)))) ?_
           exact d_closes ⟨look_row rfl 2 rfl s2, look_row rfl 11 rfl s11, trivial⟩ 12 rfl rfl rfl hS (AgreeR.refl _) (t_sat (fun _ h => h) (hK () trivial))
          · -- 13
           rintro _ S hF hS D hp K hK
           try dsimp only at hF ⊢
           have s12 := hp 12 rfl
           refine d_need (small := [(116, (.bool false))]) ⟨look_row rfl 12 rfl s12, trivial⟩ ?_
           refine tp rfl (lv_move rfl) ?_
           exact d_closes ⟨look_row rfl 12 rfl s12, trivial⟩ 13 rfl rfl rfl hS (AgreeR.refl _) (t_sat (fun _ h => h) (hK () trivial))
          · -- 14
           rintro _ S hF hS D hp K hK
           try dsimp only at hF ⊢
           have s13 := hp 13 rfl
           refine d_need (small := [(11, (.bool false)), (117, (.bool false))]) ⟨look_b rfl rfl, look_row rfl 13 rfl s13, trivial⟩ ?_
           refine t_guard rfl rfl ?_
           refine tp rfl (lv_move rfl) ?_
           exact d_closes ⟨look_b rfl rfl, look_row rfl 13 rfl s13, trivial⟩ 14 rfl rfl rfl hS (AgreeR.refl _) (t_sat (fun _ h => h) (hK () trivial))
          · -- 15
           rintro _ S hF hS D hp K hK
           try dsimp only at hF ⊢
           have s13 := hp 13 rfl
           have s14 := hp 14 rfl
           refine d_need (small := [(117, (.bool false)), (118, (.bool false))]) ⟨look_row rfl 13 rfl s13, look_row rfl 14 rfl s14, trivial⟩ ?_
           refine t_guard rfl rfl ?_
           refine tp rfl (lv_move rfl) ?_
           exact d_closes ⟨look_row rfl 13 rfl s13, look_row rfl 14 rfl s14, trivial⟩ 15 rfl rfl rfl hS (AgreeR.refl _) (t_sat (fun _ h => h) (hK () trivial))
          · -- 16
           rintro _ S hF hS D hp K hK
           try dsimp only at hF ⊢
           have s15 := hp 15 rfl
           refine d_need (small := [(1, (.slice bp n2 cp)), (119, (.bool false))]) ⟨look_b rfl rfl, look_row rfl 15 rfl s15, trivial⟩ ?_
           refine t_skip rfl rfl rfl ?_
           exact d_closes ⟨look_b rfl rfl, look_row rfl 15 rfl s15, trivial⟩ 16 rfl rfl rfl hS (AgreeR.refl _) (t_sat (fun _ h => h) (hK () trivial))
          · -- 17
           rintro _ S hF hS D hp K hK
           try dsimp only at hF ⊢
           have s15 := hp 15 rfl
           refine d_need (small := [(10, (.int .i64 ((t : Nat) : Int))), (119, (.bool false))]) ⟨look_b rfl rfl, look_row rfl 15 rfl s15, trivial⟩ ?_
           refine t_skip rfl rfl rfl ?_
           exact d_closes ⟨look_b rfl rfl, look_row rfl 15 rfl s15, trivial⟩ 17 rfl rfl rfl hS (AgreeR.refl _) (t_sat (fun _ h => h) (hK () trivial))
          · -- 18
           rintro _ S hF hS D hp K hK
           try dsimp only at hF ⊢
           have s15 := hp 15 rfl
           have s16 := hp 16 rfl
           have s17 := hp 17 rfl
           refine d_need (small := [(119, (.bool false)), (120, undef), (121, undef)]) ⟨look_row rfl 15 rfl s15, look_row rfl 16 rfl s16, look_row rfl 17 rfl s17, trivial⟩ ?_
           refine t_skip rfl rfl rfl ?_
           exact d_closes ⟨look_row rfl 15 rfl s15, look_row rfl 16 rfl s16, look_row rfl 17 rfl s17, trivial⟩ 18 rfl rfl rfl hS (AgreeR.refl _) (t_sat (fun _ h => h) (hK () trivial))
          · -- 19
           rintro _ S hF hS D hp K hK
           try dsimp only at hF ⊢
           have s15 := hp 15 rfl
           have s18 := hp 18 rfl
           refine d_need (small := [(119, (.bool false)), (122, undef)]) ⟨look_row rfl 15 rfl s15, look_row rfl 18 rfl s18, trivial⟩ ?_
           refine t_skip rfl rfl rfl ?_
           exact d_closes ⟨look_row rfl 15 rfl s15, look_row rfl 18 rfl s18, trivial⟩ 19 rfl rfl rfl hS (AgreeR.refl _) (t_sat (fun _ h => h) (hK () trivial))
          · -- 20
           rintro _ S hF hS D hp K hK
           try dsimp only at hF ⊢
           have s15 := hp 15 rfl
           refine d_need (small := [(6, (.int .i64 p0)), (119, (.bool false))]) ⟨look_b rfl rfl, look_row rfl 15 rfl s15, trivial⟩ ?_
           refine t_skip rfl rfl rfl ?_
           exact d_closes ⟨look_b rfl rfl, look_row rfl 15 rfl s15, trivial⟩ 20 rfl rfl rfl hS (AgreeR.refl _) (t_sat (fun _ h => h) (hK () trivial))
          · -- 21
           rintro _ S hF hS D hp K hK
           try dsimp only at hF ⊢
           have s15 := hp 15 rfl
           have s19 := hp 19 rfl
           have s20 := hp 20 rfl
           refine d_need (small := [(119, (.bool false)), (123, undef), (124, undef)]) ⟨look_row rfl 15 rfl s15, look_row rfl 19 rfl s19, look_row rfl 20 rfl s20, trivial⟩ ?_
           refine t_skip rfl rfl rfl ?_
           exact d_closes ⟨look_row rfl 15 rfl s15, look_row rfl 19 rfl s19, look_row rfl 20 rfl s20, trivial⟩ 21 rfl rfl rfl hS (AgreeR.refl _) (t_sat (fun _ h => h) (hK () trivial))
          · -- 22
           rintro _ S hF hS D hp K hK
           try dsimp only at hF ⊢
           have s13 := hp 13 rfl
           have s15 := hp 15 rfl
           have s21 := hp 21 rfl
           refine d_need (small := [(117, (.bool false)), (119, (.bool false)), (125, undef)]) ⟨look_row rfl 13 rfl s13, look_row rfl 15 rfl s15, look_row rfl 21 rfl s21, trivial⟩ ?_
           refine t_guard rfl rfl ?_
           refine tp rfl (lv_pick_f rfl rfl) ?_
           exact d_closes ⟨look_row rfl 13 rfl s13, look_row rfl 15 rfl s15, look_row rfl 21 rfl s21, trivial⟩ 22 rfl rfl rfl hS (AgreeR.refl _) (t_sat (fun _ h => h) (hK () trivial))
          · -- 23
           rintro _ S hF hS D hp K hK
           try dsimp only at hF ⊢
           have s13 := hp 13 rfl
           have s22 := hp 22 rfl
           refine d_need (small := [(117, (.bool false)), (126, (.bool false))]) ⟨look_row rfl 13 rfl s13, look_row rfl 22 rfl s22, trivial⟩ ?_
           refine tp rfl (lv_pick_f rfl rfl) ?_
           exact d_closes ⟨look_row rfl 13 rfl s13, look_row rfl 22 rfl s22, trivial⟩ 23 rfl rfl rfl hS (AgreeR.refl _) (t_sat (fun _ h => h) (hK () trivial))
         · -- behind
          rintro _ hF
          try dsimp only at hF ⊢
          refine t_weak (E' := [(0, (.slice ba n1 ca)), (1, (.slice bp n2 cp)), (5, (.bool true)), (6, (.int .i64 p0)), (7, (.slice bs1 L.length cp2)), (8, (.pointer (some ⟨b5, 0, none⟩))), (9, (.int .i64 ((i : Nat) : Int))), (10, (.int .i64 ((t : Nat) : Int))), (11, (.bool false)), (33, (.bool false)), (89, (.bool true)), (127, (.bool false))]) ⟨rfl, rfl, rfl, rfl, rfl, rfl, rfl, rfl, rfl, rfl, rfl, rfl, trivial⟩ ?_
          refine q_then_n (hK19 _ _ ?_)
          refine c_false rfl ?_
          refine c_skip ?_
          refine q_in_n ?_
          refine q_then_n (hK17 _ _ ?_)
          refine c_region ?_
          refine tp rfl (lv_move rfl) ?_
          refine tp rfl (lv_add (c := ((t + 1 : Nat) : Int)) rfl rfl (wr_i64_succ (by omega))) ?_
          refine tp rfl (lv_assign rfl) ?_
          refine t_done ?_
          refine q_then_n ?_
          exact t_weak (by exact ⟨rfl, rfl, rfl, rfl, rfl, rfl, rfl, rfl, rfl, trivial⟩) ((hK14 (t + 1) (by omega) (by omega)))
        · -- true
         refine c_draw (γ := Unit) (n := 24) Tryd.mixed rfl rfl (fun _ S => True) (fun _ => [(0, 104, (.int .i64 ((t : Nat) : Int))), (1, 105, (.pointer (some ⟨b5, t, none⟩))), (2, 106, (.bool ((bs).getD t false))), (3, 107, (.bool true)), (4, 108, (.bool true)), (5, 109, (.slice bp n2 cp)), (6, 110, (.int .i64 ((t : Nat) : Int))), (7, 111, (.pointer (some (ad bp t)))), (8, 112, (.int .i64 ((vs).getD t 0))), (9, 113, (.int .i64 p0)), (10, 114, (.bool (((vs).getD t 0) == p0))), (11, 115, (.bool (((vs).getD t 0) == p0))), (12, 116, (.bool false)), (13, 117, (.bool false)), (14, 118, (.bool true)), (15, 119, (.bool true)), (16, 120, (.slice bp n2 cp)), (17, 121, (.int .i64 ((t : Nat) : Int))), (18, 122, (.pointer (some (ad bp t)))), (19, 123, (.int .i64 ((vs).getD t 0))), (20, 124, (.int .i64 p0)), (21, 125, (.bool false)), (22, 126, (.bool false)), (23, 127, (.bool false))]) (fun _ S => (Blk b5 (bools bs) 49) :: (SlV 3 1 (.slice bs1 L.length cp2) L.length (ints .i64 L)) :: R) (()) trivial (fun _ h => h) (fun _ _ h => h) ?_ ?_
         · -- steps
          refine ⟨?_, ?_, ?_, ?_, ?_, ?_, ?_, ?_, ?_, ?_, ?_, ?_, ?_, ?_, ?_, ?_, ?_, ?_, ?_, ?_, ?_, ?_, ?_, ?_, trivial⟩
          · -- 0
           rintro _ S hF hS D hp K hK
           try dsimp only at hF ⊢
           refine d_need (small := [(10, (.int .i64 ((t : Nat) : Int)))]) ⟨look_b rfl rfl, trivial⟩ ?_
           refine tp rfl (lv_move rfl) ?_
           exact d_closes ⟨look_b rfl rfl, trivial⟩ 0 rfl rfl rfl hS (AgreeR.refl _) (t_sat (fun _ h => h) (hK () trivial))
          · -- 1
           rintro _ S hF hS D hp K hK
           try dsimp only at hF ⊢
           have s0 := hp 0 rfl
           refine d_need (small := [(8, (.pointer (some ⟨b5, 0, none⟩))), (104, (.int .i64 ((t : Nat) : Int)))]) ⟨look_b rfl rfl, look_row rfl 0 rfl s0, trivial⟩ ?_
           refine tp rfl (lv_indexArr (k' := t) Tryd.underlying49 Tryd.sizeOf4 rfl rfl (by omega) (by omega) (by omega)) ?_
           exact d_closes ⟨look_b rfl rfl, look_row rfl 0 rfl s0, trivial⟩ 1 rfl rfl rfl hS (AgreeR.refl _) (t_sat (fun _ h => h) (hK () trivial))
          · -- 2
           rintro _ S hF hS D hp K hK
           try dsimp only at hF ⊢
           have s1 := hp 1 rfl
           refine d_need (small := [(105, (.pointer (some ⟨b5, t, none⟩)))]) ⟨look_row rfl 1 rfl s1, trivial⟩ ?_
           refine tp rfl (lv_load Tryd.isAgg4 rfl (gives_blk (.head _) (bools_get (by first | omega | (simp; omega))))) ?_
           exact d_closes ⟨look_row rfl 1 rfl s1, trivial⟩ 2 rfl rfl rfl hS (AgreeR.refl _) (t_sat (fun _ h => h) (hK () trivial))
          · -- 3
           rintro _ S hF hS D hp K hK
           try dsimp only at hF ⊢
           refine d_need (small := [(11, (.bool true))]) ⟨look_b rfl rfl, trivial⟩ ?_
           refine tp rfl (lv_move rfl) ?_
           exact d_closes ⟨look_b rfl rfl, trivial⟩ 3 rfl rfl rfl hS (AgreeR.refl _) (t_sat (fun _ h => h) (hK () trivial))
          · -- 4
           rintro _ S hF hS D hp K hK
           try dsimp only at hF ⊢
           have s3 := hp 3 rfl
           refine d_need (small := [(107, (.bool true))]) ⟨look_row rfl 3 rfl s3, trivial⟩ ?_
           refine tp rfl (lv_move rfl) ?_
           exact d_closes ⟨look_row rfl 3 rfl s3, trivial⟩ 4 rfl rfl rfl hS (AgreeR.refl _) (t_sat (fun _ h => h) (hK () trivial))
          · -- 5
           rintro _ S hF hS D hp K hK
           try dsimp only at hF ⊢
           have s4 := hp 4 rfl
           refine d_need (small := [(1, (.slice bp n2 cp)), (108, (.bool true))]) ⟨look_b rfl rfl, look_row rfl 4 rfl s4, trivial⟩ ?_
           refine t_guard rfl rfl ?_
           refine tp rfl (lv_move rfl) ?_
           exact d_closes ⟨look_b rfl rfl, look_row rfl 4 rfl s4, trivial⟩ 5 rfl rfl rfl hS (AgreeR.refl _) (t_sat (fun _ h => h) (hK () trivial))
          · -- 6
           rintro _ S hF hS D hp K hK
           try dsimp only at hF ⊢
           have s4 := hp 4 rfl
           refine d_need (small := [(10, (.int .i64 ((t : Nat) : Int))), (108, (.bool true))]) ⟨look_b rfl rfl, look_row rfl 4 rfl s4, trivial⟩ ?_
           refine t_guard rfl rfl ?_
           refine tp rfl (lv_move rfl) ?_
           exact d_closes ⟨look_b rfl rfl, look_row rfl 4 rfl s4, trivial⟩ 6 rfl rfl rfl hS (AgreeR.refl _) (t_sat (fun _ h => h) (hK () trivial))
          · -- 7
           rintro _ S hF hS D hp K hK
           try dsimp only at hF ⊢
           have s4 := hp 4 rfl
           have s5 := hp 5 rfl
           have s6 := hp 6 rfl
           refine d_need (small := [(108, (.bool true)), (109, (.slice bp n2 cp)), (110, (.int .i64 ((t : Nat) : Int)))]) ⟨look_row rfl 4 rfl s4, look_row rfl 5 rfl s5, look_row rfl 6 rfl s6, trivial⟩ ?_
           refine t_guard rfl rfl ?_
           refine tp rfl (lv_indexAddr (k' := t) Tryd.underlying22 Tryd.sizeOf3 rfl rfl (fun hz => okp (by omega)) (by omega) (by omega) (by omega)) ?_
           exact d_closes ⟨look_row rfl 4 rfl s4, look_row rfl 5 rfl s5, look_row rfl 6 rfl s6, trivial⟩ 7 rfl rfl rfl hS (AgreeR.refl _) (t_sat (fun _ h => h) (hK () trivial))
          · -- 8
           rintro _ S hF hS D hp K hK
           try dsimp only at hF ⊢
           have s4 := hp 4 rfl
           have s7 := hp 7 rfl
           refine d_need (small := [(108, (.bool true)), (111, (.pointer (some (ad bp t))))]) ⟨look_row rfl 4 rfl s4, look_row rfl 7 rfl s7, trivial⟩ ?_
           refine t_guard rfl rfl ?_
           refine tp rfl (lv_load Tryd.isAgg3 rfl (Rd.gives (Rd.cons (Rd.cons rdp)) (ints_get (by first | omega | (simp; omega))))) ?_
           exact d_closes ⟨look_row rfl 4 rfl s4, look_row rfl 7 rfl s7, trivial⟩ 8 rfl rfl rfl hS (AgreeR.refl _) (t_sat (fun _ h => h) (hK () trivial))
          · -- 9
           rintro _ S hF hS D hp K hK
           try dsimp only at hF ⊢
           have s4 := hp 4 rfl
           refine d_need (small := [(6, (.int .i64 p0)), (108, (.bool true))]) ⟨look_b rfl rfl, look_row rfl 4 rfl s4, trivial⟩ ?_
           refine t_guard rfl rfl ?_
           refine tp rfl (lv_move rfl) ?_
           exact d_closes ⟨look_b rfl rfl, look_row rfl 4 rfl s4, trivial⟩ 9 rfl rfl rfl hS (AgreeR.refl _) (t_sat (fun _ h => h) (hK () trivial))
          · -- 10
           rintro _ S hF hS D hp K hK
           try dsimp only at hF ⊢
           have s4 := hp 4 rfl
           have s8 := hp 8 rfl
           have s9 := hp 9 rfl
           refine d_need (small := [(108, (.bool true)), (112, (.int .i64 ((vs).getD t 0))), (113, (.int .i64 p0))]) ⟨look_row rfl 4 rfl s4, look_row rfl 8 rfl s8, look_row rfl 9 rfl s9, trivial⟩ ?_
           refine t_guard rfl rfl ?_
           refine tp rfl (lv_eql rfl rfl rfl) ?_
           exact d_closes ⟨look_row rfl 4 rfl s4, look_row rfl 8 rfl s8, look_row rfl 9 rfl s9, trivial⟩ 10 rfl rfl rfl hS (AgreeR.refl _) (t_sat (fun _ h => h) (hK () trivial))
          · -- 11
           rintro _ S hF hS D hp K hK
           try dsimp only at hF ⊢
           have s4 := hp 4 rfl
           have s10 := hp 10 rfl
           refine d_need (small := [(108, (.bool true)), (114, (.bool (((vs).getD t 0) == p0)))]) ⟨look_row rfl 4 rfl s4, look_row rfl 10 rfl s10, trivial⟩ ?_
           refine tp rfl (lv_pick_t rfl rfl) ?_
           exact d_closes ⟨look_row rfl 4 rfl s4, look_row rfl 10 rfl s10, trivial⟩ 11 rfl rfl rfl hS (AgreeR.refl _) (t_sat (fun _ h => h) (hK () trivial))
          · -- 12
           rintro _ S hF hS D hp K hK
           try dsimp only at hF ⊢
           have s2 := hp 2 rfl
           have s11 := hp 11 rfl
           refine d_need (small := [(106, (.bool ((bs).getD t false))), (115, (.bool (((vs).getD t 0) == p0)))]) ⟨look_row rfl 2 rfl s2, look_row rfl 11 rfl s11, trivial⟩ ?_
           refine tp rfl (lv_neb Tryd.underlying4 rfl rfl (by first | exact mk_yes hmk (by omega) (by omega) hB (by omega) (by omega) hst ‹_› | exact mk_no hmk (by omega) (by omega) hB (by omega) (by omega) (fun hh => hst hh.1) | exact mk_no hmk (by omega) (by omega) hB (by omega) (by omega) (fun hh => Bool.noConfusion ((decide_eq_true hh.2).symm.trans ‹decide (vs.getD t 0 ≥ 0) = false›)))) ?_
           exact d_closes ⟨look_row rfl 2 rfl s2, look_row rfl 11 rfl s11, trivial⟩ 12 rfl rfl rfl hS (AgreeR.refl _) (t_sat (fun _ h => h) (hK () trivial))
          · -- 13
           rintro _ S hF hS D hp K hK
           try dsimp only at hF ⊢
           have s12 := hp 12 rfl
           refine d_need (small := [(116, (.bool false))]) ⟨look_row rfl 12 rfl s12, trivial⟩ ?_
           refine tp rfl (lv_move rfl) ?_
           exact d_closes ⟨look_row rfl 12 rfl s12, trivial⟩ 13 rfl rfl rfl hS (AgreeR.refl _) (t_sat (fun _ h => h) (hK () trivial))
          · -- 14
           rintro _ S hF hS D hp K hK
           try dsimp only at hF ⊢
           have s13 := hp 13 rfl
           refine d_need (small := [(11, (.bool true)), (117, (.bool false))]) ⟨look_b rfl rfl, look_row rfl 13 rfl s13, trivial⟩ ?_
           refine t_guard rfl rfl ?_
           refine tp rfl (lv_move rfl) ?_
           exact d_closes ⟨look_b rfl rfl, look_row rfl 13 rfl s13, trivial⟩ 14 rfl rfl rfl hS (AgreeR.refl _) (t_sat (fun _ h => h) (hK () trivial))
          · -- 15
           rintro _ S hF hS D hp K hK
           try dsimp only at hF ⊢
           have s13 := hp 13 rfl
           have s14 := hp 14 rfl
           refine d_need (small := [(117, (.bool false)), (118, (.bool true))]) ⟨look_row rfl 13 rfl s13, look_row rfl 14 rfl s14, trivial⟩ ?_
           refine t_guard rfl rfl ?_
           refine tp rfl (lv_move rfl) ?_
           exact d_closes ⟨look_row rfl 13 rfl s13, look_row rfl 14 rfl s14, trivial⟩ 15 rfl rfl rfl hS (AgreeR.refl _) (t_sat (fun _ h => h) (hK () trivial))
          · -- 16
           rintro _ S hF hS D hp K hK
           try dsimp only at hF ⊢
           have s15 := hp 15 rfl
           refine d_need (small := [(1, (.slice bp n2 cp)), (119, (.bool true))]) ⟨look_b rfl rfl, look_row rfl 15 rfl s15, trivial⟩ ?_
           refine t_guard rfl rfl ?_
           refine tp rfl (lv_move rfl) ?_
           exact d_closes ⟨look_b rfl rfl, look_row rfl 15 rfl s15, trivial⟩ 16 rfl rfl rfl hS (AgreeR.refl _) (t_sat (fun _ h => h) (hK () trivial))
          · -- 17
           rintro _ S hF hS D hp K hK
           try dsimp only at hF ⊢
           have s15 := hp 15 rfl
           refine d_need (small := [(10, (.int .i64 ((t : Nat) : Int))), (119, (.bool true))]) ⟨look_b rfl rfl, look_row rfl 15 rfl s15, trivial⟩ ?_
           refine t_guard rfl rfl ?_
           refine tp rfl (lv_move rfl) ?_
           exact d_closes ⟨look_b rfl rfl, look_row rfl 15 rfl s15, trivial⟩ 17 rfl rfl rfl hS (AgreeR.refl _) (t_sat (fun _ h => h) (hK () trivial))
          · -- 18
           rintro _ S hF hS D hp K hK
           try dsimp only at hF ⊢
           have s15 := hp 15 rfl
           have s16 := hp 16 rfl
           have s17 := hp 17 rfl
           refine d_need (small := [(119, (.bool true)), (120, (.slice bp n2 cp)), (121, (.int .i64 ((t : Nat) : Int)))]) ⟨look_row rfl 15 rfl s15, look_row rfl 16 rfl s16, look_row rfl 17 rfl s17, trivial⟩ ?_
           refine t_guard rfl rfl ?_
           refine tp rfl (lv_indexAddr (k' := t) Tryd.underlying22 Tryd.sizeOf3 rfl rfl (fun hz => okp (by omega)) (by omega) (by omega) (by omega)) ?_
           exact d_closes ⟨look_row rfl 15 rfl s15, look_row rfl 16 rfl s16, look_row rfl 17 rfl s17, trivial⟩ 18 rfl rfl rfl hS (AgreeR.refl _) (t_sat (fun _ h => h) (hK () trivial))
          · -- 19
           rintro _ S hF hS D hp K hK
           try dsimp only at hF ⊢
           have s15 := hp 15 rfl
           have s18 := hp 18 rfl
           refine d_need (small := [(119, (.bool true)), (122, (.pointer (some (ad bp t))))]) ⟨look_row rfl 15 rfl s15, look_row rfl 18 rfl s18, trivial⟩ ?_
           refine t_guard rfl rfl ?_
           refine tp rfl (lv_load Tryd.isAgg3 rfl (Rd.gives (Rd.cons (Rd.cons rdp)) (ints_get (by first | omega | (simp; omega))))) ?_
           exact d_closes ⟨look_row rfl 15 rfl s15, look_row rfl 18 rfl s18, trivial⟩ 19 rfl rfl rfl hS (AgreeR.refl _) (t_sat (fun _ h => h) (hK () trivial))
          · -- 20
           rintro _ S hF hS D hp K hK
           try dsimp only at hF ⊢
           have s15 := hp 15 rfl
           refine d_need (small := [(6, (.int .i64 p0)), (119, (.bool true))]) ⟨look_b rfl rfl, look_row rfl 15 rfl s15, trivial⟩ ?_
           refine t_guard rfl rfl ?_
           refine tp rfl (lv_move rfl) ?_
           exact d_closes ⟨look_b rfl rfl, look_row rfl 15 rfl s15, trivial⟩ 20 rfl rfl rfl hS (AgreeR.refl _) (t_sat (fun _ h => h) (hK () trivial))
          · -- 21
           rintro _ S hF hS D hp K hK
           try dsimp only at hF ⊢
           have s15 := hp 15 rfl
           have s19 := hp 19 rfl
           have s20 := hp 20 rfl
           refine d_need (small := [(119, (.bool true)), (123, (.int .i64 ((vs).getD t 0))), (124, (.int .i64 p0))]) ⟨look_row rfl 15 rfl s15, look_row rfl 19 rfl s19, look_row rfl 20 rfl s20, trivial⟩ ?_
           refine t_guard rfl rfl ?_
           refine tp rfl (lv_gtr rfl rfl (decide_eq_false (by have := hB.top t (by omega) ⟨hst, of_decide_eq_true ‹_›⟩; omega))) ?_
           exact d_closes ⟨look_row rfl 15 rfl s15, look_row rfl 19 rfl s19, look_row rfl 20 rfl s20, trivial⟩ 21 rfl rfl rfl hS (AgreeR.refl _) (t_sat (fun _ h => h) (hK () trivial))
          · -- 22
           rintro _ S hF hS D hp K hK
           try dsimp only at hF ⊢
           have s13 := hp 13 rfl
           have s15 := hp 15 rfl
           have s21 := hp 21 rfl
           refine d_need (small := [(117, (.bool false)), (119, (.bool true)), (125, (.bool false))]) ⟨look_row rfl 13 rfl s13, look_row rfl 15 rfl s15, look_row rfl 21 rfl s21, trivial⟩ ?_
           refine t_guard rfl rfl ?_
           refine tp rfl (lv_pick_t rfl rfl) ?_
           exact d_closes ⟨look_row rfl 13 rfl s13, look_row rfl 15 rfl s15, look_row rfl 21 rfl s21, trivial⟩ 22 rfl rfl rfl hS (AgreeR.refl _) (t_sat (fun _ h => h) (hK () trivial))
          · -- 23
           rintro _ S hF hS D hp K hK
           try dsimp only at hF ⊢
           have s13 := hp 13 rfl
           have s22 := hp 22 rfl
           refine d_need (small := [(117, (.bool false)), (126, (.bool false))]) ⟨look_row rfl 13 rfl s13, look_row rfl 22 rfl s22, trivial⟩ ?_
           refine tp rfl (lv_pick_f rfl rfl) ?_
           exact d_closes ⟨look_row rfl 13 rfl s13, look_row rfl 22 rfl s22, trivial⟩ 23 rfl rfl rfl hS (AgreeR.refl _) (t_sat (fun _ h => h) (hK () trivial))
         · -- behind
          rintro _ hF
          try dsimp only at hF ⊢
          refine t_weak (E' := [(0, (.slice ba n1 ca)), (1, (.slice bp n2 cp)), (5, (.bool true)), (6, (.int .i64 p0)), (7, (.slice bs1 L.length cp2)), (8, (.pointer (some ⟨b5, 0, none⟩))), (9, (.int .i64 ((i : Nat) : Int))), (10, (.int .i64 ((t : Nat) : Int))), (11, (.bool true)), (33, (.bool false)), (89, (.bool true)), (127, (.bool false))]) ⟨rfl, rfl, rfl, rfl, rfl, rfl, rfl, rfl, rfl, rfl, rfl, rfl, trivial⟩ ?_
          refine q_then_n (hK19 _ _ ?_)
          refine c_false rfl ?_
          refine c_skip ?_
          refine q_in_n ?_
          refine q_then_n (hK17 _ _ ?_)
          refine c_region ?_
          refine tp rfl (lv_move rfl) ?_
          refine tp rfl (lv_add (c := ((t + 1 : Nat) : Int)) rfl rfl (wr_i64_succ (by omega))) ?_
          refine tp rfl (lv_assign rfl) ?_
          refine t_done ?_
          refine q_then_n ?_
          exact t_weak (by exact ⟨rfl, rfl, rfl, rfl, rfl, rfl, rfl, rfl, rfl, trivial⟩) ((hK14 (t + 1) (by omega) (by omega)))
      · -- no
        refine tp rfl (lv_eql rfl rfl (beq_eq_false_iff_ne.2 hst)) ?_
        refine tp rfl (lv_move rfl) ?_
        refine t_skip rfl rfl rfl ?_
        refine t_skip rfl rfl rfl ?_
        refine t_skip rfl rfl rfl ?_
        refine t_skip rfl rfl rfl ?_
        refine t_skip rfl rfl rfl ?_
        refine tp rfl (lv_pick_f rfl rfl) ?_
        refine tp rfl (lv_assign rfl) ?_
        refine t_done ?_
        refine q_then_n (hK18 _ _ ?_)
        refine c_seq (fun K19 hK19 => ?_)
        refine c_draw (γ := Unit) (n := 24) Tryd.mixed rfl rfl (fun _ S => True) (fun _ => [(0, 104, (.int .i64 ((t : Nat) : Int))), (1, 105, (.pointer (some ⟨b5, t, none⟩))), (2, 106, (.bool ((bs).getD t false))), (3, 107, (.bool false)), (4, 108, (.bool false)), (5, 109, undef), (6, 110, undef), (7, 111, undef), (8, 112, undef), (9, 113, undef), (10, 114, undef), (11, 115, (.bool false)), (12, 116, (.bool false)), (13, 117, (.bool false)), (14, 118, (.bool false)), (15, 119, (.bool false)), (16, 120, undef), (17, 121, undef), (18, 122, undef), (19, 123, undef), (20, 124, undef), (21, 125, undef), (22, 126, (.bool false)), (23, 127, (.bool false))]) (fun _ S => (Blk b5 (bools bs) 49) :: (SlV 3 1 (.slice bs1 L.length cp2) L.length (ints .i64 L)) :: R) (()) trivial (fun _ h => h) (fun _ _ h => h) ?_ ?_
        · -- steps
         refine ⟨?_, ?_, ?_, ?_, ?_, ?_, ?_, ?_, ?_, ?_, ?_, ?_, ?_, ?_, ?_, ?_, ?_, ?_, ?_, ?_, ?_, ?_, ?_, ?_, trivial⟩
         · -- 0
          rintro _ S hF hS D hp K hK
          try dsimp only at hF ⊢
          refine d_need (small := [(10, (.int .i64 ((t : Nat) : Int)))]) ⟨look_b rfl rfl, trivial⟩ ?_
          refine tp rfl (lv_move rfl) ?_
          exact d_closes ⟨look_b rfl rfl, trivial⟩ 0 rfl rfl rfl hS (AgreeR.refl _) (t_sat (fun _ h => h) (hK () trivial))
         · -- 1
          rintro _ S hF hS D hp K hK
          try dsimp only at hF ⊢
          have s0 := hp 0 rfl
          refine d_need (small := [(8, (.pointer (some ⟨b5, 0, none⟩))), (104, (.int .i64 ((t : Nat) : Int)))]) ⟨look_b rfl rfl, look_row rfl 0 rfl s0, trivial⟩ ?_
          refine tp rfl (lv_indexArr (k' := t) Tryd.underlying49 Tryd.sizeOf4 rfl rfl (by omega) (by omega) (by omega)) ?_
          exact d_closes ⟨look_b rfl rfl, look_row rfl 0 rfl s0, trivial⟩ 1 rfl rfl rfl hS (AgreeR.refl _) (t_sat (fun _ h => h) (hK () trivial))
         · -- 2
          rintro _ S hF hS D hp K hK
          try dsimp only at hF ⊢
          have s1 := hp 1 rfl
          refine d_need (small := [(105, (.pointer (some ⟨b5, t, none⟩)))]) ⟨look_row rfl 1 rfl s1, trivial⟩ ?_
          refine tp rfl (lv_load Tryd.isAgg4 rfl (gives_blk (.head _) (bools_get (by first | omega | (simp; omega))))) ?_
          exact d_closes ⟨look_row rfl 1 rfl s1, trivial⟩ 2 rfl rfl rfl hS (AgreeR.refl _) (t_sat (fun _ h => h) (hK () trivial))
         · -- 3
          rintro _ S hF hS D hp K hK
          try dsimp only at hF ⊢
          refine d_need (small := [(11, (.bool false))]) ⟨look_b rfl rfl, trivial⟩ ?_
          refine tp rfl (lv_move rfl) ?_
          exact d_closes ⟨look_b rfl rfl, trivial⟩ 3 rfl rfl rfl hS (AgreeR.refl _) (t_sat (fun _ h => h) (hK () trivial))
         · -- 4
          rintro _ S hF hS D hp K hK
          try dsimp only at hF ⊢
          have s3 := hp 3 rfl
          refine d_need (small := [(107, (.bool false))]) ⟨look_row rfl 3 rfl s3, trivial⟩ ?_
          refine tp rfl (lv_move rfl) ?_
          exact d_closes ⟨look_row rfl 3 rfl s3, trivial⟩ 4 rfl rfl rfl hS (AgreeR.refl _) (t_sat (fun _ h => h) (hK () trivial))
         · -- 5
          rintro _ S hF hS D hp K hK
          try dsimp only at hF ⊢
          have s4 := hp 4 rfl
          refine d_need (small := [(1, (.slice bp n2 cp)), (108, (.bool false))]) ⟨look_b rfl rfl, look_row rfl 4 rfl s4, trivial⟩ ?_
          refine t_skip rfl rfl rfl ?_
          exact d_closes ⟨look_b rfl rfl, look_row rfl 4 rfl s4, trivial⟩ 5 rfl rfl rfl hS (AgreeR.refl _) (t_sat (fun _ h => h) (hK () trivial))
         · -- 6
          rintro _ S hF hS D hp K hK
          try dsimp only at hF ⊢
          have s4 := hp 4 rfl
          refine d_need (small := [(10, (.int .i64 ((t : Nat) : Int))), (108, (.bool false))]) ⟨look_b rfl rfl, look_row rfl 4 rfl s4, trivial⟩ ?_
          refine t_skip rfl rfl rfl ?_
          exact d_closes ⟨look_b rfl rfl, look_row rfl 4 rfl s4, trivial⟩ 6 rfl rfl rfl hS (AgreeR.refl _) (t_sat (fun _ h => h) (hK () trivial))
         · -- 7
          rintro _ S hF hS D hp K hK
          try dsimp only at hF ⊢
          have s4 := hp 4 rfl
          have s5 := hp 5 rfl
          have s6 := hp 6 rfl
          refine d_need (small := [(108, (.bool false)), (109, undef), (110, undef)]) ⟨look_row rfl 4 rfl s4, look_row rfl 5 rfl s5, look_row rfl 6 rfl s6, trivial⟩ ?_
          refine t_skip rfl rfl rfl ?_
          exact d_closes ⟨look_row rfl 4 rfl s4, look_row rfl 5 rfl s5, look_row rfl 6 rfl s6, trivial⟩ 7 rfl rfl rfl hS (AgreeR.refl _) (t_sat (fun _ h => h) (hK () trivial))
         · -- 8
          rintro _ S hF hS D hp K hK
          try dsimp only at hF ⊢
          have s4 := hp 4 rfl
          have s7 := hp 7 rfl
          refine d_need (small := [(108, (.bool false)), (111, undef)]) ⟨look_row rfl 4 rfl s4, look_row rfl 7 rfl s7, trivial⟩ ?_
          refine t_skip rfl rfl rfl ?_
          exact d_closes ⟨look_row rfl 4 rfl s4, look_row rfl 7 rfl s7, trivial⟩ 8 rfl rfl rfl hS (AgreeR.refl _) (t_sat (fun _ h => h) (hK () trivial))
         · -- 9
          rintro _ S hF hS D hp K hK
          try dsimp only at hF ⊢
          have s4 := hp 4 rfl
          refine d_need (small := [(6, (.int .i64 p0)), (108, (.bool false))]) ⟨look_b rfl rfl, look_row rfl 4 rfl s4, trivial⟩ ?_
          refine t_skip rfl rfl rfl ?_
          exact d_closes ⟨look_b rfl rfl, look_row rfl 4 rfl s4, trivial⟩ 9 rfl rfl rfl hS (AgreeR.refl _) (t_sat (fun _ h => h) (hK () trivial))
         · -- 10
          rintro _ S hF hS D hp K hK
          try dsimp only at hF ⊢
          have s4 := hp 4 rfl
          have s8 := hp 8 rfl
          have s9 := hp 9 rfl
          refine d_need (small := [(108, (.bool false)), (112, undef), (113, undef)]) ⟨look_row rfl 4 rfl s4, look_row rfl 8 rfl s8, look_row rfl 9 rfl s9, trivial⟩ ?_
          refine t_skip rfl rfl rfl ?_
          exact d_closes ⟨look_row rfl 4 rfl s4, look_row rfl 8 rfl s8, look_row rfl 9 rfl s9, trivial⟩ 10 rfl rfl rfl hS (AgreeR.refl _) (t_sat (fun _ h => h) (hK () trivial))
         · -- 11
          rintro _ S hF hS D hp K hK
          try dsimp only at hF ⊢
          have s4 := hp 4 rfl
          have s10 := hp 10 rfl
          refine d_need (small := [(108, (.bool false)), (114, undef)]) ⟨look_row rfl 4 rfl s4, look_row rfl 10 rfl s10, trivial⟩ ?_
          refine tp rfl (lv_pick_f rfl rfl) ?_
          exact d_closes ⟨look_row rfl 4 rfl s4, look_row rfl 10 rfl s10, trivial⟩ 11 rfl rfl rfl hS (AgreeR.refl _) (t_sat (fun _ h => h) (hK () trivial))
         · -- 12
          rintro _ S hF hS D hp K hK
          try dsimp only at hF ⊢
          have s2 := hp 2 rfl
          have s11 := hp 11 rfl
          refine d_need (small := [(106, (.bool ((bs).getD t false))), (115, (.bool false))]) ⟨look_row rfl 2 rfl s2, look_row rfl 11 rfl s11, trivial⟩ ?_
          refine tp rfl (lv_neb Tryd.underlying4 rfl rfl (by first | exact mk_yes hmk (by omega) (by omega) hB (by omega) (by omega) hst ‹_› | exact mk_no hmk (by omega) (by omega) hB (by omega) (by omega) (fun hh => hst hh.1) | exact mk_no hmk (by omega) (by omega) hB (by omega) (by omega) (fun hh => Bool.noConfusion ((decide_eq_true hh.2).symm.trans ‹decide (vs.getD t 0 ≥ 0) = false›)))) ?_
          exact d_closes ⟨look_row rfl 2 rfl s2, look_row rfl 11 rfl s11, trivial⟩ 12 rfl rfl rfl hS (AgreeR.refl _) (t_sat (fun _ h => h) (hK () trivial))
         · -- 13
          rintro _ S hF hS D hp K hK
          try dsimp only at hF ⊢
          have s12 := hp 12 rfl
          refine d_need (small := [(116, (.bool false))]) ⟨look_row rfl 12 rfl s12, trivial⟩ ?_
          refine tp rfl (lv_move rfl) ?_
          exact d_closes ⟨look_row rfl 12 rfl s12, trivial⟩ 13 rfl rfl rfl hS (AgreeR.refl _) (t_sat (fun _ h => h) (hK () trivial))
         · -- 14
          rintro _ S hF hS D hp K hK
          try dsimp only at hF ⊢
          have s13 := hp 13 rfl
          refine d_need (small := [(11, (.bool false)), (117, (.bool false))]) ⟨look_b rfl rfl, look_row rfl 13 rfl s13, trivial⟩ ?_
          refine t_guard rfl rfl ?_
          refine tp rfl (lv_move rfl) ?_
          exact d_closes ⟨look_b rfl rfl, look_row rfl 13 rfl s13, trivial⟩ 14 rfl rfl rfl hS (AgreeR.refl _) (t_sat (fun _ h => h) (hK () trivial))
         · -- 15
          rintro _ S hF hS D hp K hK
          try dsimp only at hF ⊢
          have s13 := hp 13 rfl
          have s14 := hp 14 rfl
          refine d_need (small := [(117, (.bool false)), (118, (.bool false))]) ⟨look_row rfl 13 rfl s13, look_row rfl 14 rfl s14, trivial⟩ ?_
          refine t_guard rfl rfl ?_
          refine tp rfl (lv_move rfl) ?_
          exact d_closes ⟨look_row rfl 13 rfl s13, look_row rfl 14 rfl s14, trivial⟩ 15 rfl rfl rfl hS (AgreeR.refl _) (t_sat (fun _ h => h) (hK () trivial))
         · -- 16
          rintro _ S hF hS D hp K hK
          try dsimp only at hF ⊢
          have s15 := hp 15 rfl
          refine d_need (small := [(1, (.slice bp n2 cp)), (119, (.bool false))]) ⟨look_b rfl rfl, look_row rfl 15 rfl s15, trivial⟩ ?_
          refine t_skip rfl rfl rfl ?_
          exact d_closes ⟨look_b rfl rfl, look_row rfl 15 rfl s15, trivial⟩ 16 rfl rfl rfl hS (AgreeR.refl _) (t_sat (fun _ h => h) (hK () trivial))
         · -- 17
          rintro _ S hF hS D hp K hK
          try dsimp only at hF ⊢
          have s15 := hp 15 rfl
          refine d_need (small := [(10, (.int .i64 ((t : Nat) : Int))), (119, (.bool false))]) ⟨look_b rfl rfl, look_row rfl 15 rfl s15, trivial⟩ ?_
          refine t_skip rfl rfl rfl ?_
          exact d_closes ⟨look_b rfl rfl, look_row rfl 15 rfl s15, trivial⟩ 17 rfl rfl rfl hS (AgreeR.refl _) (t_sat (fun _ h => h) (hK () trivial))
         · -- 18
          rintro _ S hF hS D hp K hK
          try dsimp only at hF ⊢
          have s15 := hp 15 rfl
          have s16 := hp 16 rfl
          have s17 := hp 17 rfl
          refine d_need (small := [(119, (.bool false)), (120, undef), (121, undef)]) ⟨look_row rfl 15 rfl s15, look_row rfl 16 rfl s16, look_row rfl 17 rfl s17, trivial⟩ ?_
          refine t_skip rfl rfl rfl ?_
          exact d_closes ⟨look_row rfl 15 rfl s15, look_row rfl 16 rfl s16, look_row rfl 17 rfl s17, trivial⟩ 18 rfl rfl rfl hS (AgreeR.refl _) (t_sat (fun _ h => h) (hK () trivial))
         · -- 19
          rintro _ S hF hS D hp K hK
          try dsimp only at hF ⊢
          have s15 := hp 15 rfl
          have s18 := hp 18 rfl
          refine d_need (small := [(119, (.bool false)), (122, undef)]) ⟨look_row rfl 15 rfl s15, look_row rfl 18 rfl s18, trivial⟩ ?_
          refine t_skip rfl rfl rfl ?_
          exact d_closes ⟨look_row rfl 15 rfl s15, look_row rfl 18 rfl s18, trivial⟩ 19 rfl rfl rfl hS (AgreeR.refl _) (t_sat (fun _ h => h) (hK () trivial))
         · -- 20
          rintro _ S hF hS D hp K hK
          try dsimp only at hF ⊢
          have s15 := hp 15 rfl
          refine d_need (small := [(6, (.int .i64 p0)), (119, (.bool false))]) ⟨look_b rfl rfl, look_row rfl 15 rfl s15, trivial⟩ ?_
          refine t_skip rfl rfl rfl ?_
          exact d_closes ⟨look_b rfl rfl, look_row rfl 15 rfl s15, trivial⟩ 20 rfl rfl rfl hS (AgreeR.refl _) (t_sat (fun _ h => h) (hK () trivial))
         · -- 21
          rintro _ S hF hS D hp K hK
          try dsimp only at hF ⊢
          have s15 := hp 15 rfl
          have s19 := hp 19 rfl
          have s20 := hp 20 rfl
          refine d_need (small := [(119, (.bool false)), (123, undef), (124, undef)]) ⟨look_row rfl 15 rfl s15, look_row rfl 19 rfl s19, look_row rfl 20 rfl s20, trivial⟩ ?_
          refine t_skip rfl rfl rfl ?_
          exact d_closes ⟨look_row rfl 15 rfl s15, look_row rfl 19 rfl s19, look_row rfl 20 rfl s20, trivial⟩ 21 rfl rfl rfl hS (AgreeR.refl _) (t_sat (fun _ h => h) (hK () trivial))
         · -- 22
          rintro _ S hF hS D hp K hK
          try dsimp only at hF ⊢
          have s13 := hp 13 rfl
          have s15 := hp 15 rfl
          have s21 := hp 21 rfl
          refine d_need (small := [(117, (.bool false)), (119, (.bool false)), (125, undef)]) ⟨look_row rfl 13 rfl s13, look_row rfl 15 rfl s15, look_row rfl 21 rfl s21, trivial⟩ ?_
          refine t_guard rfl rfl ?_
          refine tp rfl (lv_pick_f rfl rfl) ?_
          exact d_closes ⟨look_row rfl 13 rfl s13, look_row rfl 15 rfl s15, look_row rfl 21 rfl s21, trivial⟩ 22 rfl rfl rfl hS (AgreeR.refl _) (t_sat (fun _ h => h) (hK () trivial))
         · -- 23
          rintro _ S hF hS D hp K hK
          try dsimp only at hF ⊢
          have s13 := hp 13 rfl
          have s22 := hp 22 rfl
          refine d_need (small := [(117, (.bool false)), (126, (.bool false))]) ⟨look_row rfl 13 rfl s13, look_row rfl 22 rfl s22, trivial⟩ ?_
          refine tp rfl (lv_pick_f rfl rfl) ?_
          exact d_closes ⟨look_row rfl 13 rfl s13, look_row rfl 22 rfl s22, trivial⟩ 23 rfl rfl rfl hS (AgreeR.refl _) (t_sat (fun _ h => h) (hK () trivial))
        · -- behind
         rintro _ hF
         try dsimp only at hF ⊢
         refine t_weak (E' := [(0, (.slice ba n1 ca)), (1, (.slice bp n2 cp)), (5, (.bool true)), (6, (.int .i64 p0)), (7, (.slice bs1 L.length cp2)), (8, (.pointer (some ⟨b5, 0, none⟩))), (9, (.int .i64 ((i : Nat) : Int))), (10, (.int .i64 ((t : Nat) : Int))), (11, (.bool false)), (33, (.bool false)), (89, (.bool true)), (127, (.bool false))]) ⟨rfl, rfl, rfl, rfl, rfl, rfl, rfl, rfl, rfl, rfl, rfl, rfl, trivial⟩ ?_
         refine q_then_n (hK19 _ _ ?_)
         refine c_false rfl ?_
         refine c_skip ?_
         refine q_in_n ?_
         refine q_then_n (hK17 _ _ ?_)
         refine c_region ?_
         refine tp rfl (lv_move rfl) ?_
         refine tp rfl (lv_add (c := ((t + 1 : Nat) : Int)) rfl rfl (wr_i64_succ (by omega))) ?_
         refine tp rfl (lv_assign rfl) ?_
         refine t_done ?_
         refine q_then_n ?_
         exact t_weak (by exact ⟨rfl, rfl, rfl, rfl, rfl, rfl, rfl, rfl, rfl, trivial⟩) ((hK14 (t + 1) (by omega) (by omega)))
    · -- not both
      refine t_cut0 (E' := [(0, (.slice ba n1 ca)), (1, (.slice bp n2 cp)), (5, (.bool true)), (6, (.int .i64 p0)), (7, (.slice bs1 L.length cp2)), (8, (.pointer (some ⟨b5, 0, none⟩))), (9, (.int .i64 ((i : Nat) : Int))), (10, (.int .i64 ((t : Nat) : Int))), (33, (.bool false)), (89, (.bool false))]) ?_ (fun KK hKK => ?_)
      ·
        refine q_then_n (hK16 _ _ ?_)
        refine c_false rfl ?_
        refine c_exit ?_
        refine q_then_x ?_
        refine q_then_x ?_
        refine q_in_x ?_
        refine q_then_n (hK12 _ _ ?_)
        refine c_seq (fun K17 hK17 => ?_)
        refine c_region ?_
        refine tp rfl (lv_move rfl) ?_
        refine tp rfl (lv_move rfl) ?_
        refine t_guard rfl rfl ?_
        refine tp rfl (lv_move rfl) ?_
        refine t_guard rfl rfl ?_
        refine tp rfl (lv_len Tryd.underlying22 rfl rfl) ?_
        refine t_guard rfl rfl ?_
        refine tp rfl (lv_gtr rfl rfl rfl) ?_
        refine t_guard rfl rfl ?_
        refine tp rfl (lv_move rfl) ?_
        refine t_guard rfl rfl ?_
        refine tp rfl (lv_geq rfl rfl rfl) ?_
        refine t_guard rfl rfl ?_
        refine tp rfl (lv_eqb Tryd.underlying4 rfl rfl (best_end hB)) ?_
        refine tp rfl (lv_pick_t rfl rfl) ?_
        refine tp rfl (lv_move rfl) ?_
        refine t_guard rfl rfl ?_
        refine tp rfl (lv_move rfl) ?_
        refine t_guard rfl rfl ?_
        refine tp rfl (lv_geq rfl rfl (decide_eq_true hB.ge)) ?_
        refine tp rfl (lv_pick_t rfl rfl) ?_
        refine tp rfl (lv_assign rfl) ?_
        refine t_done ?_
        refine q_then_n (hK17 _ _ ?_)
        refine c_ret ?_
        refine t_drop ?_
        refine t_drop ?_
        refine q_ret rfl rfl ?_
        exact ⟨rfl, rfl⟩
      · -- which
        by_cases hc8A : ((t : Nat) : Int) < ((n1 : Nat) : Int)
        ·
         have hc8B : ¬ (((t : Nat) : Int) < ((n2 : Nat) : Int)) := fun hh => hc8 ⟨hc8A, hh⟩
         refine tp rfl (lv_move rfl) ?_
         refine tp rfl (lv_move rfl) ?_
         refine tp rfl (lv_len Tryd.underlying22 rfl rfl) ?_
         refine tp rfl (lv_lss rfl rfl (decide_eq_true hc8A)) ?_
         refine tp rfl (lv_move rfl) ?_
         refine t_guard rfl rfl ?_
         refine tp rfl (lv_move rfl) ?_
         refine t_guard rfl rfl ?_
         refine tp rfl (lv_move rfl) ?_
         refine t_guard rfl rfl ?_
         refine tp rfl (lv_len Tryd.underlying22 rfl rfl) ?_
         refine t_guard rfl rfl ?_
         refine tp rfl (lv_lss rfl rfl (decide_eq_false hc8B)) ?_
         refine tp rfl (lv_pick_t rfl rfl) ?_
         exact t_done (t_weak (by exact ⟨rfl, rfl, rfl, rfl, rfl, rfl, rfl, rfl, rfl, rfl, trivial⟩) hKK)
        ·
         refine tp rfl (lv_move rfl) ?_
         refine tp rfl (lv_move rfl) ?_
         refine tp rfl (lv_len Tryd.underlying22 rfl rfl) ?_
         refine tp rfl (lv_lss rfl rfl (decide_eq_false hc8A)) ?_
         refine tp rfl (lv_move rfl) ?_
         refine t_skip rfl rfl rfl ?_
         refine t_skip rfl rfl rfl ?_
         refine t_skip rfl rfl rfl ?_
         refine t_skip rfl rfl rfl ?_
         refine tp rfl (lv_pick_f rfl rfl) ?_
         exact t_done (t_weak (by exact ⟨rfl, rfl, rfl, rfl, rfl, rfl, rfl, rfl, rfl, rfl, trivial⟩) hKK)
end Go.Proofs.YtfoiopbjomaclaaDoor
