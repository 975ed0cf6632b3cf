/- TimerNext: the law's walk. -/
import Derived.Test.YtombnfgkgcjihaaLa
set_option maxRecDepth 100000
set_option linter.unusedVariables false
set_option linter.unusedSimpArgs false
namespace Go.Proofs.Ytombnfgkgcjihaa
open Go Go.Proofs Sp
set_option maxHeartbeats 2000000 in
theorem next_law {R : List HP} (n : Int) {bsb : Option Addr} {csb : Nat} (xs : List R3) (hsb : Rd R bsb (recs triF xs)) (oksb : SlOk bsb xs.length) (lsb : xs.length ≤ 9223372036854775807) (gdsb : ∀ z ∈ xs, GoodI z.x ∧ GoodI z.y ∧ GoodI z.z) :
    Ok Try.prog 4 [(.int .i64 n), (.slice bsb xs.length csb)] R
      (fun v M => v = .bool true ∧ M = R) := by
  obtain ⟨m, hm⟩ : ∃ m : Nat, n % 65536 % 50 = (m : Int) := ⟨(n % 65536 % 50).toNat, by omega⟩
  have hm2 : m < 50 := by omega
  have hcm : hclamp ((m : Nat) : Int) = m := by unfold hclamp; omega
  refine ok_of (N := 97) Try.func4 rfl rfl rfl (fun W => ?_)
  refine c_seq (fun K1 hK1 => ?_)
  refine c_region ?_
  refine tp rfl (lv_assign rfl) ?_
  refine t_done ?_
  refine q_then_n (hK1 _ _ ?_)
  refine c_seq (fun K2 hK2 => ?_)
  refine c_region ?_
  refine tc rfl (en_fn Try.call10 rfl) (shown_ok) ?_
  rintro _ _ ⟨rfl, hMR⟩
  rw [hMR]; clear hMR
  refine tp rfl (lv_assign rfl) ?_
  refine t_done ?_
  refine q_then_n (hK2 _ _ ?_)
  refine c_seq (fun K3 hK3 => ?_)
  refine c_region ?_
  refine tp rfl (lv_move rfl) ?_
  refine tp rfl (lv_and (c := n % 65536) rfl rfl (and_pow 16 (by decide) n)) ?_
  refine tp rfl (lv_rem (c := ((m : Nat) : Int)) rfl rfl (by omega) ((Int.tmod_eq_emod_of_nonneg (by omega)).trans hm)) ?_
  refine tp rfl (lv_assign rfl) ?_
  refine t_done ?_
  refine q_then_n (hK3 _ _ ?_)
  refine c_seq (fun K4 hK4 => ?_)
  refine c_region ?_
  refine tp rfl (lv_move rfl) ?_
  refine tc rfl (en_fn Try.call11 rfl) (tnew_ok ((m : Nat) : Int)) ?_
  rintro _ _ ⟨p1, q2, rfl, rfl⟩
  rw [show hclamp ((m : Nat) : Int) = m from hcm]
  refine tp rfl (lv_assign rfl) ?_
  refine t_done ?_
  refine q_then_n (hK4 _ _ ?_)
  refine c_seq (fun K5 hK5 => ?_)
  refine c_seq (fun K6 hK6 => ?_)
  refine c_region ?_
  refine tp rfl (lv_move rfl) ?_
  refine tp rfl (lv_eqnil Try.underlying25 rfl rfl) ?_
  refine t_done ?_
  refine q_then_n (hK6 _ _ ?_)
  refine c_false rfl ?_
  refine c_skip ?_
  refine q_then_n (hK5 _ _ ?_)
  refine c_seq (fun K7 hK7 => ?_)
  refine c_seq (fun K8 hK8 => ?_)
  refine c_region ?_
  refine tp rfl (lv_assign rfl) ?_
  refine t_done ?_
  refine q_then_n (hK8 _ _ ?_)
  refine c_block ?_
  refine c_loop (γ := (Nat) × (Ks)) (fun (i, ks) => i ≤ xs.length ∧ i ≤ 100 ∧ ks.length = m ∧ AllK (-4611686018427387904) 4611686018427387904 ks) (fun (i, ks) => [(0, (.int .i64 ((m : Nat) : Int))), (1, (.slice bsb xs.length csb)), (4, (.bool false)), (5, (.bool true)), (6, (.pointer (some ⟨p1, 0, none⟩))), (7, (.int .i64 ((i : Nat) : Int))), (18, (.bool false))]) (fun (i, ks) => (Blk p1 [(.pointer (some ⟨q2, 0, none⟩))] 37) :: (HeapO q2 m ks) :: R) (fun (i, ks) => xs.length - i) (0, List.replicate (m) none) ⟨by omega, by omega, List.length_replicate, AllK.rep _ _ _⟩ ⟨rfl, rfl, rfl, rfl, rfl, rfl, rfl, trivial⟩ (fun _ h => h) ?_
  rintro ⟨i, ks⟩ K9 hF hK9
  try dsimp only at hF hK9 ⊢
  obtain ⟨hi, hi2, hkl, hak⟩ := hF
  refine c_seq (fun K10 hK10 => ?_)
  refine c_seq (fun K11 hK11 => ?_)
  refine c_region ?_
  by_cases hc3 : ((i : Nat) : Int) < ((xs.length : Nat) : Int) ∧ ((i : Nat) : Int) < 100
  · -- both
    have hc3a := hc3.1
    have hc3b := hc3.2
    refine tp rfl (lv_move rfl) ?_
    refine tp rfl (lv_move rfl) ?_
    refine tp rfl (lv_len Try.underlying39 rfl rfl) ?_
    refine tp rfl (lv_lss rfl rfl (decide_eq_true hc3.1)) ?_
    refine tp rfl (lv_move rfl) ?_
    refine t_guard rfl rfl ?_
    refine tp rfl (lv_move rfl) ?_
    refine t_guard rfl rfl ?_
    refine tp rfl (lv_lss rfl rfl (decide_eq_true hc3.2)) ?_
    refine tp rfl (lv_pick_t rfl rfl) ?_
    refine t_done ?_
    refine q_then_n (hK11 _ _ ?_)
    refine c_true rfl ?_
    refine c_skip ?_
    refine q_then_n (hK10 _ _ ?_)
    refine c_seq (fun K12 hK12 => ?_)
    refine c_block ?_
    refine c_seq (fun K13 hK13 => ?_)
    refine c_region ?_
    have hshr : -4611686018427387904 ≤ bShr .i64 (xs.getD i R3.d).z 1 ∧ bShr .i64 (xs.getD i R3.d).z 1 ≤ 4611686018427387904 := by have h9 := (gdsb (xs.getD i R3.d) (by simp [List.getD, show i < xs.length by omega])).2.2; unfold GoodI at h9; rw [shr_one]; omega
    refine tp rfl (lv_move rfl) ?_
    refine tp rfl (lv_move rfl) ?_
    refine tp rfl (lv_indexAddr (k' := i * 3) Try.underlying39 Try.sizeOf41 rfl rfl oksb (by omega) (by omega) (by omega)) ?_
    refine tp rfl (lv_fieldAddr_ad (o' := i * 3) Try.underlying41 rfl Try.sizeOf3 rfl rfl) ?_
    refine tp rfl (lv_load Try.isAgg3 rfl (Rd.gives (Rd.cons (Rd.cons hsb)) ((recs_get (k := i) (j := 0) triF_len (d := R3.d) (by omega) (Nat.le_of_ble_eq_true rfl)).trans rfl))) ?_
    by_cases h4 : ((xs.getD i R3.d).x) = 3
    · -- yes
      refine tp rfl (lv_eql rfl rfl (beq_iff_eq.2 h4)) ?_
      refine t_done ?_
      refine q_then_n (hK13 _ _ ?_)
      refine c_true rfl ?_
      refine c_region ?_
      refine tp rfl (lv_move rfl) ?_
      refine tp rfl (lv_move rfl) ?_
      refine tp rfl (lv_move rfl) ?_
      refine tp rfl (lv_indexAddr (k' := i * 3) Try.underlying39 Try.sizeOf41 rfl rfl oksb (by omega) (by omega) (by omega)) ?_
      refine tp rfl (lv_fieldAddr_ad (o' := i * 3 + 1) Try.underlying41 rfl Try.sizeOf3 rfl rfl) ?_
      refine tp rfl (lv_load Try.isAgg3 rfl (Rd.gives (Rd.cons (Rd.cons hsb)) ((recs_get (k := i) (j := 1) triF_len (d := R3.d) (by omega) (Nat.le_of_ble_eq_true rfl)).trans rfl))) ?_
      refine t_f1 ?_
      refine t_f1 ?_
      refine tc rfl (en_fn Try.call13 rfl) (tstop_ok (n := m) (ks := ks) ((xs.getD i R3.d).y)) ?_
      rintro _ _ ⟨rfl, rfl⟩
      refine t_done ?_
      refine q_in_n ?_
      refine q_then_n (hK12 _ _ ?_)
      refine c_region ?_
      refine tp rfl (lv_move rfl) ?_
      refine tp rfl (lv_add (c := ((i + 1 : Nat) : Int)) rfl rfl (wr_i64_succ (by omega))) ?_
      refine tp rfl (lv_assign rfl) ?_
      refine t_done ?_
      refine q_then_n ?_
      exact t_weak (by exact ⟨rfl, rfl, rfl, rfl, rfl, rfl, rfl, trivial⟩) ((hK9 (i + 1, remK ks ((xs.getD i R3.d).y)) ⟨by omega, by omega, by dsimp only; simp only [pushK_len, remK_len]; exact hkl, by dsimp only; first | exact hak.rem | exact hak.rem.push hshr.1 hshr.2⟩ (by dsimp only; omega)))
    · -- no
      refine tp rfl (lv_eql rfl rfl (beq_eq_false_iff_ne.2 h4)) ?_
      refine t_done ?_
      refine q_then_n (hK13 _ _ ?_)
      refine c_false rfl ?_
      refine c_draw (γ := Unit) (n := 13) Try.mixed rfl rfl (fun _ S => True) (fun _ => [(0, 42, (.pointer (some ⟨p1, 0, none⟩))), (1, 43, (.slice bsb xs.length csb)), (2, 44, (.int .i64 ((i : Nat) : Int))), (3, 45, (.pointer (some (ad bsb (i * 3))))), (4, 46, (.pointer (some (ad bsb (i * 3 + 1))))), (5, 47, (.int .i64 ((xs.getD i R3.d).y))), (6, 48, (.slice bsb xs.length csb)), (7, 49, (.int .i64 ((i : Nat) : Int))), (8, 50, (.pointer (some (ad bsb (i * 3))))), (9, 51, (.pointer (some (ad bsb (i * 3 + 2))))), (10, 52, (.int .i64 ((xs.getD i R3.d).z))), (11, 53, (.int .i64 (bShr .i64 ((xs.getD i R3.d).z) 1))), (12, 54, (.int .i64 (pushE (remK ks ((xs.getD i R3.d).y)) ((xs.getD i R3.d).y))))]) (fun _ S => (Blk p1 [(.pointer (some ⟨q2, 0, none⟩))] 37) :: (bif S 12 then (HeapO q2 m (pushK (remK ks ((xs.getD i R3.d).y)) ((xs.getD i R3.d).y) (bShr .i64 ((xs.getD i R3.d).z) 1))) else (HeapO q2 m ks)) :: R) (()) trivial (fun _ h => h) (fun _ _ h => h) ?_ ?_
      · -- steps
        refine ⟨?_, ?_, ?_, ?_, ?_, ?_, ?_, ?_, ?_, ?_, ?_, ?_, ?_, trivial⟩
        · -- 0
         rintro _ S hF hS D hp K hK
         try dsimp only at hF ⊢
         refine d_need (small := [(6, (.pointer (some ⟨p1, 0, none⟩)))]) ⟨look_b rfl rfl, trivial⟩ ?_
         refine tp rfl (lv_move rfl) ?_
         exact d_closes ⟨look_b rfl rfl, trivial⟩ 0 rfl rfl rfl hS (AgreeR.refl _) (t_sat (fun _ h => h) (hK () trivial))
        · -- 1
         rintro _ S hF hS D hp K hK
         try dsimp only at hF ⊢
         refine d_need (small := [(1, (.slice bsb xs.length csb))]) ⟨look_b rfl rfl, trivial⟩ ?_
         refine tp rfl (lv_move rfl) ?_
         exact d_closes ⟨look_b rfl rfl, trivial⟩ 1 rfl rfl rfl hS (AgreeR.refl _) (t_sat (fun _ h => h) (hK () trivial))
        · -- 2
         rintro _ S hF hS D hp K hK
         try dsimp only at hF ⊢
         refine d_need (small := [(7, (.int .i64 ((i : Nat) : Int)))]) ⟨look_b rfl rfl, trivial⟩ ?_
         refine tp rfl (lv_move rfl) ?_
         exact d_closes ⟨look_b rfl rfl, trivial⟩ 2 rfl rfl rfl hS (AgreeR.refl _) (t_sat (fun _ h => h) (hK () trivial))
        · -- 3
         rintro _ S hF hS D hp K hK
         try dsimp only at hF ⊢
         have s1 := hp 1 rfl
         have s2 := hp 2 rfl
         refine d_need (small := [(43, (.slice bsb xs.length csb)), (44, (.int .i64 ((i : Nat) : Int)))]) ⟨look_row rfl 1 rfl s1, look_row rfl 2 rfl s2, trivial⟩ ?_
         refine tp rfl (lv_indexAddr (k' := i * 3) Try.underlying39 Try.sizeOf41 rfl rfl oksb (by omega) (by omega) (by omega)) ?_
         exact d_closes ⟨look_row rfl 1 rfl s1, look_row rfl 2 rfl s2, trivial⟩ 3 rfl rfl rfl hS (AgreeR.refl _) (t_sat (fun _ h => h) (hK () trivial))
        · -- 4
         rintro _ S hF hS D hp K hK
         try dsimp only at hF ⊢
         have s3 := hp 3 rfl
         refine d_need (small := [(45, (.pointer (some (ad bsb (i * 3)))))]) ⟨look_row rfl 3 rfl s3, trivial⟩ ?_
         refine tp rfl (lv_fieldAddr_ad (o' := i * 3 + 1) Try.underlying41 rfl Try.sizeOf3 rfl rfl) ?_
         exact d_closes ⟨look_row rfl 3 rfl s3, trivial⟩ 4 rfl rfl rfl hS (AgreeR.refl _) (t_sat (fun _ h => h) (hK () trivial))
        · -- 5
         rintro _ S hF hS D hp K hK
         try dsimp only at hF ⊢
         have s4 := hp 4 rfl
         refine d_need (small := [(46, (.pointer (some (ad bsb (i * 3 + 1)))))]) ⟨look_row rfl 4 rfl s4, trivial⟩ ?_
         refine tp rfl (lv_load Try.isAgg3 rfl (Rd.gives (Rd.cons (Rd.cons hsb)) ((recs_get (k := i) (j := 1) triF_len (d := R3.d) (by omega) (Nat.le_of_ble_eq_true rfl)).trans rfl))) ?_
         exact d_closes ⟨look_row rfl 4 rfl s4, trivial⟩ 5 rfl rfl rfl hS (AgreeR.refl _) (t_sat (fun _ h => h) (hK () trivial))
        · -- 6
         rintro _ S hF hS D hp K hK
         try dsimp only at hF ⊢
         refine d_need (small := [(1, (.slice bsb xs.length csb))]) ⟨look_b rfl rfl, trivial⟩ ?_
         refine tp rfl (lv_move rfl) ?_
         exact d_closes ⟨look_b rfl rfl, trivial⟩ 6 rfl rfl rfl hS (AgreeR.refl _) (t_sat (fun _ h => h) (hK () trivial))
        · -- 7
         rintro _ S hF hS D hp K hK
         try dsimp only at hF ⊢
         refine d_need (small := [(7, (.int .i64 ((i : Nat) : Int)))]) ⟨look_b rfl rfl, trivial⟩ ?_
         refine tp rfl (lv_move rfl) ?_
         exact d_closes ⟨look_b rfl rfl, trivial⟩ 7 rfl rfl rfl hS (AgreeR.refl _) (t_sat (fun _ h => h) (hK () trivial))
        · -- 8
         rintro _ S hF hS D hp K hK
         try dsimp only at hF ⊢
         have s6 := hp 6 rfl
         have s7 := hp 7 rfl
         refine d_need (small := [(48, (.slice bsb xs.length csb)), (49, (.int .i64 ((i : Nat) : Int)))]) ⟨look_row rfl 6 rfl s6, look_row rfl 7 rfl s7, trivial⟩ ?_
         refine tp rfl (lv_indexAddr (k' := i * 3) Try.underlying39 Try.sizeOf41 rfl rfl oksb (by omega) (by omega) (by omega)) ?_
         exact d_closes ⟨look_row rfl 6 rfl s6, look_row rfl 7 rfl s7, trivial⟩ 8 rfl rfl rfl hS (AgreeR.refl _) (t_sat (fun _ h => h) (hK () trivial))
        · -- 9
         rintro _ S hF hS D hp K hK
         try dsimp only at hF ⊢
         have s8 := hp 8 rfl
         refine d_need (small := [(50, (.pointer (some (ad bsb (i * 3)))))]) ⟨look_row rfl 8 rfl s8, trivial⟩ ?_
         refine tp rfl (lv_fieldAddr_ad (o' := i * 3 + 2) Try.underlying41 rfl Try.sizeOf3 rfl rfl) ?_
         exact d_closes ⟨look_row rfl 8 rfl s8, trivial⟩ 9 rfl rfl rfl hS (AgreeR.refl _) (t_sat (fun _ h => h) (hK () trivial))
        · -- 10
         rintro _ S hF hS D hp K hK
         try dsimp only at hF ⊢
         have s9 := hp 9 rfl
         refine d_need (small := [(51, (.pointer (some (ad bsb (i * 3 + 2)))))]) ⟨look_row rfl 9 rfl s9, trivial⟩ ?_
         refine tp rfl (lv_load Try.isAgg3 rfl (Rd.gives (Rd.cons (Rd.cons hsb)) ((recs_get (k := i) (j := 2) triF_len (d := R3.d) (by omega) (Nat.le_of_ble_eq_true rfl)).trans rfl))) ?_
         exact d_closes ⟨look_row rfl 9 rfl s9, trivial⟩ 10 rfl rfl rfl hS (AgreeR.refl _) (t_sat (fun _ h => h) (hK () trivial))
        · -- 11
         rintro _ S hF hS D hp K hK
         try dsimp only at hF ⊢
         have s10 := hp 10 rfl
         refine d_need (small := [(52, (.int .i64 ((xs.getD i R3.d).z)))]) ⟨look_row rfl 10 rfl s10, trivial⟩ ?_
         refine tp rfl (lv_shr (c := bShr .i64 ((xs.getD i R3.d).z) 1) rfl rfl (by omega) rfl) ?_
         exact d_closes ⟨look_row rfl 10 rfl s10, trivial⟩ 11 rfl rfl rfl hS (AgreeR.refl _) (t_sat (fun _ h => h) (hK () trivial))
        · -- 12
         rintro _ S hF hS D hp K hK
         try dsimp only at hF ⊢
         have s0 := hp 0 rfl
         have s5 := hp 5 rfl
         have s11 := hp 11 rfl
         refine d_need (small := [(42, (.pointer (some ⟨p1, 0, none⟩))), (47, (.int .i64 ((xs.getD i R3.d).y))), (53, (.int .i64 (bShr .i64 ((xs.getD i R3.d).z) 1)))]) ⟨look_row rfl 0 rfl s0, look_row rfl 5 rfl s5, look_row rfl 11 rfl s11, trivial⟩ ?_
         refine t_f1 ?_
         refine t_cF hS ?_
         refine t_f1 ?_
         refine tc rfl (en_fn Try.call12 rfl) (tset_ok (n := m) (ks := ks) ((xs.getD i R3.d).y) (bShr .i64 ((xs.getD i R3.d).z) 1)) ?_
         rintro _ _ ⟨rfl, rfl⟩
         exact d_closes ⟨look_row rfl 0 rfl s0, look_row rfl 5 rfl s5, look_row rfl 11 rfl s11, trivial⟩ 12 rfl rfl rfl hS (AgreeR.refl _) (t_sat (fun _ h => h) (hK () trivial))
      · -- behind
        rintro _ hF
        try dsimp only at hF ⊢
        refine t_weak (E' := [(0, (.int .i64 ((m : Nat) : Int))), (1, (.slice bsb xs.length csb)), (4, (.bool false)), (5, (.bool true)), (6, (.pointer (some ⟨p1, 0, none⟩))), (7, (.int .i64 ((i : Nat) : Int))), (18, (.bool false)), (26, (.bool true)), (34, (.bool false))]) ⟨rfl, rfl, rfl, rfl, rfl, rfl, rfl, rfl, rfl, trivial⟩ ?_
        refine q_in_n ?_
        refine q_then_n (hK12 _ _ ?_)
        refine c_region ?_
        refine tp rfl (lv_move rfl) ?_
        refine tp rfl (lv_add (c := ((i + 1 : Nat) : Int)) rfl rfl (wr_i64_succ (by omega))) ?_
        refine tp rfl (lv_assign rfl) ?_
        refine t_done ?_
        refine q_then_n ?_
        exact t_weak (by exact ⟨rfl, rfl, rfl, rfl, rfl, rfl, rfl, trivial⟩) ((hK9 (i + 1, pushK (remK ks ((xs.getD i R3.d).y)) ((xs.getD i R3.d).y) (bShr .i64 ((xs.getD i R3.d).z) 1)) ⟨by omega, by omega, by dsimp only; simp only [pushK_len, remK_len]; exact hkl, by dsimp only; first | exact hak.rem | exact hak.rem.push hshr.1 hshr.2⟩ (by dsimp only; omega)))
  · -- not both
    refine t_cut0 (E' := [(0, (.int .i64 ((m : Nat) : Int))), (1, (.slice bsb xs.length csb)), (4, (.bool false)), (5, (.bool true)), (6, (.pointer (some ⟨p1, 0, none⟩))), (7, (.int .i64 ((i : Nat) : Int))), (18, (.bool false)), (26, (.bool false))]) ?_ (fun KK hKK => ?_)
    ·
      refine q_then_n (hK11 _ _ ?_)
      refine c_false rfl ?_
      refine c_exit ?_
      refine q_then_x ?_
      refine q_then_x ?_
      refine q_in_x ?_
      refine q_then_n (hK7 _ _ ?_)
      refine c_seq (fun K12 hK12 => ?_)
      refine c_seq (fun K13 hK13 => ?_)
      refine c_region ?_
      refine tp rfl (lv_assign rfl) ?_
      refine t_done ?_
      refine q_then_n (hK13 _ _ ?_)
      refine c_block ?_
      have hcl := cnt_le ks
      refine c_loop (γ := (Nat) × (Ks)) (fun (j, k2) => j ≤ 51 ∧ cntK k2 + j ≤ m ∧ AllK (-4611686018427387904) 4611686018427387904 k2) (fun (j, k2) => [(0, (.int .i64 ((m : Nat) : Int))), (1, (.slice bsb xs.length csb)), (5, (.bool true)), (6, (.pointer (some ⟨p1, 0, none⟩))), (7, (.int .i64 ((i : Nat) : Int))), (8, (.int .i64 ((j : Nat) : Int))), (18, (.bool false)), (26, (.bool false))]) (fun (j, k2) => (Blk p1 [(.pointer (some ⟨q2, 0, none⟩))] 37) :: (HeapO q2 m k2) :: R) (fun (j, k2) => 51 - j) (0, ks) ⟨by omega, by omega, hak⟩ ⟨rfl, rfl, rfl, rfl, rfl, rfl, rfl, rfl, trivial⟩ (fun _ h => h) ?_
      rintro ⟨j, k2⟩ K14 hF hK14
      try dsimp only at hF hK14 ⊢
      obtain ⟨hj, hcj, hak2⟩ := hF
      refine c_seq (fun K15 hK15 => ?_)
      refine c_seq (fun K16 hK16 => ?_)
      refine c_region ?_
      refine tp rfl (lv_move rfl) ?_
      by_cases h5 : ((j : Nat) : Int) < 51
      · -- yes
        refine tp rfl (lv_lss rfl rfl (decide_eq_true h5)) ?_
        refine t_done ?_
        refine q_then_n (hK16 _ _ ?_)
        refine c_true rfl ?_
        refine c_skip ?_
        refine q_then_n (hK15 _ _ ?_)
        refine c_seq (fun K17 hK17 => ?_)
        refine c_block ?_
        refine c_seq (fun K18 hK18 => ?_)
        refine c_region ?_
        refine tp rfl (lv_move rfl) ?_
        refine t_f1 ?_
        refine t_f1 ?_
        refine tc rfl (en_fn Try.call16 rfl) (tnext_ok (n := m) (ks := k2) ) ?_
        rintro _ _ ⟨rfl, rfl⟩
        refine tp rfl (lv_move rfl) ?_
        refine tp rfl (lv_extract rfl rfl) ?_
        refine tp rfl (lv_extract rfl rfl) ?_
        refine tp rfl (lv_assign rfl) ?_
        refine tp rfl (lv_assign rfl) ?_
        refine t_done ?_
        refine q_then_n (hK18 _ _ ?_)
        refine c_seq (fun K19 hK19 => ?_)
        refine c_seq (fun K20 hK20 => ?_)
        refine c_region ?_
        refine tp rfl (lv_move rfl) ?_
        refine tp rfl (lv_not (c := !(fstB k2)) rfl rfl) ?_
        refine t_done ?_
        refine q_then_n (hK20 _ _ ?_)
        refine c_split rfl (fun c6 => ?_) (fun c6 => ?_)
        · -- true
         refine c_seq (fun K21 hK21 => ?_)
         refine c_region ?_
         have hfn : fstB k2 = false := by cases hq : fstB k2 <;> simp_all
         refine tp rfl (lv_move rfl) ?_
         refine tp rfl (lv_move rfl) ?_
         refine t_guard rfl rfl ?_
         refine tp rfl (lv_move rfl) ?_
         refine t_guard rfl rfl ?_
         refine tp rfl (lv_eql rfl rfl (beq_iff_eq.2 ((fst_zero hfn).2.2))) ?_
         refine tp rfl (lv_pick_t rfl rfl) ?_
         refine tp rfl (lv_move rfl) ?_
         refine t_guard rfl rfl ?_
         refine tp rfl (lv_move rfl) ?_
         refine t_guard rfl rfl ?_
         refine tp rfl (lv_nilCheck rfl) ?_
         refine t_guard rfl rfl ?_
         refine tp rfl (lv_fieldAddr (o' := 0) Try.underlying37 rfl Try.sizeOf35 rfl rfl) ?_
         refine t_guard rfl rfl ?_
         refine tp rfl (lv_fieldAddr (o' := 0) Try.underlying35 rfl Try.sizeOf33 rfl rfl) ?_
         refine t_guard rfl rfl ?_
         refine tp rfl (lv_load Try.isAgg33 rfl (gives_blk (.head _) rfl)) ?_
         refine t_guard rfl rfl ?_
         refine t_f1 ?_
         refine tc rfl (en_fn Try.call15 rfl) (hlen_ok (n := m) (ks := k2) ) ?_
         rintro _ _ ⟨rfl, rfl⟩
         refine t_guard rfl rfl ?_
         refine tp rfl (lv_eql rfl rfl (beq_iff_eq.2 (by rw [(fst_zero hfn).1]; rfl))) ?_
         refine tp rfl (lv_pick_t rfl rfl) ?_
         refine tp rfl (lv_move rfl) ?_
         refine t_guard rfl rfl ?_
         refine tp rfl (lv_move rfl) ?_
         refine t_guard rfl rfl ?_
         refine t_f1 ?_
         refine tc rfl (en_fn Try.call14 rfl) (tdue_ok (n := m) (ks := k2) 4611686018427387904) ?_
         rintro _ _ ⟨bs7, cp8, hok9, hle10, rfl, rfl⟩
         refine t_guard rfl rfl ?_
         refine tp rfl (lv_len Try.underlying30 rfl rfl) ?_
         refine t_guard rfl rfl ?_
         refine tp rfl (lv_eql rfl rfl (beq_iff_eq.2 (by rw [due_emp hfn]; rfl))) ?_
         refine tp rfl (lv_pick_t rfl rfl) ?_
         refine tp rfl (lv_assign rfl) ?_
         refine t_done ?_
         refine q_then_n (hK21 _ _ ?_)
         refine c_ret ?_
         refine q_then_r ?_
         refine q_in_r ?_
         refine q_then_r ?_
         refine q_then_r ?_
         refine q_in_r ?_
         refine q_then_r ?_
         refine t_drop ?_
         refine t_drop ?_
         refine t_drop ?_
         refine q_ret rfl rfl ?_
         exact ⟨rfl, rfl⟩
        · -- false
         refine c_skip ?_
         refine q_then_n (hK19 _ _ ?_)
         refine c_seq (fun K21 hK21 => ?_)
         refine c_seq (fun K22 hK22 => ?_)
         refine c_region ?_
         have hfb : fstB k2 = true := by cases hq : fstB k2 <;> simp_all
         have hfv := hak2.fst hfb
         have hdn := due_no (ks := k2) (t := fstV k2 - 1) (fun hh => by have := hh.2; omega)
         have hdy := due_yes (ks := k2) (t := fstV k2) ⟨hfb, by omega⟩
         have hdc := due_cnt k2 (fstV k2)
         rw [hdy.1, List.length_cons] at hdc
         have hz1 : (((dueL k2 (fstV k2 - 1)).length : Nat) : Int) = 0 := by rw [hdn.1]; rfl
         have hz2 : ¬ (((dueL k2 (fstV k2)).length : Nat) : Int) = 0 := by rw [hdy.1, List.length_cons]; omega
         refine tp rfl (lv_move rfl) ?_
         refine tp rfl (lv_move rfl) ?_
         refine tp rfl (lv_sub (c := (fstV k2) - 1) rfl rfl (wr_i64 (by omega) (by omega))) ?_
         refine t_f1 ?_
         refine t_f1 ?_
         refine tc rfl (en_fn Try.call14 rfl) (tdue_ok (n := m) (ks := k2) ((fstV k2) - 1)) ?_
         rintro _ _ ⟨bs11, cp12, hok13, hle14, rfl, rfl⟩
         rw [show duR k2 ((fstV k2) - 1) = k2 from hdn.2]
         refine tp rfl (lv_len Try.underlying30 rfl rfl) ?_
         refine tp rfl (lv_neq rfl rfl (bne_eq_false_iff_eq.2 hz1)) ?_
         refine t_done ?_
         refine q_then_n (hK22 _ _ ?_)
         refine c_false rfl ?_
         refine c_skip ?_
         refine q_then_n (hK21 _ _ ?_)
         refine c_seq (fun K23 hK23 => ?_)
         refine c_region ?_
         refine tp rfl (lv_move rfl) ?_
         refine tp rfl (lv_move rfl) ?_
         refine t_f2 ?_
         refine t_f2 ?_
         refine tc rfl (en_fn Try.call14 rfl) (tdue_ok (n := m) (ks := k2) (fstV k2)) ?_
         rintro _ _ ⟨bs15, cp16, hok17, hle18, rfl, rfl⟩
         refine tp rfl (lv_len Try.underlying30 rfl rfl) ?_
         refine tp rfl (lv_eql rfl rfl (beq_eq_false_iff_ne.2 hz2)) ?_
         refine t_done ?_
         refine q_then_n (hK23 _ _ ?_)
         refine c_false rfl ?_
         refine c_skip ?_
         refine q_in_n ?_
         refine q_then_n (hK17 _ _ ?_)
         refine c_region ?_
         refine tp rfl (lv_move rfl) ?_
         refine tp rfl (lv_add (c := ((j + 1 : Nat) : Int)) rfl rfl (wr_i64_succ (by omega))) ?_
         refine tp rfl (lv_assign rfl) ?_
         refine t_done ?_
         refine q_then_n ?_
         refine t_drop ?_
         refine t_f2 ?_
         refine t_drop ?_
         exact t_weak (by exact ⟨rfl, rfl, rfl, rfl, rfl, rfl, rfl, rfl, trivial⟩) ((hK14 (j + 1, duR k2 (fstV k2)) ⟨by omega, by dsimp only; omega, by dsimp only; exact hak2.due _⟩ (by dsimp only; omega)))
      · -- no
        refine tp rfl (lv_lss rfl rfl (decide_eq_false h5)) ?_
        exfalso; omega
    · -- which
      by_cases hc3A : ((i : Nat) : Int) < ((xs.length : Nat) : Int)
      ·
        have hc3B : ¬ (((i : Nat) : Int) < 100) := fun hh => hc3 ⟨hc3A, hh⟩
        refine tp rfl (lv_move rfl) ?_
        refine tp rfl (lv_move rfl) ?_
        refine tp rfl (lv_len Try.underlying39 rfl rfl) ?_
        refine tp rfl (lv_lss rfl rfl (decide_eq_true hc3A)) ?_
        refine tp rfl (lv_move rfl) ?_
        refine t_guard rfl rfl ?_
        refine tp rfl (lv_move rfl) ?_
        refine t_guard rfl rfl ?_
        refine tp rfl (lv_lss rfl rfl (decide_eq_false hc3B)) ?_
        refine tp rfl (lv_pick_t rfl rfl) ?_
        exact t_done (t_weak (by exact ⟨rfl, rfl, rfl, rfl, rfl, rfl, rfl, rfl, trivial⟩) hKK)
      ·
        refine tp rfl (lv_move rfl) ?_
        refine tp rfl (lv_move rfl) ?_
        refine tp rfl (lv_len Try.underlying39 rfl rfl) ?_
        refine tp rfl (lv_lss rfl rfl (decide_eq_false hc3A)) ?_
        refine tp rfl (lv_move rfl) ?_
        refine t_skip rfl rfl rfl ?_
        refine t_skip rfl rfl rfl ?_
        refine tp rfl (lv_pick_f rfl rfl) ?_
        exact t_done (t_weak (by exact ⟨rfl, rfl, rfl, rfl, rfl, rfl, rfl, rfl, trivial⟩) hKK)
end Go.Proofs.Ytombnfgkgcjihaa
