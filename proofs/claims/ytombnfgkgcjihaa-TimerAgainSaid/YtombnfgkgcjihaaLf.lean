/- TimerAgain: the law's walk. -/
import Derived.Test.YtombnfgkgcjihaaLa
import Derived.Test.YtombnfgkgcjihaaTm2
set_option maxRecDepth 100000
set_option linter.unusedVariables false
set_option linter.unusedSimpArgs false
namespace Go.Proofs.Ytombnfgkgcjihaa
open Go Go.Proofs Sp
set_option maxHeartbeats 4000000 in
theorem again_law {R : List HP} (n : Int) {bsb : Option Addr} {csb : Nat} (xs : List R3) (hsb : Rd R bsb (recs triF xs)) (oksb : SlOk bsb xs.length) (lsb : xs.length ≤ 9223372036854775807) :
    Ok Try.prog 7 [(.int .i64 n), (.slice bsb xs.length csb)] R
      (fun v M => v = .bool true ∧ M = R) := by
  obtain ⟨m, hm⟩ : ∃ m : Nat, n % 65536 % 50 = (m : Int) := ⟨(n % 65536 % 50).toNat, by omega⟩
  have hm2 : m < 50 := by omega
  have hcm : hclamp ((m : Nat) : Int) = m := by unfold hclamp; omega
  refine ok_of (N := 109) Try.func7 rfl rfl rfl (fun W => ?_)
  refine c_seq (fun K1 hK1 => ?_)
  refine c_region ?_
  refine tp rfl (lv_assign rfl) ?_
  refine t_done ?_
  refine q_then_n (hK1 _ _ ?_)
  refine c_seq (fun K2 hK2 => ?_)
  refine c_region ?_
  refine tc rfl (en_fn Try.call10 rfl) (shown_ok) ?_
  rintro _ _ ⟨rfl, hMR⟩
  rw [hMR]; clear hMR
  refine tp rfl (lv_assign rfl) ?_
  refine t_done ?_
  refine q_then_n (hK2 _ _ ?_)
  refine c_seq (fun K3 hK3 => ?_)
  refine c_region ?_
  refine tp rfl (lv_move rfl) ?_
  refine tp rfl (lv_and (c := n % 65536) rfl rfl (and_pow 16 (by decide) n)) ?_
  refine tp rfl (lv_rem (c := ((m : Nat) : Int)) rfl rfl (by omega) ((Int.tmod_eq_emod_of_nonneg (by omega)).trans hm)) ?_
  refine tp rfl (lv_assign rfl) ?_
  refine t_done ?_
  refine q_then_n (hK3 _ _ ?_)
  refine c_seq (fun K4 hK4 => ?_)
  refine c_region ?_
  refine tp rfl (lv_move rfl) ?_
  refine tc rfl (en_fn Try.call11 rfl) (tnew_ok ((m : Nat) : Int)) ?_
  rintro _ _ ⟨p1, q2, rfl, rfl⟩
  rw [show hclamp ((m : Nat) : Int) = m from hcm]
  refine tp rfl (lv_assign rfl) ?_
  refine t_done ?_
  refine q_then_n (hK4 _ _ ?_)
  refine c_seq (fun K5 hK5 => ?_)
  refine c_region ?_
  refine tp rfl (lv_move rfl) ?_
  refine tc rfl (en_fn Try.call11 rfl) (tnew_ok ((m : Nat) : Int)) ?_
  rintro _ _ ⟨p3, q4, rfl, rfl⟩
  rw [show hclamp ((m : Nat) : Int) = m from hcm]
  refine tp rfl (lv_assign rfl) ?_
  refine t_done ?_
  refine q_then_n (hK5 _ _ ?_)
  refine c_seq (fun K6 hK6 => ?_)
  refine c_seq (fun K7 hK7 => ?_)
  refine c_region ?_
  refine tp rfl (lv_move rfl) ?_
  refine tp rfl (lv_eqnil Try.underlying25 rfl rfl) ?_
  refine tp rfl (lv_move rfl) ?_
  refine t_guard rfl rfl ?_
  refine tp rfl (lv_move rfl) ?_
  refine t_guard rfl rfl ?_
  refine tp rfl (lv_eqnil Try.underlying25 rfl rfl) ?_
  refine tp rfl (lv_pick_f rfl rfl) ?_
  refine t_done ?_
  refine q_then_n (hK7 _ _ ?_)
  refine c_false rfl ?_
  refine c_skip ?_
  refine q_then_n (hK6 _ _ ?_)
  refine c_seq (fun K8 hK8 => ?_)
  refine c_seq (fun K9 hK9 => ?_)
  refine c_region ?_
  refine tp rfl (lv_assign rfl) ?_
  refine t_done ?_
  refine q_then_n (hK9 _ _ ?_)
  refine c_block ?_
  refine c_loop (γ := (Nat) × (Ks)) (fun (i, ks) => i ≤ xs.length ∧ i ≤ 100) (fun (i, ks) => [(0, (.int .i64 ((m : Nat) : Int))), (1, (.slice bsb xs.length csb)), (5, (.bool true)), (6, (.pointer (some ⟨p1, 0, none⟩))), (7, (.pointer (some ⟨p3, 0, none⟩))), (8, (.int .i64 ((i : Nat) : Int))), (26, (.bool false))]) (fun (i, ks) => (Blk p3 [(.pointer (some ⟨q4, 0, none⟩))] 37) :: (HeapO q4 m ks) :: (Blk p1 [(.pointer (some ⟨q2, 0, none⟩))] 37) :: (HeapO q2 m ks) :: R) (fun (i, ks) => xs.length - i) (0, List.replicate m none) ⟨by omega, by omega⟩ ⟨rfl, rfl, rfl, rfl, rfl, rfl, rfl, trivial⟩ (fun _ h => h) ?_
  rintro ⟨i, ks⟩ K10 hF hK10
  try dsimp only at hF hK10 ⊢
  obtain ⟨hi, hi2⟩ := hF
  refine c_seq (fun K11 hK11 => ?_)
  refine c_seq (fun K12 hK12 => ?_)
  refine c_region ?_
  by_cases hc5 : ((i : Nat) : Int) < ((xs.length : Nat) : Int) ∧ ((i : Nat) : Int) < 100
  · -- both
    have hc5a := hc5.1
    have hc5b := hc5.2
    refine tp rfl (lv_move rfl) ?_
    refine tp rfl (lv_move rfl) ?_
    refine tp rfl (lv_len Try.underlying39 rfl rfl) ?_
    refine tp rfl (lv_lss rfl rfl (decide_eq_true hc5.1)) ?_
    refine tp rfl (lv_move rfl) ?_
    refine t_guard rfl rfl ?_
    refine tp rfl (lv_move rfl) ?_
    refine t_guard rfl rfl ?_
    refine tp rfl (lv_lss rfl rfl (decide_eq_true hc5.2)) ?_
    refine tp rfl (lv_pick_t rfl rfl) ?_
    refine t_done ?_
    refine q_then_n (hK12 _ _ ?_)
    refine c_true rfl ?_
    refine c_skip ?_
    refine q_then_n (hK11 _ _ ?_)
    refine c_seq (fun K13 hK13 => ?_)
    refine c_block ?_
    refine c_seq (fun K14 hK14 => ?_)
    refine c_region ?_
    refine tp rfl (lv_move rfl) ?_
    refine tp rfl (lv_move rfl) ?_
    refine tp rfl (lv_indexAddr (k' := i * 3) Try.underlying39 Try.sizeOf41 rfl rfl oksb (by omega) (by omega) (by omega)) ?_
    refine tp rfl (lv_loadAgg_ad (cs := [(.int .i64 ((xs.getD i R3.d).x)), (.int .i64 ((xs.getD i R3.d).y)), (.int .i64 ((xs.getD i R3.d).z))]) Try.isAgg41 Try.sizeOf41 rfl (gives_all3 (Rd.gives (Rd.cons (Rd.cons (Rd.cons (Rd.cons hsb)))) ((recs_get (k := i) (j := 0) triF_len (d := R3.d) (by omega) (Nat.le_of_ble_eq_true rfl)).trans rfl)) (Rd.gives (Rd.cons (Rd.cons (Rd.cons (Rd.cons hsb)))) ((recs_get (k := i) (j := 1) triF_len (d := R3.d) (by omega) (Nat.le_of_ble_eq_true rfl)).trans rfl)) (Rd.gives (Rd.cons (Rd.cons (Rd.cons (Rd.cons hsb)))) ((recs_get (k := i) (j := 2) triF_len (d := R3.d) (by omega) (Nat.le_of_ble_eq_true rfl)).trans rfl)))) ?_
    refine tm rfl (mv_alloc Try.zeroValue41 rfl) ?_
    rintro _ _ ⟨b6, rfl, rfl⟩
    refine ts (sv_blkAgg (news := [(.int .i64 ((xs.getD i R3.d).x)), (.int .i64 ((xs.getD i R3.d).y)), (.int .i64 ((xs.getD i R3.d).z))]) Try.sizeOf41 rfl rfl rfl rfl (Nat.le_of_ble_eq_true rfl) rfl) ?_
    refine t_done ?_
    refine q_then_n (hK14 _ _ ?_)
    refine c_seq (fun K15 hK15 => ?_)
    refine c_region ?_
    refine tp rfl (lv_assign rfl) ?_
    refine t_done ?_
    refine q_then_n (hK15 _ _ ?_)
    refine c_seq (fun K16 hK16 => ?_)
    have hM16 : ∀ (k2 : Ks), True → Tri K16 W 109 [(0, (.int .i64 ((m : Nat) : Int))), (1, (.slice bsb xs.length csb)), (5, (.bool true)), (6, (.pointer (some ⟨p1, 0, none⟩))), (7, (.pointer (some ⟨p3, 0, none⟩))), (8, (.int .i64 ((i : Nat) : Int))), (9, (.pointer (some ⟨b6, 0, none⟩))), (10, (.bool true)), (26, (.bool false)), (34, (.bool true))] ((Blk b6 [(.int .i64 ((xs.getD i R3.d).x)), (.int .i64 ((xs.getD i R3.d).y)), (.int .i64 ((xs.getD i R3.d).z))] 41) :: (Blk p3 [(.pointer (some ⟨q4, 0, none⟩))] 37) :: (HeapO q4 m k2) :: (Blk p1 [(.pointer (some ⟨q2, 0, none⟩))] 37) :: (HeapO q2 m k2) :: R) := by
      rintro k2 hF
      refine hK16 _ _ ?_
      refine c_seq (fun K17 hK17 => ?_)
      refine c_draw (γ := Unit) (n := 17) Try.mixed rfl rfl (fun _ S => True) (fun _ => [(0, 91, (.bool true)), (1, 92, (.bool false)), (2, 93, (.bool false)), (3, 94, (.pointer (some ⟨p1, 0, none⟩))), (4, 95, (.pointer (some ⟨p1, 0, none⟩))), (5, 96, (.pointer (some ⟨p1, 0, none⟩))), (6, 97, (.pointer (some ⟨p1, 0, none⟩))), (7, 98, (.pointer (some ⟨q2, 0, none⟩))), (8, 99, (.int .i64 ((cntK k2 : Nat) : Int))), (9, 100, (.pointer (some ⟨p3, 0, none⟩))), (10, 101, (.pointer (some ⟨p3, 0, none⟩))), (11, 102, (.pointer (some ⟨p3, 0, none⟩))), (12, 103, (.pointer (some ⟨p3, 0, none⟩))), (13, 104, (.pointer (some ⟨q4, 0, none⟩))), (14, 105, (.int .i64 ((cntK k2 : Nat) : Int))), (15, 106, (.bool false)), (16, 107, (.bool false))]) (fun _ S => (Blk b6 [(.int .i64 ((xs.getD i R3.d).x)), (.int .i64 ((xs.getD i R3.d).y)), (.int .i64 ((xs.getD i R3.d).z))] 41) :: (Blk p3 [(.pointer (some ⟨q4, 0, none⟩))] 37) :: (HeapO q4 m k2) :: (Blk p1 [(.pointer (some ⟨q2, 0, none⟩))] 37) :: (HeapO q2 m k2) :: R) (()) trivial (fun _ h => h) (fun _ _ h => h) ?_ ?_
      · -- steps
        refine ⟨?_, ?_, ?_, ?_, ?_, ?_, ?_, ?_, ?_, ?_, ?_, ?_, ?_, ?_, ?_, ?_, ?_, trivial⟩
        · -- 0
         rintro _ S hF hS D hp K hK
         try dsimp only at hF ⊢
         refine d_need (small := [(10, (.bool true))]) ⟨look_b rfl rfl, trivial⟩ ?_
         refine tp rfl (lv_move rfl) ?_
         exact d_closes ⟨look_b rfl rfl, trivial⟩ 0 rfl rfl rfl hS (AgreeR.refl _) (t_sat (fun _ h => h) (hK () trivial))
        · -- 1
         rintro _ S hF hS D hp K hK
         try dsimp only at hF ⊢
         have s0 := hp 0 rfl
         refine d_need (small := [(91, (.bool true))]) ⟨look_row rfl 0 rfl s0, trivial⟩ ?_
         refine tp rfl (lv_not (c := false) rfl rfl) ?_
         exact d_closes ⟨look_row rfl 0 rfl s0, trivial⟩ 1 rfl rfl rfl hS (AgreeR.refl _) (t_sat (fun _ h => h) (hK () trivial))
        · -- 2
         rintro _ S hF hS D hp K hK
         try dsimp only at hF ⊢
         have s1 := hp 1 rfl
         refine d_need (small := [(92, (.bool false))]) ⟨look_row rfl 1 rfl s1, trivial⟩ ?_
         refine tp rfl (lv_move rfl) ?_
         exact d_closes ⟨look_row rfl 1 rfl s1, trivial⟩ 2 rfl rfl rfl hS (AgreeR.refl _) (t_sat (fun _ h => h) (hK () trivial))
        · -- 3
         rintro _ S hF hS D hp K hK
         try dsimp only at hF ⊢
         have s2 := hp 2 rfl
         refine d_need (small := [(6, (.pointer (some ⟨p1, 0, none⟩))), (93, (.bool false))]) ⟨look_b rfl rfl, look_row rfl 2 rfl s2, trivial⟩ ?_
         refine t_guard rfl rfl ?_
         refine tp rfl (lv_move rfl) ?_
         exact d_closes ⟨look_b rfl rfl, look_row rfl 2 rfl s2, trivial⟩ 3 rfl rfl rfl hS (AgreeR.refl _) (t_sat (fun _ h => h) (hK () trivial))
        · -- 4
         rintro _ S hF hS D hp K hK
         try dsimp only at hF ⊢
         have s2 := hp 2 rfl
         have s3 := hp 3 rfl
         refine d_need (small := [(93, (.bool false)), (94, (.pointer (some ⟨p1, 0, none⟩)))]) ⟨look_row rfl 2 rfl s2, look_row rfl 3 rfl s3, trivial⟩ ?_
         refine t_guard rfl rfl ?_
         refine tp rfl (lv_nilCheck rfl) ?_
         exact d_closes ⟨look_row rfl 2 rfl s2, look_row rfl 3 rfl s3, trivial⟩ 4 rfl rfl rfl hS (AgreeR.refl _) (t_sat (fun _ h => h) (hK () trivial))
        · -- 5
         rintro _ S hF hS D hp K hK
         try dsimp only at hF ⊢
         have s2 := hp 2 rfl
         have s4 := hp 4 rfl
         refine d_need (small := [(93, (.bool false)), (95, (.pointer (some ⟨p1, 0, none⟩)))]) ⟨look_row rfl 2 rfl s2, look_row rfl 4 rfl s4, trivial⟩ ?_
         refine t_guard rfl rfl ?_
         refine tp rfl (lv_fieldAddr (o' := 0) Try.underlying37 rfl Try.sizeOf35 rfl rfl) ?_
         exact d_closes ⟨look_row rfl 2 rfl s2, look_row rfl 4 rfl s4, trivial⟩ 5 rfl rfl rfl hS (AgreeR.refl _) (t_sat (fun _ h => h) (hK () trivial))
        · -- 6
         rintro _ S hF hS D hp K hK
         try dsimp only at hF ⊢
         have s2 := hp 2 rfl
         have s5 := hp 5 rfl
         refine d_need (small := [(93, (.bool false)), (96, (.pointer (some ⟨p1, 0, none⟩)))]) ⟨look_row rfl 2 rfl s2, look_row rfl 5 rfl s5, trivial⟩ ?_
         refine t_guard rfl rfl ?_
         refine tp rfl (lv_fieldAddr (o' := 0) Try.underlying35 rfl Try.sizeOf33 rfl rfl) ?_
         exact d_closes ⟨look_row rfl 2 rfl s2, look_row rfl 5 rfl s5, trivial⟩ 6 rfl rfl rfl hS (AgreeR.refl _) (t_sat (fun _ h => h) (hK () trivial))
        · -- 7
         rintro _ S hF hS D hp K hK
         try dsimp only at hF ⊢
         have s2 := hp 2 rfl
         have s6 := hp 6 rfl
         refine d_need (small := [(93, (.bool false)), (97, (.pointer (some ⟨p1, 0, none⟩)))]) ⟨look_row rfl 2 rfl s2, look_row rfl 6 rfl s6, trivial⟩ ?_
         refine t_guard rfl rfl ?_
         refine tp rfl (lv_load Try.isAgg33 rfl (gives_blk (.tail _ (.tail _ (.tail _ (.head _)))) rfl)) ?_
         exact d_closes ⟨look_row rfl 2 rfl s2, look_row rfl 6 rfl s6, trivial⟩ 7 rfl rfl rfl hS (AgreeR.refl _) (t_sat (fun _ h => h) (hK () trivial))
        · -- 8
         rintro _ S hF hS D hp K hK
         try dsimp only at hF ⊢
         have s2 := hp 2 rfl
         have s7 := hp 7 rfl
         refine d_need (small := [(93, (.bool false)), (98, (.pointer (some ⟨q2, 0, none⟩)))]) ⟨look_row rfl 2 rfl s2, look_row rfl 7 rfl s7, trivial⟩ ?_
         refine t_guard rfl rfl ?_
         refine t_f4 ?_
         refine tc rfl (en_fn Try.call15 rfl) (hlen_ok (n := m) (ks := k2) ) ?_
         rintro _ _ ⟨rfl, rfl⟩
         refine t_f4 ?_
         refine t_f4 ?_
         refine t_f4 ?_
         refine t_f4 ?_
         exact d_closes ⟨look_row rfl 2 rfl s2, look_row rfl 7 rfl s7, trivial⟩ 8 rfl rfl rfl hS (AgreeR.refl _) (t_sat (fun _ h => h) (hK () trivial))
        · -- 9
         rintro _ S hF hS D hp K hK
         try dsimp only at hF ⊢
         have s2 := hp 2 rfl
         refine d_need (small := [(7, (.pointer (some ⟨p3, 0, none⟩))), (93, (.bool false))]) ⟨look_b rfl rfl, look_row rfl 2 rfl s2, trivial⟩ ?_
         refine t_guard rfl rfl ?_
         refine tp rfl (lv_move rfl) ?_
         exact d_closes ⟨look_b rfl rfl, look_row rfl 2 rfl s2, trivial⟩ 9 rfl rfl rfl hS (AgreeR.refl _) (t_sat (fun _ h => h) (hK () trivial))
        · -- 10
         rintro _ S hF hS D hp K hK
         try dsimp only at hF ⊢
         have s2 := hp 2 rfl
         have s9 := hp 9 rfl
         refine d_need (small := [(93, (.bool false)), (100, (.pointer (some ⟨p3, 0, none⟩)))]) ⟨look_row rfl 2 rfl s2, look_row rfl 9 rfl s9, trivial⟩ ?_
         refine t_guard rfl rfl ?_
         refine tp rfl (lv_nilCheck rfl) ?_
         exact d_closes ⟨look_row rfl 2 rfl s2, look_row rfl 9 rfl s9, trivial⟩ 10 rfl rfl rfl hS (AgreeR.refl _) (t_sat (fun _ h => h) (hK () trivial))
        · -- 11
         rintro _ S hF hS D hp K hK
         try dsimp only at hF ⊢
         have s2 := hp 2 rfl
         have s10 := hp 10 rfl
         refine d_need (small := [(93, (.bool false)), (101, (.pointer (some ⟨p3, 0, none⟩)))]) ⟨look_row rfl 2 rfl s2, look_row rfl 10 rfl s10, trivial⟩ ?_
         refine t_guard rfl rfl ?_
         refine tp rfl (lv_fieldAddr (o' := 0) Try.underlying37 rfl Try.sizeOf35 rfl rfl) ?_
         exact d_closes ⟨look_row rfl 2 rfl s2, look_row rfl 10 rfl s10, trivial⟩ 11 rfl rfl rfl hS (AgreeR.refl _) (t_sat (fun _ h => h) (hK () trivial))
        · -- 12
         rintro _ S hF hS D hp K hK
         try dsimp only at hF ⊢
         have s2 := hp 2 rfl
         have s11 := hp 11 rfl
         refine d_need (small := [(93, (.bool false)), (102, (.pointer (some ⟨p3, 0, none⟩)))]) ⟨look_row rfl 2 rfl s2, look_row rfl 11 rfl s11, trivial⟩ ?_
         refine t_guard rfl rfl ?_
         refine tp rfl (lv_fieldAddr (o' := 0) Try.underlying35 rfl Try.sizeOf33 rfl rfl) ?_
         exact d_closes ⟨look_row rfl 2 rfl s2, look_row rfl 11 rfl s11, trivial⟩ 12 rfl rfl rfl hS (AgreeR.refl _) (t_sat (fun _ h => h) (hK () trivial))
        · -- 13
         rintro _ S hF hS D hp K hK
         try dsimp only at hF ⊢
         have s2 := hp 2 rfl
         have s12 := hp 12 rfl
         refine d_need (small := [(93, (.bool false)), (103, (.pointer (some ⟨p3, 0, none⟩)))]) ⟨look_row rfl 2 rfl s2, look_row rfl 12 rfl s12, trivial⟩ ?_
         refine t_guard rfl rfl ?_
         refine tp rfl (lv_load Try.isAgg33 rfl (gives_blk (.tail _ (.head _)) rfl)) ?_
         exact d_closes ⟨look_row rfl 2 rfl s2, look_row rfl 12 rfl s12, trivial⟩ 13 rfl rfl rfl hS (AgreeR.refl _) (t_sat (fun _ h => h) (hK () trivial))
        · -- 14
         rintro _ S hF hS D hp K hK
         try dsimp only at hF ⊢
         have s2 := hp 2 rfl
         have s13 := hp 13 rfl
         refine d_need (small := [(93, (.bool false)), (104, (.pointer (some ⟨q4, 0, none⟩)))]) ⟨look_row rfl 2 rfl s2, look_row rfl 13 rfl s13, trivial⟩ ?_
         refine t_guard rfl rfl ?_
         refine t_f2 ?_
         refine tc rfl (en_fn Try.call15 rfl) (hlen_ok (n := m) (ks := k2) ) ?_
         rintro _ _ ⟨rfl, rfl⟩
         refine t_f2 ?_
         refine t_f2 ?_
         exact d_closes ⟨look_row rfl 2 rfl s2, look_row rfl 13 rfl s13, trivial⟩ 14 rfl rfl rfl hS (AgreeR.refl _) (t_sat (fun _ h => h) (hK () trivial))
        · -- 15
         rintro _ S hF hS D hp K hK
         try dsimp only at hF ⊢
         have s2 := hp 2 rfl
         have s8 := hp 8 rfl
         have s14 := hp 14 rfl
         refine d_need (small := [(93, (.bool false)), (99, (.int .i64 ((cntK k2 : Nat) : Int))), (105, (.int .i64 ((cntK k2 : Nat) : Int)))]) ⟨look_row rfl 2 rfl s2, look_row rfl 8 rfl s8, look_row rfl 14 rfl s14, trivial⟩ ?_
         refine t_guard rfl rfl ?_
         refine tp rfl (lv_neq rfl rfl (bne_eq_false_iff_eq.2 rfl)) ?_
         exact d_closes ⟨look_row rfl 2 rfl s2, look_row rfl 8 rfl s8, look_row rfl 14 rfl s14, trivial⟩ 15 rfl rfl rfl hS (AgreeR.refl _) (t_sat (fun _ h => h) (hK () trivial))
        · -- 16
         rintro _ S hF hS D hp K hK
         try dsimp only at hF ⊢
         have s2 := hp 2 rfl
         have s15 := hp 15 rfl
         refine d_need (small := [(93, (.bool false)), (106, (.bool false))]) ⟨look_row rfl 2 rfl s2, look_row rfl 15 rfl s15, trivial⟩ ?_
         refine tp rfl (lv_pick_f rfl rfl) ?_
         exact d_closes ⟨look_row rfl 2 rfl s2, look_row rfl 15 rfl s15, trivial⟩ 16 rfl rfl rfl hS (AgreeR.refl _) (t_sat (fun _ h => h) (hK () trivial))
      · -- behind
        rintro _ hF
        try dsimp only at hF ⊢
        refine t_weak (E' := [(0, (.int .i64 ((m : Nat) : Int))), (1, (.slice bsb xs.length csb)), (5, (.bool true)), (6, (.pointer (some ⟨p1, 0, none⟩))), (7, (.pointer (some ⟨p3, 0, none⟩))), (8, (.int .i64 ((i : Nat) : Int))), (9, (.pointer (some ⟨b6, 0, none⟩))), (10, (.bool true)), (26, (.bool false)), (34, (.bool true)), (107, (.bool false))]) ⟨rfl, rfl, rfl, rfl, rfl, rfl, rfl, rfl, rfl, rfl, rfl, trivial⟩ ?_
        refine q_then_n (hK17 _ _ ?_)
        refine c_false rfl ?_
        refine c_skip ?_
        refine q_in_n ?_
        refine q_then_n (hK13 _ _ ?_)
        refine c_region ?_
        refine tp rfl (lv_move rfl) ?_
        refine tp rfl (lv_add (c := ((i + 1 : Nat) : Int)) rfl rfl (wr_i64_succ (by omega))) ?_
        refine tp rfl (lv_assign rfl) ?_
        refine t_done ?_
        refine q_then_n ?_
        refine t_drop ?_
        exact t_weak (by exact ⟨rfl, rfl, rfl, rfl, rfl, rfl, rfl, trivial⟩) ((hK10 (i + 1, k2) ⟨by omega, by omega⟩ (by dsimp only; omega)))
    refine c_seq (fun K17 hK17 => ?_)
    refine c_region ?_
    refine tp rfl (lv_fieldAddr (o' := 0) Try.underlying41 rfl Try.sizeOf3 rfl rfl) ?_
    refine tp rfl (lv_load Try.isAgg3 rfl (gives_blk (.head _) rfl)) ?_
    refine t_done ?_
    refine q_then_n (hK17 _ _ ?_)
    refine c_block ?_
    refine c_seq (fun K18 hK18 => ?_)
    refine c_seq (fun K19 hK19 => ?_)
    refine c_region ?_
    by_cases h7 : ((xs.getD i R3.d).x) = 1
    · -- yes
      refine tp rfl (lv_eql rfl rfl (beq_iff_eq.2 h7)) ?_
      refine tp rfl (lv_assign rfl) ?_
      refine t_done ?_
      refine q_then_n (hK19 _ _ ?_)
      refine c_true rfl ?_
      refine c_skip ?_
      refine q_then_n (hK18 _ _ ?_)
      refine c_true rfl ?_
      refine c_draw (γ := Unit) (n := 14) Try.mixed rfl rfl (fun _ S => True) (fun _ => [(0, 46, (.pointer (some ⟨p1, 0, none⟩))), (1, 47, (.pointer (some ⟨b6, 1, none⟩))), (2, 48, (.int .i64 ((xs.getD i R3.d).y))), (3, 49, (.pointer (some ⟨b6, 2, none⟩))), (4, 50, (.int .i64 ((xs.getD i R3.d).z))), (5, 51, (.int .i64 (pushE (remK ks ((xs.getD i R3.d).y)) ((xs.getD i R3.d).y)))), (6, 52, (.pointer (some ⟨p3, 0, none⟩))), (7, 53, (.pointer (some ⟨b6, 1, none⟩))), (8, 54, (.int .i64 ((xs.getD i R3.d).y))), (9, 55, (.pointer (some ⟨b6, 2, none⟩))), (10, 56, (.int .i64 ((xs.getD i R3.d).z))), (11, 57, (.int .i64 (pushE (remK ks ((xs.getD i R3.d).y)) ((xs.getD i R3.d).y)))), (12, 58, (.bool true)), (13, 10, (.bool true))]) (fun _ S => (Blk b6 [(.int .i64 ((xs.getD i R3.d).x)), (.int .i64 ((xs.getD i R3.d).y)), (.int .i64 ((xs.getD i R3.d).z))] 41) :: (Blk p3 [(.pointer (some ⟨q4, 0, none⟩))] 37) :: (bif S 11 then (HeapO q4 m (pushK (remK ks ((xs.getD i R3.d).y)) ((xs.getD i R3.d).y) ((xs.getD i R3.d).z))) else (HeapO q4 m ks)) :: (Blk p1 [(.pointer (some ⟨q2, 0, none⟩))] 37) :: (bif S 5 then (HeapO q2 m (pushK (remK ks ((xs.getD i R3.d).y)) ((xs.getD i R3.d).y) ((xs.getD i R3.d).z))) else (HeapO q2 m ks)) :: R) (()) trivial (fun _ h => h) (fun _ _ h => h) ?_ ?_
      · -- steps
        refine ⟨?_, ?_, ?_, ?_, ?_, ?_, ?_, ?_, ?_, ?_, ?_, ?_, ?_, ?_, trivial⟩
        · -- 0
         rintro _ S hF hS D hp K hK
         try dsimp only at hF ⊢
         refine d_need (small := [(6, (.pointer (some ⟨p1, 0, none⟩)))]) ⟨look_b rfl rfl, trivial⟩ ?_
         refine tp rfl (lv_move rfl) ?_
         exact d_closes ⟨look_b rfl rfl, trivial⟩ 0 rfl rfl rfl hS (AgreeR.refl _) (t_sat (fun _ h => h) (hK () trivial))
        · -- 1
         rintro _ S hF hS D hp K hK
         try dsimp only at hF ⊢
         refine d_need (small := [(9, (.pointer (some ⟨b6, 0, none⟩)))]) ⟨look_b rfl rfl, trivial⟩ ?_
         refine tp rfl (lv_fieldAddr (o' := 1) Try.underlying41 rfl Try.sizeOf3 rfl rfl) ?_
         exact d_closes ⟨look_b rfl rfl, trivial⟩ 1 rfl rfl rfl hS (AgreeR.refl _) (t_sat (fun _ h => h) (hK () trivial))
        · -- 2
         rintro _ S hF hS D hp K hK
         try dsimp only at hF ⊢
         have s1 := hp 1 rfl
         refine d_need (small := [(47, (.pointer (some ⟨b6, 1, none⟩)))]) ⟨look_row rfl 1 rfl s1, trivial⟩ ?_
         refine tp rfl (lv_load Try.isAgg3 rfl (gives_blk (.head _) rfl)) ?_
         exact d_closes ⟨look_row rfl 1 rfl s1, trivial⟩ 2 rfl rfl rfl hS (AgreeR.refl _) (t_sat (fun _ h => h) (hK () trivial))
        · -- 3
         rintro _ S hF hS D hp K hK
         try dsimp only at hF ⊢
         refine d_need (small := [(9, (.pointer (some ⟨b6, 0, none⟩)))]) ⟨look_b rfl rfl, trivial⟩ ?_
         refine tp rfl (lv_fieldAddr (o' := 2) Try.underlying41 rfl Try.sizeOf3 rfl rfl) ?_
         exact d_closes ⟨look_b rfl rfl, trivial⟩ 3 rfl rfl rfl hS (AgreeR.refl _) (t_sat (fun _ h => h) (hK () trivial))
        · -- 4
         rintro _ S hF hS D hp K hK
         try dsimp only at hF ⊢
         have s3 := hp 3 rfl
         refine d_need (small := [(49, (.pointer (some ⟨b6, 2, none⟩)))]) ⟨look_row rfl 3 rfl s3, trivial⟩ ?_
         refine tp rfl (lv_load Try.isAgg3 rfl (gives_blk (.head _) rfl)) ?_
         exact d_closes ⟨look_row rfl 3 rfl s3, trivial⟩ 4 rfl rfl rfl hS (AgreeR.refl _) (t_sat (fun _ h => h) (hK () trivial))
        · -- 5
         rintro _ S hF hS D hp K hK
         try dsimp only at hF ⊢
         have s0 := hp 0 rfl
         have s2 := hp 2 rfl
         have s4 := hp 4 rfl
         refine d_need (small := [(46, (.pointer (some ⟨p1, 0, none⟩))), (48, (.int .i64 ((xs.getD i R3.d).y))), (50, (.int .i64 ((xs.getD i R3.d).z)))]) ⟨look_row rfl 0 rfl s0, look_row rfl 2 rfl s2, look_row rfl 4 rfl s4, trivial⟩ ?_
         refine t_f4 ?_
         refine t_cF hS ?_
         refine t_f4 ?_
         refine tc rfl (en_fn Try.call12 rfl) (tset_ok (n := m) (ks := ks) ((xs.getD i R3.d).y) ((xs.getD i R3.d).z)) ?_
         rintro _ _ ⟨rfl, rfl⟩
         refine t_f1 ?_
         refine t_f1 ?_
         refine t_f4 ?_
         refine t_f4 ?_
         refine t_f4 ?_
         exact d_closes ⟨look_row rfl 0 rfl s0, look_row rfl 2 rfl s2, look_row rfl 4 rfl s4, trivial⟩ 5 rfl rfl rfl hS (AgreeR.refl _) (t_sat (fun _ h => h) (hK () trivial))
        · -- 6
         rintro _ S hF hS D hp K hK
         try dsimp only at hF ⊢
         refine d_need (small := [(7, (.pointer (some ⟨p3, 0, none⟩)))]) ⟨look_b rfl rfl, trivial⟩ ?_
         refine tp rfl (lv_move rfl) ?_
         exact d_closes ⟨look_b rfl rfl, trivial⟩ 6 rfl rfl rfl hS (AgreeR.refl _) (t_sat (fun _ h => h) (hK () trivial))
        · -- 7
         rintro _ S hF hS D hp K hK
         try dsimp only at hF ⊢
         refine d_need (small := [(9, (.pointer (some ⟨b6, 0, none⟩)))]) ⟨look_b rfl rfl, trivial⟩ ?_
         refine tp rfl (lv_fieldAddr (o' := 1) Try.underlying41 rfl Try.sizeOf3 rfl rfl) ?_
         exact d_closes ⟨look_b rfl rfl, trivial⟩ 7 rfl rfl rfl hS (AgreeR.refl _) (t_sat (fun _ h => h) (hK () trivial))
        · -- 8
         rintro _ S hF hS D hp K hK
         try dsimp only at hF ⊢
         have s7 := hp 7 rfl
         refine d_need (small := [(53, (.pointer (some ⟨b6, 1, none⟩)))]) ⟨look_row rfl 7 rfl s7, trivial⟩ ?_
         refine tp rfl (lv_load Try.isAgg3 rfl (gives_blk (.head _) rfl)) ?_
         exact d_closes ⟨look_row rfl 7 rfl s7, trivial⟩ 8 rfl rfl rfl hS (AgreeR.refl _) (t_sat (fun _ h => h) (hK () trivial))
        · -- 9
         rintro _ S hF hS D hp K hK
         try dsimp only at hF ⊢
         refine d_need (small := [(9, (.pointer (some ⟨b6, 0, none⟩)))]) ⟨look_b rfl rfl, trivial⟩ ?_
         refine tp rfl (lv_fieldAddr (o' := 2) Try.underlying41 rfl Try.sizeOf3 rfl rfl) ?_
         exact d_closes ⟨look_b rfl rfl, trivial⟩ 9 rfl rfl rfl hS (AgreeR.refl _) (t_sat (fun _ h => h) (hK () trivial))
        · -- 10
         rintro _ S hF hS D hp K hK
         try dsimp only at hF ⊢
         have s9 := hp 9 rfl
         refine d_need (small := [(55, (.pointer (some ⟨b6, 2, none⟩)))]) ⟨look_row rfl 9 rfl s9, trivial⟩ ?_
         refine tp rfl (lv_load Try.isAgg3 rfl (gives_blk (.head _) rfl)) ?_
         exact d_closes ⟨look_row rfl 9 rfl s9, trivial⟩ 10 rfl rfl rfl hS (AgreeR.refl _) (t_sat (fun _ h => h) (hK () trivial))
        · -- 11
         rintro _ S hF hS D hp K hK
         try dsimp only at hF ⊢
         have s6 := hp 6 rfl
         have s8 := hp 8 rfl
         have s10 := hp 10 rfl
         refine d_need (small := [(52, (.pointer (some ⟨p3, 0, none⟩))), (54, (.int .i64 ((xs.getD i R3.d).y))), (56, (.int .i64 ((xs.getD i R3.d).z)))]) ⟨look_row rfl 6 rfl s6, look_row rfl 8 rfl s8, look_row rfl 10 rfl s10, trivial⟩ ?_
         refine t_f2 ?_
         refine t_cF hS ?_
         refine t_f2 ?_
         refine tc rfl (en_fn Try.call12 rfl) (tset_ok (n := m) (ks := ks) ((xs.getD i R3.d).y) ((xs.getD i R3.d).z)) ?_
         rintro _ _ ⟨rfl, rfl⟩
         refine t_f1 ?_
         refine t_f1 ?_
         refine t_f2 ?_
         exact d_closes ⟨look_row rfl 6 rfl s6, look_row rfl 8 rfl s8, look_row rfl 10 rfl s10, trivial⟩ 11 rfl rfl rfl hS (AgreeR.refl _) (t_sat (fun _ h => h) (hK () trivial))
        · -- 12
         rintro _ S hF hS D hp K hK
         try dsimp only at hF ⊢
         have s5 := hp 5 rfl
         have s11 := hp 11 rfl
         refine d_need (small := [(51, (.int .i64 (pushE (remK ks ((xs.getD i R3.d).y)) ((xs.getD i R3.d).y)))), (57, (.int .i64 (pushE (remK ks ((xs.getD i R3.d).y)) ((xs.getD i R3.d).y))))]) ⟨look_row rfl 5 rfl s5, look_row rfl 11 rfl s11, trivial⟩ ?_
         refine tp rfl (lv_eql rfl rfl (beq_iff_eq.2 rfl)) ?_
         exact d_closes ⟨look_row rfl 5 rfl s5, look_row rfl 11 rfl s11, trivial⟩ 12 rfl rfl rfl hS (AgreeR.refl _) (t_sat (fun _ h => h) (hK () trivial))
        · -- 13
         rintro _ S hF hS D hp K hK
         try dsimp only at hF ⊢
         have s12 := hp 12 rfl
         refine d_need (small := [(58, (.bool true))]) ⟨look_row rfl 12 rfl s12, trivial⟩ ?_
         refine tp rfl (lv_assign rfl) ?_
         exact d_closes ⟨look_row rfl 12 rfl s12, trivial⟩ 13 rfl rfl rfl hS (AgreeR.refl _) (t_sat (fun _ h => h) (hK () trivial))
      · -- behind
        rintro _ hF
        try dsimp only at hF ⊢
        refine t_weak (E' := [(0, (.int .i64 ((m : Nat) : Int))), (1, (.slice bsb xs.length csb)), (5, (.bool true)), (6, (.pointer (some ⟨p1, 0, none⟩))), (7, (.pointer (some ⟨p3, 0, none⟩))), (8, (.int .i64 ((i : Nat) : Int))), (9, (.pointer (some ⟨b6, 0, none⟩))), (10, (.bool true)), (26, (.bool false)), (34, (.bool true)), (42, (.int .i64 ((xs.getD i R3.d).x))), (43, (.bool true))]) ⟨rfl, rfl, rfl, rfl, rfl, rfl, rfl, rfl, rfl, rfl, rfl, rfl, trivial⟩ ?_
        refine q_in_n ?_
        refine q_then_n ?_
        exact t_weak (by exact ⟨rfl, rfl, rfl, rfl, rfl, rfl, rfl, rfl, rfl, rfl, trivial⟩) (hM16 (pushK (remK ks ((xs.getD i R3.d).y)) ((xs.getD i R3.d).y) ((xs.getD i R3.d).z)) trivial)
    · -- no
      refine tp rfl (lv_eql rfl rfl (beq_eq_false_iff_ne.2 h7)) ?_
      refine tp rfl (lv_assign rfl) ?_
      refine t_done ?_
      refine q_then_n (hK19 _ _ ?_)
      refine c_false rfl ?_
      refine c_region ?_
      by_cases h8 : ((xs.getD i R3.d).x) = 2
      · -- yes
        refine tp rfl (lv_eql rfl rfl (beq_iff_eq.2 h8)) ?_
        refine tp rfl (lv_assign rfl) ?_
        refine t_done ?_
        refine q_then_n (hK18 _ _ ?_)
        refine c_true rfl ?_
        refine c_draw (γ := Unit) (n := 14) Try.mixed rfl rfl (fun _ S => True) (fun _ => [(0, 46, (.pointer (some ⟨p1, 0, none⟩))), (1, 47, (.pointer (some ⟨b6, 1, none⟩))), (2, 48, (.int .i64 ((xs.getD i R3.d).y))), (3, 49, (.pointer (some ⟨b6, 2, none⟩))), (4, 50, (.int .i64 ((xs.getD i R3.d).z))), (5, 51, (.int .i64 (pushE (remK ks ((xs.getD i R3.d).y)) ((xs.getD i R3.d).y)))), (6, 52, (.pointer (some ⟨p3, 0, none⟩))), (7, 53, (.pointer (some ⟨b6, 1, none⟩))), (8, 54, (.int .i64 ((xs.getD i R3.d).y))), (9, 55, (.pointer (some ⟨b6, 2, none⟩))), (10, 56, (.int .i64 ((xs.getD i R3.d).z))), (11, 57, (.int .i64 (pushE (remK ks ((xs.getD i R3.d).y)) ((xs.getD i R3.d).y)))), (12, 58, (.bool true)), (13, 10, (.bool true))]) (fun _ S => (Blk b6 [(.int .i64 ((xs.getD i R3.d).x)), (.int .i64 ((xs.getD i R3.d).y)), (.int .i64 ((xs.getD i R3.d).z))] 41) :: (Blk p3 [(.pointer (some ⟨q4, 0, none⟩))] 37) :: (bif S 11 then (HeapO q4 m (pushK (remK ks ((xs.getD i R3.d).y)) ((xs.getD i R3.d).y) ((xs.getD i R3.d).z))) else (HeapO q4 m ks)) :: (Blk p1 [(.pointer (some ⟨q2, 0, none⟩))] 37) :: (bif S 5 then (HeapO q2 m (pushK (remK ks ((xs.getD i R3.d).y)) ((xs.getD i R3.d).y) ((xs.getD i R3.d).z))) else (HeapO q2 m ks)) :: R) (()) trivial (fun _ h => h) (fun _ _ h => h) ?_ ?_
        · -- steps
         refine ⟨?_, ?_, ?_, ?_, ?_, ?_, ?_, ?_, ?_, ?_, ?_, ?_, ?_, ?_, trivial⟩
         · -- 0
          rintro _ S hF hS D hp K hK
          try dsimp only at hF ⊢
          refine d_need (small := [(6, (.pointer (some ⟨p1, 0, none⟩)))]) ⟨look_b rfl rfl, trivial⟩ ?_
          refine tp rfl (lv_move rfl) ?_
          exact d_closes ⟨look_b rfl rfl, trivial⟩ 0 rfl rfl rfl hS (AgreeR.refl _) (t_sat (fun _ h => h) (hK () trivial))
         · -- 1
          rintro _ S hF hS D hp K hK
          try dsimp only at hF ⊢
          refine d_need (small := [(9, (.pointer (some ⟨b6, 0, none⟩)))]) ⟨look_b rfl rfl, trivial⟩ ?_
          refine tp rfl (lv_fieldAddr (o' := 1) Try.underlying41 rfl Try.sizeOf3 rfl rfl) ?_
          exact d_closes ⟨look_b rfl rfl, trivial⟩ 1 rfl rfl rfl hS (AgreeR.refl _) (t_sat (fun _ h => h) (hK () trivial))
         · -- 2
          rintro _ S hF hS D hp K hK
          try dsimp only at hF ⊢
          have s1 := hp 1 rfl
          refine d_need (small := [(47, (.pointer (some ⟨b6, 1, none⟩)))]) ⟨look_row rfl 1 rfl s1, trivial⟩ ?_
          refine tp rfl (lv_load Try.isAgg3 rfl (gives_blk (.head _) rfl)) ?_
          exact d_closes ⟨look_row rfl 1 rfl s1, trivial⟩ 2 rfl rfl rfl hS (AgreeR.refl _) (t_sat (fun _ h => h) (hK () trivial))
         · -- 3
          rintro _ S hF hS D hp K hK
          try dsimp only at hF ⊢
          refine d_need (small := [(9, (.pointer (some ⟨b6, 0, none⟩)))]) ⟨look_b rfl rfl, trivial⟩ ?_
          refine tp rfl (lv_fieldAddr (o' := 2) Try.underlying41 rfl Try.sizeOf3 rfl rfl) ?_
          exact d_closes ⟨look_b rfl rfl, trivial⟩ 3 rfl rfl rfl hS (AgreeR.refl _) (t_sat (fun _ h => h) (hK () trivial))
         · -- 4
          rintro _ S hF hS D hp K hK
          try dsimp only at hF ⊢
          have s3 := hp 3 rfl
          refine d_need (small := [(49, (.pointer (some ⟨b6, 2, none⟩)))]) ⟨look_row rfl 3 rfl s3, trivial⟩ ?_
          refine tp rfl (lv_load Try.isAgg3 rfl (gives_blk (.head _) rfl)) ?_
          exact d_closes ⟨look_row rfl 3 rfl s3, trivial⟩ 4 rfl rfl rfl hS (AgreeR.refl _) (t_sat (fun _ h => h) (hK () trivial))
         · -- 5
          rintro _ S hF hS D hp K hK
          try dsimp only at hF ⊢
          have s0 := hp 0 rfl
          have s2 := hp 2 rfl
          have s4 := hp 4 rfl
          refine d_need (small := [(46, (.pointer (some ⟨p1, 0, none⟩))), (48, (.int .i64 ((xs.getD i R3.d).y))), (50, (.int .i64 ((xs.getD i R3.d).z)))]) ⟨look_row rfl 0 rfl s0, look_row rfl 2 rfl s2, look_row rfl 4 rfl s4, trivial⟩ ?_
          refine t_f4 ?_
          refine t_cF hS ?_
          refine t_f4 ?_
          refine tc rfl (en_fn Try.call12 rfl) (tset_ok (n := m) (ks := ks) ((xs.getD i R3.d).y) ((xs.getD i R3.d).z)) ?_
          rintro _ _ ⟨rfl, rfl⟩
          refine t_f1 ?_
          refine t_f1 ?_
          refine t_f4 ?_
          refine t_f4 ?_
          refine t_f4 ?_
          exact d_closes ⟨look_row rfl 0 rfl s0, look_row rfl 2 rfl s2, look_row rfl 4 rfl s4, trivial⟩ 5 rfl rfl rfl hS (AgreeR.refl _) (t_sat (fun _ h => h) (hK () trivial))
         · -- 6
          rintro _ S hF hS D hp K hK
          try dsimp only at hF ⊢
          refine d_need (small := [(7, (.pointer (some ⟨p3, 0, none⟩)))]) ⟨look_b rfl rfl, trivial⟩ ?_
          refine tp rfl (lv_move rfl) ?_
          exact d_closes ⟨look_b rfl rfl, trivial⟩ 6 rfl rfl rfl hS (AgreeR.refl _) (t_sat (fun _ h => h) (hK () trivial))
         · -- 7
          rintro _ S hF hS D hp K hK
          try dsimp only at hF ⊢
          refine d_need (small := [(9, (.pointer (some ⟨b6, 0, none⟩)))]) ⟨look_b rfl rfl, trivial⟩ ?_
          refine tp rfl (lv_fieldAddr (o' := 1) Try.underlying41 rfl Try.sizeOf3 rfl rfl) ?_
          exact d_closes ⟨look_b rfl rfl, trivial⟩ 7 rfl rfl rfl hS (AgreeR.refl _) (t_sat (fun _ h => h) (hK () trivial))
         · -- 8
          rintro _ S hF hS D hp K hK
          try dsimp only at hF ⊢
          have s7 := hp 7 rfl
          refine d_need (small := [(53, (.pointer (some ⟨b6, 1, none⟩)))]) ⟨look_row rfl 7 rfl s7, trivial⟩ ?_
          refine tp rfl (lv_load Try.isAgg3 rfl (gives_blk (.head _) rfl)) ?_
          exact d_closes ⟨look_row rfl 7 rfl s7, trivial⟩ 8 rfl rfl rfl hS (AgreeR.refl _) (t_sat (fun _ h => h) (hK () trivial))
         · -- 9
          rintro _ S hF hS D hp K hK
          try dsimp only at hF ⊢
          refine d_need (small := [(9, (.pointer (some ⟨b6, 0, none⟩)))]) ⟨look_b rfl rfl, trivial⟩ ?_
          refine tp rfl (lv_fieldAddr (o' := 2) Try.underlying41 rfl Try.sizeOf3 rfl rfl) ?_
          exact d_closes ⟨look_b rfl rfl, trivial⟩ 9 rfl rfl rfl hS (AgreeR.refl _) (t_sat (fun _ h => h) (hK () trivial))
         · -- 10
          rintro _ S hF hS D hp K hK
          try dsimp only at hF ⊢
          have s9 := hp 9 rfl
          refine d_need (small := [(55, (.pointer (some ⟨b6, 2, none⟩)))]) ⟨look_row rfl 9 rfl s9, trivial⟩ ?_
          refine tp rfl (lv_load Try.isAgg3 rfl (gives_blk (.head _) rfl)) ?_
          exact d_closes ⟨look_row rfl 9 rfl s9, trivial⟩ 10 rfl rfl rfl hS (AgreeR.refl _) (t_sat (fun _ h => h) (hK () trivial))
         · -- 11
          rintro _ S hF hS D hp K hK
          try dsimp only at hF ⊢
          have s6 := hp 6 rfl
          have s8 := hp 8 rfl
          have s10 := hp 10 rfl
          refine d_need (small := [(52, (.pointer (some ⟨p3, 0, none⟩))), (54, (.int .i64 ((xs.getD i R3.d).y))), (56, (.int .i64 ((xs.getD i R3.d).z)))]) ⟨look_row rfl 6 rfl s6, look_row rfl 8 rfl s8, look_row rfl 10 rfl s10, trivial⟩ ?_
          refine t_f2 ?_
          refine t_cF hS ?_
          refine t_f2 ?_
          refine tc rfl (en_fn Try.call12 rfl) (tset_ok (n := m) (ks := ks) ((xs.getD i R3.d).y) ((xs.getD i R3.d).z)) ?_
          rintro _ _ ⟨rfl, rfl⟩
          refine t_f1 ?_
          refine t_f1 ?_
          refine t_f2 ?_
          exact d_closes ⟨look_row rfl 6 rfl s6, look_row rfl 8 rfl s8, look_row rfl 10 rfl s10, trivial⟩ 11 rfl rfl rfl hS (AgreeR.refl _) (t_sat (fun _ h => h) (hK () trivial))
         · -- 12
          rintro _ S hF hS D hp K hK
          try dsimp only at hF ⊢
          have s5 := hp 5 rfl
          have s11 := hp 11 rfl
          refine d_need (small := [(51, (.int .i64 (pushE (remK ks ((xs.getD i R3.d).y)) ((xs.getD i R3.d).y)))), (57, (.int .i64 (pushE (remK ks ((xs.getD i R3.d).y)) ((xs.getD i R3.d).y))))]) ⟨look_row rfl 5 rfl s5, look_row rfl 11 rfl s11, trivial⟩ ?_
          refine tp rfl (lv_eql rfl rfl (beq_iff_eq.2 rfl)) ?_
          exact d_closes ⟨look_row rfl 5 rfl s5, look_row rfl 11 rfl s11, trivial⟩ 12 rfl rfl rfl hS (AgreeR.refl _) (t_sat (fun _ h => h) (hK () trivial))
         · -- 13
          rintro _ S hF hS D hp K hK
          try dsimp only at hF ⊢
          have s12 := hp 12 rfl
          refine d_need (small := [(58, (.bool true))]) ⟨look_row rfl 12 rfl s12, trivial⟩ ?_
          refine tp rfl (lv_assign rfl) ?_
          exact d_closes ⟨look_row rfl 12 rfl s12, trivial⟩ 13 rfl rfl rfl hS (AgreeR.refl _) (t_sat (fun _ h => h) (hK () trivial))
        · -- behind
         rintro _ hF
         try dsimp only at hF ⊢
         refine t_weak (E' := [(0, (.int .i64 ((m : Nat) : Int))), (1, (.slice bsb xs.length csb)), (5, (.bool true)), (6, (.pointer (some ⟨p1, 0, none⟩))), (7, (.pointer (some ⟨p3, 0, none⟩))), (8, (.int .i64 ((i : Nat) : Int))), (9, (.pointer (some ⟨b6, 0, none⟩))), (10, (.bool true)), (26, (.bool false)), (34, (.bool true)), (42, (.int .i64 ((xs.getD i R3.d).x))), (43, (.bool true))]) ⟨rfl, rfl, rfl, rfl, rfl, rfl, rfl, rfl, rfl, rfl, rfl, rfl, trivial⟩ ?_
         refine q_in_n ?_
         refine q_then_n ?_
         exact t_weak (by exact ⟨rfl, rfl, rfl, rfl, rfl, rfl, rfl, rfl, rfl, rfl, trivial⟩) (hM16 (pushK (remK ks ((xs.getD i R3.d).y)) ((xs.getD i R3.d).y) ((xs.getD i R3.d).z)) trivial)
      · -- no
        refine tp rfl (lv_eql rfl rfl (beq_eq_false_iff_ne.2 h8)) ?_
        refine tp rfl (lv_assign rfl) ?_
        refine t_done ?_
        refine q_then_n (hK18 _ _ ?_)
        refine c_false rfl ?_
        refine c_seq (fun K20 hK20 => ?_)
        refine c_region ?_
        by_cases h9 : ((xs.getD i R3.d).x) = 3
        · -- yes
         refine tp rfl (lv_eql rfl rfl (beq_iff_eq.2 h9)) ?_
         refine tp rfl (lv_assign rfl) ?_
         refine t_done ?_
         refine q_then_n (hK20 _ _ ?_)
         refine c_true rfl ?_
         refine c_draw (γ := Unit) (n := 10) Try.mixed rfl rfl (fun _ S => True) (fun _ => [(0, 61, (.pointer (some ⟨p1, 0, none⟩))), (1, 62, (.pointer (some ⟨b6, 1, none⟩))), (2, 63, (.int .i64 ((xs.getD i R3.d).y))), (3, 64, (.bool (stopB ks ((xs.getD i R3.d).y)))), (4, 65, (.pointer (some ⟨p3, 0, none⟩))), (5, 66, (.pointer (some ⟨b6, 1, none⟩))), (6, 67, (.int .i64 ((xs.getD i R3.d).y))), (7, 68, (.bool (stopB ks ((xs.getD i R3.d).y)))), (8, 69, (.bool true)), (9, 10, (.bool true))]) (fun _ S => (Blk b6 [(.int .i64 ((xs.getD i R3.d).x)), (.int .i64 ((xs.getD i R3.d).y)), (.int .i64 ((xs.getD i R3.d).z))] 41) :: (Blk p3 [(.pointer (some ⟨q4, 0, none⟩))] 37) :: (bif S 7 then (HeapO q4 m (remK ks ((xs.getD i R3.d).y))) else (HeapO q4 m ks)) :: (Blk p1 [(.pointer (some ⟨q2, 0, none⟩))] 37) :: (bif S 3 then (HeapO q2 m (remK ks ((xs.getD i R3.d).y))) else (HeapO q2 m ks)) :: R) (()) trivial (fun _ h => h) (fun _ _ h => h) ?_ ?_
         · -- steps
          refine ⟨?_, ?_, ?_, ?_, ?_, ?_, ?_, ?_, ?_, ?_, trivial⟩
          · -- 0
           rintro _ S hF hS D hp K hK
           try dsimp only at hF ⊢
           refine d_need (small := [(6, (.pointer (some ⟨p1, 0, none⟩)))]) ⟨look_b rfl rfl, trivial⟩ ?_
           refine tp rfl (lv_move rfl) ?_
           exact d_closes ⟨look_b rfl rfl, trivial⟩ 0 rfl rfl rfl hS (AgreeR.refl _) (t_sat (fun _ h => h) (hK () trivial))
          · -- 1
           rintro _ S hF hS D hp K hK
           try dsimp only at hF ⊢
           refine d_need (small := [(9, (.pointer (some ⟨b6, 0, none⟩)))]) ⟨look_b rfl rfl, trivial⟩ ?_
           refine tp rfl (lv_fieldAddr (o' := 1) Try.underlying41 rfl Try.sizeOf3 rfl rfl) ?_
           exact d_closes ⟨look_b rfl rfl, trivial⟩ 1 rfl rfl rfl hS (AgreeR.refl _) (t_sat (fun _ h => h) (hK () trivial))
          · -- 2
           rintro _ S hF hS D hp K hK
           try dsimp only at hF ⊢
           have s1 := hp 1 rfl
           refine d_need (small := [(62, (.pointer (some ⟨b6, 1, none⟩)))]) ⟨look_row rfl 1 rfl s1, trivial⟩ ?_
           refine tp rfl (lv_load Try.isAgg3 rfl (gives_blk (.head _) rfl)) ?_
           exact d_closes ⟨look_row rfl 1 rfl s1, trivial⟩ 2 rfl rfl rfl hS (AgreeR.refl _) (t_sat (fun _ h => h) (hK () trivial))
          · -- 3
           rintro _ S hF hS D hp K hK
           try dsimp only at hF ⊢
           have s0 := hp 0 rfl
           have s2 := hp 2 rfl
           refine d_need (small := [(61, (.pointer (some ⟨p1, 0, none⟩))), (63, (.int .i64 ((xs.getD i R3.d).y)))]) ⟨look_row rfl 0 rfl s0, look_row rfl 2 rfl s2, trivial⟩ ?_
           refine t_f4 ?_
           refine t_cF hS ?_
           refine t_f4 ?_
           refine tc rfl (en_fn Try.call13 rfl) (tstop_ok (n := m) (ks := ks) ((xs.getD i R3.d).y)) ?_
           rintro _ _ ⟨rfl, rfl⟩
           refine t_f1 ?_
           refine t_f1 ?_
           refine t_f4 ?_
           refine t_f4 ?_
           refine t_f4 ?_
           exact d_closes ⟨look_row rfl 0 rfl s0, look_row rfl 2 rfl s2, trivial⟩ 3 rfl rfl rfl hS (AgreeR.refl _) (t_sat (fun _ h => h) (hK () trivial))
          · -- 4
           rintro _ S hF hS D hp K hK
           try dsimp only at hF ⊢
           refine d_need (small := [(7, (.pointer (some ⟨p3, 0, none⟩)))]) ⟨look_b rfl rfl, trivial⟩ ?_
           refine tp rfl (lv_move rfl) ?_
           exact d_closes ⟨look_b rfl rfl, trivial⟩ 4 rfl rfl rfl hS (AgreeR.refl _) (t_sat (fun _ h => h) (hK () trivial))
          · -- 5
           rintro _ S hF hS D hp K hK
           try dsimp only at hF ⊢
           refine d_need (small := [(9, (.pointer (some ⟨b6, 0, none⟩)))]) ⟨look_b rfl rfl, trivial⟩ ?_
           refine tp rfl (lv_fieldAddr (o' := 1) Try.underlying41 rfl Try.sizeOf3 rfl rfl) ?_
           exact d_closes ⟨look_b rfl rfl, trivial⟩ 5 rfl rfl rfl hS (AgreeR.refl _) (t_sat (fun _ h => h) (hK () trivial))
          · -- 6
           rintro _ S hF hS D hp K hK
           try dsimp only at hF ⊢
           have s5 := hp 5 rfl
           refine d_need (small := [(66, (.pointer (some ⟨b6, 1, none⟩)))]) ⟨look_row rfl 5 rfl s5, trivial⟩ ?_
           refine tp rfl (lv_load Try.isAgg3 rfl (gives_blk (.head _) rfl)) ?_
           exact d_closes ⟨look_row rfl 5 rfl s5, trivial⟩ 6 rfl rfl rfl hS (AgreeR.refl _) (t_sat (fun _ h => h) (hK () trivial))
          · -- 7
           rintro _ S hF hS D hp K hK
           try dsimp only at hF ⊢
           have s4 := hp 4 rfl
           have s6 := hp 6 rfl
           refine d_need (small := [(65, (.pointer (some ⟨p3, 0, none⟩))), (67, (.int .i64 ((xs.getD i R3.d).y)))]) ⟨look_row rfl 4 rfl s4, look_row rfl 6 rfl s6, trivial⟩ ?_
           refine t_f2 ?_
           refine t_cF hS ?_
           refine t_f2 ?_
           refine tc rfl (en_fn Try.call13 rfl) (tstop_ok (n := m) (ks := ks) ((xs.getD i R3.d).y)) ?_
           rintro _ _ ⟨rfl, rfl⟩
           refine t_f1 ?_
           refine t_f1 ?_
           refine t_f2 ?_
           exact d_closes ⟨look_row rfl 4 rfl s4, look_row rfl 6 rfl s6, trivial⟩ 7 rfl rfl rfl hS (AgreeR.refl _) (t_sat (fun _ h => h) (hK () trivial))
          · -- 8
           rintro _ S hF hS D hp K hK
           try dsimp only at hF ⊢
           have s3 := hp 3 rfl
           have s7 := hp 7 rfl
           refine d_need (small := [(64, (.bool (stopB ks ((xs.getD i R3.d).y)))), (68, (.bool (stopB ks ((xs.getD i R3.d).y))))]) ⟨look_row rfl 3 rfl s3, look_row rfl 7 rfl s7, trivial⟩ ?_
           refine tp rfl (lv_eqb Try.underlying4 rfl rfl (beq_self_eq_true _)) ?_
           exact d_closes ⟨look_row rfl 3 rfl s3, look_row rfl 7 rfl s7, trivial⟩ 8 rfl rfl rfl hS (AgreeR.refl _) (t_sat (fun _ h => h) (hK () trivial))
          · -- 9
           rintro _ S hF hS D hp K hK
           try dsimp only at hF ⊢
           have s8 := hp 8 rfl
           refine d_need (small := [(69, (.bool true))]) ⟨look_row rfl 8 rfl s8, trivial⟩ ?_
           refine tp rfl (lv_assign rfl) ?_
           exact d_closes ⟨look_row rfl 8 rfl s8, trivial⟩ 9 rfl rfl rfl hS (AgreeR.refl _) (t_sat (fun _ h => h) (hK () trivial))
         · -- behind
          rintro _ hF
          try dsimp only at hF ⊢
          refine t_weak (E' := [(0, (.int .i64 ((m : Nat) : Int))), (1, (.slice bsb xs.length csb)), (5, (.bool true)), (6, (.pointer (some ⟨p1, 0, none⟩))), (7, (.pointer (some ⟨p3, 0, none⟩))), (8, (.int .i64 ((i : Nat) : Int))), (9, (.pointer (some ⟨b6, 0, none⟩))), (10, (.bool true)), (26, (.bool false)), (34, (.bool true)), (42, (.int .i64 ((xs.getD i R3.d).x))), (43, (.bool false)), (59, (.bool true))]) ⟨rfl, rfl, rfl, rfl, rfl, rfl, rfl, rfl, rfl, rfl, rfl, rfl, rfl, trivial⟩ ?_
          refine q_in_n ?_
          refine q_then_n ?_
          exact t_weak (by exact ⟨rfl, rfl, rfl, rfl, rfl, rfl, rfl, rfl, rfl, rfl, trivial⟩) (hM16 (remK ks ((xs.getD i R3.d).y)) trivial)
        · -- no
         refine tp rfl (lv_eql rfl rfl (beq_eq_false_iff_ne.2 h9)) ?_
         refine tp rfl (lv_assign rfl) ?_
         refine t_done ?_
         refine q_then_n (hK20 _ _ ?_)
         refine c_false rfl ?_
         refine c_seq (fun K21 hK21 => ?_)
         refine c_region ?_
         by_cases h10 : ((xs.getD i R3.d).x) = 4
         · -- yes
          refine tp rfl (lv_eql rfl rfl (beq_iff_eq.2 h10)) ?_
          refine tp rfl (lv_assign rfl) ?_
          refine t_done ?_
          refine q_then_n (hK21 _ _ ?_)
          refine c_true rfl ?_
          refine c_seq (fun K22 hK22 => ?_)
          refine c_region ?_
          refine t_f2 ?_
          refine t_learn (fun _ h => hfacts_of h) (fun hhf => ?_)
          obtain ⟨hln, hbig, hcn⟩ := hhf
          have hdc := due_cnt ks (xs.getD i R3.d).z
          refine tp rfl (lv_move rfl) ?_
          refine tp rfl (lv_fieldAddr (o' := 2) Try.underlying41 rfl Try.sizeOf3 rfl rfl) ?_
          refine tp rfl (lv_load Try.isAgg3 rfl (gives_blk (.tail _ (.head _)) rfl)) ?_
          refine t_f4 ?_
          refine t_f4 ?_
          refine tc rfl (en_fn Try.call14 rfl) (tdue_ok (n := m) (ks := ks) ((xs.getD i R3.d).z)) ?_
          rintro _ _ ⟨bs11, cp12, hok13, hle14, rfl, rfl⟩
          refine tp rfl (lv_assign rfl) ?_
          refine t_done ?_
          refine q_then_n (hK22 _ _ ?_)
          refine c_seq (fun K23 hK23 => ?_)
          refine c_region ?_
          refine tp rfl (lv_move rfl) ?_
          refine tp rfl (lv_move rfl) ?_
          refine tp rfl (lv_fieldAddr (o' := 2) Try.underlying41 rfl Try.sizeOf3 rfl rfl) ?_
          refine tp rfl (lv_load Try.isAgg3 rfl (gives_blk (.tail _ (.tail _ (.tail _ (.tail _ (.head _))))) rfl)) ?_
          refine t_f3 ?_
          refine t_f5 ?_
          refine tc rfl (en_fn Try.call14 rfl) (tdue_ok (n := m) (ks := ks) ((xs.getD i R3.d).z)) ?_
          rintro _ _ ⟨bs15, cp16, hok17, hle18, rfl, rfl⟩
          refine tc rfl (en_fn Try.call17 rfl) (ints_ok (dueL ks ((xs.getD i R3.d).z)) (dueL ks ((xs.getD i R3.d).z)) (rd_sl (.tail _ (.tail _ (.tail _ (.head _))))) (rd_sl (.head _)) hok13 hok17 (by first | omega | (simp; omega) | (simp; done)) (by first | omega | (simp; omega) | (simp; done))) ?_
          rintro _ _ ⟨rfl, rfl⟩
          rw [eqI_refl]
          refine tp rfl (lv_assign rfl) ?_
          refine t_done ?_
          refine q_then_n (hK23 _ _ ?_)
          refine c_seq (fun K24 hK24 => ?_)
          refine c_region ?_
          refine tp rfl (lv_assign rfl) ?_
          refine t_done ?_
          refine q_then_n (hK24 _ _ ?_)
          refine c_block ?_
          refine t_drop ?_
          refine c_loop (γ := (Nat) × (List Int)) (fun (k, l) => k ≤ (dueL ks ((xs.getD i R3.d).z)).length ∧ l.length = (dueL ks ((xs.getD i R3.d).z)).length) (fun (k, l) => [(0, (.int .i64 ((m : Nat) : Int))), (1, (.slice bsb xs.length csb)), (5, (.bool true)), (6, (.pointer (some ⟨p1, 0, none⟩))), (7, (.pointer (some ⟨p3, 0, none⟩))), (8, (.int .i64 ((i : Nat) : Int))), (9, (.pointer (some ⟨b6, 0, none⟩))), (10, (.bool true)), (11, (.slice bs11 ((dueL ks ((xs.getD i R3.d).z)).length) cp12)), (12, (.int .i64 ((k : Nat) : Int))), (26, (.bool false)), (34, (.bool true)), (42, (.int .i64 ((xs.getD i R3.d).x))), (43, (.bool false)), (59, (.bool false)), (70, (.bool true))]) (fun (k, l) => (Blk p3 [(.pointer (some ⟨q4, 0, none⟩))] 37) :: (HeapO q4 m (duR ks ((xs.getD i R3.d).z))) :: (SlV 3 1 (.slice bs11 ((dueL ks ((xs.getD i R3.d).z)).length) cp12) ((dueL ks ((xs.getD i R3.d).z)).length) (ints .i64 l)) :: (Blk p1 [(.pointer (some ⟨q2, 0, none⟩))] 37) :: (HeapO q2 m (duR ks ((xs.getD i R3.d).z))) :: (Blk b6 [(.int .i64 ((xs.getD i R3.d).x)), (.int .i64 ((xs.getD i R3.d).y)), (.int .i64 ((xs.getD i R3.d).z))] 41) :: R) (fun (k, l) => (dueL ks ((xs.getD i R3.d).z)).length - k) (0, dueL ks ((xs.getD i R3.d).z)) ⟨by omega, rfl⟩ ⟨rfl, rfl, rfl, rfl, rfl, rfl, rfl, rfl, rfl, rfl, rfl, rfl, rfl, rfl, rfl, rfl, trivial⟩ (fun _ h => h) ?_
          rintro ⟨k, l⟩ K25 hF hK25
          try dsimp only at hF hK25 ⊢
          obtain ⟨hk, hl⟩ := hF
          refine c_seq (fun K26 hK26 => ?_)
          refine c_seq (fun K27 hK27 => ?_)
          refine c_region ?_
          refine tp rfl (lv_move rfl) ?_
          refine tp rfl (lv_move rfl) ?_
          refine tp rfl (lv_len Try.underlying30 rfl rfl) ?_
          by_cases h19 : ((k : Nat) : Int) < (((dueL ks ((xs.getD i R3.d).z)).length : Nat) : Int)
          · -- yes
           refine tp rfl (lv_lss rfl rfl (decide_eq_true h19)) ?_
           refine t_done ?_
           refine q_then_n (hK27 _ _ ?_)
           refine c_true rfl ?_
           refine c_skip ?_
           refine q_then_n (hK26 _ _ ?_)
           refine c_seq (fun K28 hK28 => ?_)
           refine c_block ?_
           refine c_region ?_
           refine tp rfl (lv_move rfl) ?_
           refine tp rfl (lv_move rfl) ?_
           refine tp rfl (lv_indexAddr (k' := k) Try.underlying30 Try.sizeOf3 rfl rfl hok13 (by omega) (by omega) (by omega)) ?_
           refine t_f2 ?_
           refine ts (sv_sl Try.sizeOf3 rfl rfl rfl (by rw [ints_length]; omega) ints_set) ?_
           refine t_done ?_
           refine q_in_n ?_
           refine q_then_n (hK28 _ _ ?_)
           refine c_region ?_
           refine tp rfl (lv_move rfl) ?_
           refine tp rfl (lv_add (c := ((k + 1 : Nat) : Int)) rfl rfl (wr_i64_succ (by omega))) ?_
           refine tp rfl (lv_assign rfl) ?_
           refine t_done ?_
           refine q_then_n ?_
           refine t_f2 ?_
           refine t_f2 ?_
           exact t_weak (by exact ⟨rfl, rfl, rfl, rfl, rfl, rfl, rfl, rfl, rfl, rfl, rfl, rfl, rfl, rfl, rfl, rfl, trivial⟩) ((hK25 (k + 1, l.set k 99) ⟨by omega, by dsimp only; rw [List.length_set]; exact hl⟩ (by dsimp only; omega)))
          · -- no
           refine tp rfl (lv_lss rfl rfl (decide_eq_false h19)) ?_
           refine t_done ?_
           refine q_then_n (hK27 _ _ ?_)
           refine c_false rfl ?_
           refine c_exit ?_
           refine q_then_x ?_
           refine q_then_x ?_
           refine q_in_x ?_
           refine q_in_n ?_
           refine q_then_n ?_
           refine t_f2 ?_
           refine t_drop ?_
           refine t_f3 ?_
           refine t_f3 ?_
           refine t_f3 ?_
           refine t_f3 ?_
           refine t_f4 ?_
           exact t_weak (by exact ⟨rfl, rfl, rfl, rfl, rfl, rfl, rfl, rfl, rfl, rfl, trivial⟩) (hM16 (duR ks ((xs.getD i R3.d).z)) trivial)
         · -- no
          refine tp rfl (lv_eql rfl rfl (beq_eq_false_iff_ne.2 h10)) ?_
          refine tp rfl (lv_assign rfl) ?_
          refine t_done ?_
          refine q_then_n (hK21 _ _ ?_)
          refine c_false rfl ?_
          refine c_skip ?_
          refine q_in_n ?_
          refine q_then_n ?_
          exact t_weak (by exact ⟨rfl, rfl, rfl, rfl, rfl, rfl, rfl, rfl, rfl, rfl, trivial⟩) (hM16 ks trivial)
  · -- not both
    refine t_cut0 (E' := [(0, (.int .i64 ((m : Nat) : Int))), (1, (.slice bsb xs.length csb)), (5, (.bool true)), (6, (.pointer (some ⟨p1, 0, none⟩))), (7, (.pointer (some ⟨p3, 0, none⟩))), (8, (.int .i64 ((i : Nat) : Int))), (26, (.bool false)), (34, (.bool false))]) ?_ (fun KK hKK => ?_)
    ·
      refine q_then_n (hK12 _ _ ?_)
      refine c_false rfl ?_
      refine c_exit ?_
      refine q_then_x ?_
      refine q_then_x ?_
      refine q_in_x ?_
      refine q_then_n (hK8 _ _ ?_)
      refine c_seq (fun K13 hK13 => ?_)
      refine c_region ?_
      refine tp rfl (lv_move rfl) ?_
      refine tp rfl (lv_assign rfl) ?_
      refine t_done ?_
      refine q_then_n (hK13 _ _ ?_)
      refine c_ret ?_
      refine t_drop ?_
      refine t_drop ?_
      refine t_drop ?_
      refine t_drop ?_
      refine q_ret rfl rfl ?_
      exact ⟨rfl, rfl⟩
    · -- which
      by_cases hc5A : ((i : Nat) : Int) < ((xs.length : Nat) : Int)
      ·
        have hc5B : ¬ (((i : Nat) : Int) < 100) := fun hh => hc5 ⟨hc5A, hh⟩
        refine tp rfl (lv_move rfl) ?_
        refine tp rfl (lv_move rfl) ?_
        refine tp rfl (lv_len Try.underlying39 rfl rfl) ?_
        refine tp rfl (lv_lss rfl rfl (decide_eq_true hc5A)) ?_
        refine tp rfl (lv_move rfl) ?_
        refine t_guard rfl rfl ?_
        refine tp rfl (lv_move rfl) ?_
        refine t_guard rfl rfl ?_
        refine tp rfl (lv_lss rfl rfl (decide_eq_false hc5B)) ?_
        refine tp rfl (lv_pick_t rfl rfl) ?_
        exact t_done (t_weak (by exact ⟨rfl, rfl, rfl, rfl, rfl, rfl, rfl, rfl, trivial⟩) hKK)
      ·
        refine tp rfl (lv_move rfl) ?_
        refine tp rfl (lv_move rfl) ?_
        refine tp rfl (lv_len Try.underlying39 rfl rfl) ?_
        refine tp rfl (lv_lss rfl rfl (decide_eq_false hc5A)) ?_
        refine tp rfl (lv_move rfl) ?_
        refine t_skip rfl rfl rfl ?_
        refine t_skip rfl rfl rfl ?_
        refine tp rfl (lv_pick_f rfl rfl) ?_
        exact t_done (t_weak (by exact ⟨rfl, rfl, rfl, rfl, rfl, rfl, rfl, rfl, trivial⟩) hKK)
end Go.Proofs.Ytombnfgkgcjihaa
