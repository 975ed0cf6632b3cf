/- HeapFirst: the law's walk. -/
import Derived.Test.YtchnphachgcjmaaLa
set_option maxRecDepth 100000
set_option linter.unusedVariables false
set_option linter.unusedSimpArgs false
namespace Go.Proofs.Ytchnphachgcjmaa
open Go Go.Proofs Sp
set_option maxHeartbeats 20000000 in
theorem first_law {R : List HP} (n : Int) {bsb : Option Addr} {csb : Nat} (xs : List R3) (hsb : Rd R bsb (recs triF xs)) (oksb : SlOk bsb xs.length) (lsb : xs.length ≤ 9223372036854775807) :
    Ok Try.prog 9 [(.int .i64 n), (.slice bsb xs.length csb)] R
      (fun v M => v = .bool true ∧ M = R) := by
  obtain ⟨m, hm⟩ : ∃ m : Nat, n % 65536 % 30 = (m : Int) := ⟨(n % 65536 % 30).toNat, by omega⟩
  have hm2 : m < 30 := by omega
  have hcm : hclamp ((m : Nat) : Int) = m := by unfold hclamp; omega
  refine ok_of (N := 177) Try.func9 rfl rfl rfl (fun W => ?_)
  refine c_seq (fun K1 hK1 => ?_)
  refine c_region ?_
  refine tp rfl (lv_assign rfl) ?_
  refine t_done ?_
  refine q_then_n (hK1 _ _ ?_)
  refine c_seq (fun K2 hK2 => ?_)
  refine c_region ?_
  refine tc rfl (en_fn Try.call11 rfl) (shown_ok) ?_
  rintro _ _ ⟨rfl, hMR⟩
  rw [hMR]; clear hMR
  refine tp rfl (lv_assign rfl) ?_
  refine t_done ?_
  refine q_then_n (hK2 _ _ ?_)
  refine c_seq (fun K3 hK3 => ?_)
  refine c_region ?_
  refine tp rfl (lv_move rfl) ?_
  refine tp rfl (lv_and (c := n % 65536) rfl rfl (and_pow 16 (by decide) n)) ?_
  refine tp rfl (lv_rem (c := ((m : Nat) : Int)) rfl rfl (by omega) ((Int.tmod_eq_emod_of_nonneg (by omega)).trans hm)) ?_
  refine tp rfl (lv_assign rfl) ?_
  refine t_done ?_
  refine q_then_n (hK3 _ _ ?_)
  refine c_seq (fun K4 hK4 => ?_)
  refine c_region ?_
  refine tp rfl (lv_move rfl) ?_
  refine tc rfl (en_fn Try.call12 rfl) (hnew_ok ((m : Nat) : Int)) ?_
  rintro _ _ ⟨p1, rfl, rfl⟩
  rw [show hclamp ((m : Nat) : Int) = m from hcm]
  refine tp rfl (lv_assign rfl) ?_
  refine t_done ?_
  refine q_then_n (hK4 _ _ ?_)
  refine c_seq (fun K5 hK5 => ?_)
  refine c_seq (fun K6 hK6 => ?_)
  refine c_region ?_
  refine tp rfl (lv_move rfl) ?_
  refine tp rfl (lv_eqnil Try.underlying25 rfl rfl) ?_
  refine t_done ?_
  refine q_then_n (hK6 _ _ ?_)
  refine c_false rfl ?_
  refine c_skip ?_
  refine q_then_n (hK5 _ _ ?_)
  refine c_seq (fun K7 hK7 => ?_)
  refine c_seq (fun K8 hK8 => ?_)
  refine c_region ?_
  refine tp rfl (lv_assign rfl) ?_
  refine t_done ?_
  refine q_then_n (hK8 _ _ ?_)
  refine c_block ?_
  refine c_loop (γ := (Nat) × (Ks)) (fun (i, ks) => i ≤ xs.length ∧ i ≤ 100) (fun (i, ks) => [(0, (.int .i64 ((m : Nat) : Int))), (1, (.slice bsb xs.length csb)), (5, (.bool true)), (6, (.pointer (some ⟨p1, 0, none⟩))), (7, (.int .i64 ((i : Nat) : Int))), (31, (.bool false))]) (fun (i, ks) => (HeapO p1 m ks) :: R) (fun (i, ks) => xs.length - i) (0, List.replicate (m) none) ⟨by omega, by omega⟩ ⟨rfl, rfl, rfl, rfl, rfl, rfl, trivial⟩ (fun _ h => h) ?_
  rintro ⟨i, ks⟩ K9 hF hK9
  try dsimp only at hF hK9 ⊢
  obtain ⟨hi, hi2⟩ := hF
  refine c_seq (fun K10 hK10 => ?_)
  refine c_seq (fun K11 hK11 => ?_)
  refine c_region ?_
  by_cases hc2 : ((i : Nat) : Int) < ((xs.length : Nat) : Int) ∧ ((i : Nat) : Int) < 100
  · -- both
    have hc2a := hc2.1
    have hc2b := hc2.2
    refine tp rfl (lv_move rfl) ?_
    refine tp rfl (lv_move rfl) ?_
    refine tp rfl (lv_len Try.underlying42 rfl rfl) ?_
    refine tp rfl (lv_lss rfl rfl (decide_eq_true hc2.1)) ?_
    refine tp rfl (lv_move rfl) ?_
    refine t_guard rfl rfl ?_
    refine tp rfl (lv_move rfl) ?_
    refine t_guard rfl rfl ?_
    refine tp rfl (lv_lss rfl rfl (decide_eq_true hc2.2)) ?_
    refine tp rfl (lv_pick_t rfl rfl) ?_
    refine t_done ?_
    refine q_then_n (hK11 _ _ ?_)
    refine c_true rfl ?_
    refine c_skip ?_
    refine q_then_n (hK10 _ _ ?_)
    refine c_seq (fun K12 hK12 => ?_)
    refine c_block ?_
    refine c_seq (fun K13 hK13 => ?_)
    refine c_region ?_
    refine tp rfl (lv_move rfl) ?_
    refine tp rfl (lv_move rfl) ?_
    refine tp rfl (lv_indexAddr (k' := i * 3) Try.underlying42 Try.sizeOf47 rfl rfl oksb (by omega) (by omega) (by omega)) ?_
    refine tp rfl (lv_loadAgg_ad (cs := [(.int .i64 ((xs.getD i R3.d).x)), (.int .i64 ((xs.getD i R3.d).y)), (.int .i64 ((xs.getD i R3.d).z))]) Try.isAgg47 Try.sizeOf47 rfl (gives_all3 (Rd.gives (Rd.cons hsb) ((recs_get (k := i) (j := 0) triF_len (d := R3.d) (by omega) (Nat.le_of_ble_eq_true rfl)).trans rfl)) (Rd.gives (Rd.cons hsb) ((recs_get (k := i) (j := 1) triF_len (d := R3.d) (by omega) (Nat.le_of_ble_eq_true rfl)).trans rfl)) (Rd.gives (Rd.cons hsb) ((recs_get (k := i) (j := 2) triF_len (d := R3.d) (by omega) (Nat.le_of_ble_eq_true rfl)).trans rfl)))) ?_
    refine tm rfl (mv_alloc Try.zeroValue47 rfl) ?_
    rintro _ _ ⟨b3, rfl, rfl⟩
    refine ts (sv_blkAgg (news := [(.int .i64 ((xs.getD i R3.d).x)), (.int .i64 ((xs.getD i R3.d).y)), (.int .i64 ((xs.getD i R3.d).z))]) Try.sizeOf47 rfl rfl rfl rfl (Nat.le_of_ble_eq_true rfl) rfl) ?_
    refine t_done ?_
    refine q_then_n (hK13 _ _ ?_)
    refine c_seq (fun K14 hK14 => ?_)
    have hM14 : ∀ (k2 : Ks), True → Tri K14 W 177 [(0, (.int .i64 ((m : Nat) : Int))), (1, (.slice bsb xs.length csb)), (5, (.bool true)), (6, (.pointer (some ⟨p1, 0, none⟩))), (7, (.int .i64 ((i : Nat) : Int))), (8, (.pointer (some ⟨b3, 0, none⟩))), (31, (.bool false)), (39, (.bool true))] ((Blk b3 [(.int .i64 ((xs.getD i R3.d).x)), (.int .i64 ((xs.getD i R3.d).y)), (.int .i64 ((xs.getD i R3.d).z))] 47) :: (HeapO p1 m k2) :: R) := by
      rintro k2 hF
      refine hK14 _ _ ?_
      refine c_seq (fun K15 hK15 => ?_)
      refine c_region ?_
      refine tp rfl (lv_move rfl) ?_
      refine t_f1 ?_
      refine tc rfl (en_fn Try.call19 rfl) (hfst_ok (n := m) (ks := k2) ) ?_
      rintro _ _ ⟨rfl, rfl⟩
      refine tp rfl (lv_move rfl) ?_
      refine tp rfl (lv_extract rfl rfl) ?_
      refine tp rfl (lv_extract rfl rfl) ?_
      refine tp rfl (lv_extract rfl rfl) ?_
      refine tp rfl (lv_assign rfl) ?_
      refine tp rfl (lv_assign rfl) ?_
      refine tp rfl (lv_assign rfl) ?_
      refine t_done ?_
      refine q_then_n (hK15 _ _ ?_)
      refine c_seq (fun K16 hK16 => ?_)
      refine c_region ?_
      refine tp rfl (lv_move rfl) ?_
      refine tc rfl (en_fn Try.call19 rfl) (hfst_ok (n := m) (ks := k2) ) ?_
      rintro _ _ ⟨rfl, rfl⟩
      refine tp rfl (lv_move rfl) ?_
      refine tp rfl (lv_extract rfl rfl) ?_
      refine tp rfl (lv_extract rfl rfl) ?_
      refine tp rfl (lv_extract rfl rfl) ?_
      refine tp rfl (lv_assign rfl) ?_
      refine tp rfl (lv_assign rfl) ?_
      refine tp rfl (lv_assign rfl) ?_
      refine t_done ?_
      refine q_then_n (hK16 _ _ ?_)
      refine c_seq (fun K17 hK17 => ?_)
      refine c_seq (fun K18 hK18 => ?_)
      refine c_region ?_
      refine tp rfl (lv_move rfl) ?_
      refine tp rfl (lv_move rfl) ?_
      refine tp rfl (lv_neq rfl rfl (bne_eq_false_iff_eq.2 rfl)) ?_
      refine tp rfl (lv_move rfl) ?_
      refine t_guard rfl rfl ?_
      refine tp rfl (lv_move rfl) ?_
      refine t_guard rfl rfl ?_
      refine tp rfl (lv_move rfl) ?_
      refine t_guard rfl rfl ?_
      refine tp rfl (lv_neq rfl rfl (bne_eq_false_iff_eq.2 rfl)) ?_
      refine tp rfl (lv_pick_f rfl rfl) ?_
      refine tp rfl (lv_move rfl) ?_
      refine t_guard rfl rfl ?_
      refine tp rfl (lv_move rfl) ?_
      refine t_guard rfl rfl ?_
      refine tp rfl (lv_move rfl) ?_
      refine t_guard rfl rfl ?_
      refine tp rfl (lv_neb Try.underlying4 rfl rfl (bne_self_eq_false _)) ?_
      refine tp rfl (lv_pick_f rfl rfl) ?_
      refine tp rfl (lv_move rfl) ?_
      refine t_guard rfl rfl ?_
      refine tp rfl (lv_move rfl) ?_
      refine t_guard rfl rfl ?_
      refine tp rfl (lv_move rfl) ?_
      refine t_guard rfl rfl ?_
      refine tc rfl (en_fn Try.call15 rfl) (hlen_ok (n := m) (ks := k2) ) ?_
      rintro _ _ ⟨rfl, rfl⟩
      refine t_guard rfl rfl ?_
      refine tp rfl (lv_gtr rfl rfl rfl) ?_
      refine t_guard rfl rfl ?_
      refine tp rfl (lv_neb Try.underlying4 rfl rfl (show (_ != _) = false from by rw [fst_cnt]; simp)) ?_
      refine tp rfl (lv_pick_f rfl rfl) ?_
      refine t_done ?_
      refine q_then_n (hK18 _ _ ?_)
      refine c_false rfl ?_
      refine c_skip ?_
      refine q_then_n (hK17 _ _ ?_)
      refine c_seq (fun K19 hK19 => ?_)
      refine c_region ?_
      refine tp rfl (lv_assign rfl) ?_
      refine t_done ?_
      refine q_then_n (hK19 _ _ ?_)
      refine c_block ?_
      refine c_loop (γ := (Nat)) (fun (x : Nat) => x ≤ m) (fun (x : Nat) => [(0, (.int .i64 ((m : Nat) : Int))), (1, (.slice bsb xs.length csb)), (5, (.bool true)), (6, (.pointer (some ⟨p1, 0, none⟩))), (7, (.int .i64 ((i : Nat) : Int))), (8, (.pointer (some ⟨b3, 0, none⟩))), (15, (.int .i64 (fstI k2))), (16, (.int .i64 (fstV k2))), (17, (.bool (fstB k2))), (18, (.int .i64 (fstI k2))), (19, (.int .i64 (fstV k2))), (20, (.bool (fstB k2))), (21, (.int .i64 ((x : Nat) : Int))), (31, (.bool false)), (39, (.bool true)), (137, (.bool false))]) (fun (x : Nat) => (HeapO p1 m k2) :: (Blk b3 [(.int .i64 ((xs.getD i R3.d).x)), (.int .i64 ((xs.getD i R3.d).y)), (.int .i64 ((xs.getD i R3.d).z))] 47) :: R) (fun (x : Nat) => m - x) (0) (by omega) ⟨rfl, rfl, rfl, rfl, rfl, rfl, rfl, rfl, rfl, rfl, rfl, rfl, rfl, rfl, rfl, rfl, trivial⟩ (fun _ h => h) ?_
      rintro x K20 hF hK20
      try dsimp only at hF hK20 ⊢
      refine c_seq (fun K21 hK21 => ?_)
      refine c_seq (fun K22 hK22 => ?_)
      refine c_region ?_
      refine tp rfl (lv_move rfl) ?_
      refine tp rfl (lv_move rfl) ?_
      by_cases h4 : ((x : Nat) : Int) < ((m : Nat) : Int)
      · -- yes
        refine tp rfl (lv_lss rfl rfl (decide_eq_true h4)) ?_
        refine t_done ?_
        refine q_then_n (hK22 _ _ ?_)
        refine c_true rfl ?_
        refine c_skip ?_
        refine q_then_n (hK21 _ _ ?_)
        refine c_seq (fun K23 hK23 => ?_)
        refine c_block ?_
        refine c_seq (fun K24 hK24 => ?_)
        refine c_region ?_
        refine tp rfl (lv_move rfl) ?_
        refine tp rfl (lv_move rfl) ?_
        refine tc rfl (en_fn Try.call25 rfl) (hkey_ok (n := m) (ks := k2) ((x : Nat) : Int)) ?_
        rintro _ _ ⟨rfl, rfl⟩
        refine tp rfl (lv_move rfl) ?_
        refine tp rfl (lv_extract rfl rfl) ?_
        refine tp rfl (lv_extract rfl rfl) ?_
        refine tp rfl (lv_assign rfl) ?_
        refine tp rfl (lv_assign rfl) ?_
        refine t_done ?_
        refine q_then_n (hK24 _ _ ?_)
        refine c_seq (fun K25 hK25 => ?_)
        refine c_region ?_
        refine tp rfl (lv_move rfl) ?_
        refine tp rfl (lv_move rfl) ?_
        refine tp rfl (lv_move rfl) ?_
        refine tc rfl (en_fn Try.call18 rfl) (hasK_ok (n := m) (ks := k2) ((x : Nat) : Int)) ?_
        rintro _ _ ⟨rfl, rfl⟩
        refine tp rfl (lv_neb Try.underlying4 rfl rfl (bne_self_eq_false _)) ?_
        refine tp rfl (lv_move rfl) ?_
        refine t_guard rfl rfl ?_
        refine tp rfl (lv_move rfl) ?_
        refine t_guard rfl rfl ?_
        refine tp rfl (lv_move rfl) ?_
        rcases hb5 : hasK k2 ((x : Nat) : Int) with _ | _
        · -- false
         refine t_skip rfl rfl rfl ?_
         refine t_skip rfl rfl rfl ?_
         refine t_skip rfl rfl rfl ?_
         refine t_skipu rfl rfl rfl ?_
         refine t_skipu rfl rfl rfl ?_
         refine t_skipu rfl rfl rfl ?_
         refine t_skip rfl rfl rfl ?_
         refine t_skip rfl rfl rfl ?_
         refine t_skipu rfl rfl rfl ?_
         refine t_skipu rfl rfl rfl ?_
         refine t_skipu rfl rfl rfl ?_
         refine t_skipu rfl rfl rfl ?_
         refine t_skipu rfl rfl rfl ?_
         refine t_skipu rfl rfl rfl ?_
         refine t_skipu rfl rfl rfl ?_
         refine t_skipu rfl rfl rfl ?_
         refine t_skip rfl rfl rfl ?_
         refine t_guard rfl rfl ?_
         refine tp rfl (lv_pick_f rfl rfl) ?_
         refine tp rfl (lv_pick_f rfl rfl) ?_
         refine t_done ?_
         refine q_then_n (hK25 _ _ ?_)
         refine c_false rfl ?_
         refine c_skip ?_
         refine q_in_n ?_
         refine q_then_n (hK23 _ _ ?_)
         refine c_region ?_
         refine tp rfl (lv_move rfl) ?_
         refine tp rfl (lv_add (c := ((x + 1 : Nat) : Int)) rfl rfl (wr_i64_succ (by omega))) ?_
         refine tp rfl (lv_assign rfl) ?_
         refine t_done ?_
         refine q_then_n ?_
         exact t_weak (by exact ⟨rfl, rfl, rfl, rfl, rfl, rfl, rfl, rfl, rfl, rfl, rfl, rfl, rfl, rfl, rfl, rfl, trivial⟩) ((hK20 (x + 1) (by omega) (by omega)))
        · -- true
         have hfl := first_le hb5
         rw [hfl.1]
         refine t_guard rfl rfl ?_
         refine tp rfl (lv_move rfl) ?_
         refine t_guard rfl rfl ?_
         refine tp rfl (lv_not (c := false) rfl rfl) ?_
         refine t_guard rfl rfl ?_
         refine tp rfl (lv_move rfl) ?_
         refine t_guard rfl rfl ?_
         refine tp rfl (lv_move rfl) ?_
         refine t_guard rfl rfl ?_
         refine tp rfl (lv_move rfl) ?_
         refine t_guard rfl rfl ?_
         refine tp rfl (lv_lss rfl rfl (decide_eq_false hfl.2.1)) ?_
         refine t_guard rfl rfl ?_
         refine tp rfl (lv_pick_f rfl rfl) ?_
         refine t_guard rfl rfl ?_
         refine tp rfl (lv_move rfl) ?_
         refine t_guard rfl rfl ?_
         refine tp rfl (lv_move rfl) ?_
         refine t_guard rfl rfl ?_
         refine tp rfl (lv_move rfl) ?_
         refine t_guard rfl rfl ?_
         by_cases h6 : (keyK k2 ((x : Nat) : Int)) = (fstV k2)
         · -- yes
          refine tp rfl (lv_eql rfl rfl (beq_iff_eq.2 h6)) ?_
          refine t_guard rfl rfl ?_
          refine tp rfl (lv_move rfl) ?_
          refine t_guard rfl rfl ?_
          refine tp rfl (lv_move rfl) ?_
          refine t_guard rfl rfl ?_
          refine tp rfl (lv_move rfl) ?_
          refine t_guard rfl rfl ?_
          refine tp rfl (lv_lss rfl rfl (decide_eq_false (fun hh => hfl.2.2 ⟨‹_›, hh⟩))) ?_
          refine t_guard rfl rfl ?_
          refine tp rfl (lv_pick_t rfl rfl) ?_
          refine t_guard rfl rfl ?_
          refine tp rfl (lv_pick_f rfl rfl) ?_
          refine t_guard rfl rfl ?_
          refine tp rfl (lv_pick_t rfl rfl) ?_
          refine tp rfl (lv_pick_f rfl rfl) ?_
          refine t_done ?_
          refine q_then_n (hK25 _ _ ?_)
          refine c_false rfl ?_
          refine c_skip ?_
          refine q_in_n ?_
          refine q_then_n (hK23 _ _ ?_)
          refine c_region ?_
          refine tp rfl (lv_move rfl) ?_
          refine tp rfl (lv_add (c := ((x + 1 : Nat) : Int)) rfl rfl (wr_i64_succ (by omega))) ?_
          refine tp rfl (lv_assign rfl) ?_
          refine t_done ?_
          refine q_then_n ?_
          exact t_weak (by exact ⟨rfl, rfl, rfl, rfl, rfl, rfl, rfl, rfl, (by rw [hfl.1]; rfl), rfl, rfl, (by rw [hfl.1]; rfl), rfl, rfl, rfl, rfl, trivial⟩) ((hK20 (x + 1) (by omega) (by omega)))
         · -- no
          refine tp rfl (lv_eql rfl rfl (beq_eq_false_iff_ne.2 h6)) ?_
          refine t_guard rfl rfl ?_
          refine tp rfl (lv_move rfl) ?_
          refine t_skip rfl rfl rfl ?_
          refine t_skip rfl rfl rfl ?_
          refine t_skip rfl rfl rfl ?_
          refine t_guard rfl rfl ?_
          refine tp rfl (lv_pick_f rfl rfl) ?_
          refine t_guard rfl rfl ?_
          refine tp rfl (lv_pick_f rfl rfl) ?_
          refine t_guard rfl rfl ?_
          refine tp rfl (lv_pick_t rfl rfl) ?_
          refine tp rfl (lv_pick_f rfl rfl) ?_
          refine t_done ?_
          refine q_then_n (hK25 _ _ ?_)
          refine c_false rfl ?_
          refine c_skip ?_
          refine q_in_n ?_
          refine q_then_n (hK23 _ _ ?_)
          refine c_region ?_
          refine tp rfl (lv_move rfl) ?_
          refine tp rfl (lv_add (c := ((x + 1 : Nat) : Int)) rfl rfl (wr_i64_succ (by omega))) ?_
          refine tp rfl (lv_assign rfl) ?_
          refine t_done ?_
          refine q_then_n ?_
          exact t_weak (by exact ⟨rfl, rfl, rfl, rfl, rfl, rfl, rfl, rfl, (by rw [hfl.1]; rfl), rfl, rfl, (by rw [hfl.1]; rfl), rfl, rfl, rfl, rfl, trivial⟩) ((hK20 (x + 1) (by omega) (by omega)))
      · -- no
        refine tp rfl (lv_lss rfl rfl (decide_eq_false h4)) ?_
        refine t_done ?_
        refine q_then_n (hK22 _ _ ?_)
        refine c_false rfl ?_
        refine c_exit ?_
        refine q_then_x ?_
        refine q_then_x ?_
        refine q_in_x ?_
        refine q_in_n ?_
        refine q_then_n (hK12 _ _ ?_)
        refine c_region ?_
        refine tp rfl (lv_move rfl) ?_
        refine tp rfl (lv_add (c := ((i + 1 : Nat) : Int)) rfl rfl (wr_i64_succ (by omega))) ?_
        refine tp rfl (lv_assign rfl) ?_
        refine t_done ?_
        refine q_then_n ?_
        refine t_f1 ?_
        refine t_drop ?_
        exact t_weak (by exact ⟨rfl, rfl, rfl, rfl, rfl, rfl, trivial⟩) ((hK9 (i + 1, k2) ⟨by omega, by omega⟩ (by dsimp only; omega)))
    refine c_seq (fun K15 hK15 => ?_)
    refine c_region ?_
    refine tp rfl (lv_fieldAddr (o' := 0) Try.underlying47 rfl Try.sizeOf3 rfl rfl) ?_
    refine tp rfl (lv_load Try.isAgg3 rfl (gives_blk (.head _) rfl)) ?_
    refine t_done ?_
    refine q_then_n (hK15 _ _ ?_)
    refine c_block ?_
    refine c_seq (fun K16 hK16 => ?_)
    refine c_seq (fun K17 hK17 => ?_)
    refine c_region ?_
    by_cases h7 : ((xs.getD i R3.d).x) = 1
    · -- yes
      refine tp rfl (lv_eql rfl rfl (beq_iff_eq.2 h7)) ?_
      refine tp rfl (lv_assign rfl) ?_
      refine t_done ?_
      refine q_then_n (hK17 _ _ ?_)
      refine c_true rfl ?_
      refine c_skip ?_
      refine q_then_n (hK16 _ _ ?_)
      refine c_true rfl ?_
      refine c_region ?_
      refine tp rfl (lv_move rfl) ?_
      refine tp rfl (lv_fieldAddr (o' := 1) Try.underlying47 rfl Try.sizeOf3 rfl rfl) ?_
      refine tp rfl (lv_load Try.isAgg3 rfl (gives_blk (.head _) rfl)) ?_
      refine tp rfl (lv_fieldAddr (o' := 2) Try.underlying47 rfl Try.sizeOf3 rfl rfl) ?_
      refine tp rfl (lv_load Try.isAgg3 rfl (gives_blk (.head _) rfl)) ?_
      refine t_f1 ?_
      refine tc rfl (en_fn Try.call13 rfl) (hpush_ok (n := m) (ks := ks) ((xs.getD i R3.d).y) ((xs.getD i R3.d).z)) ?_
      rintro _ _ ⟨rfl, rfl⟩
      refine t_done ?_
      refine q_in_n ?_
      refine q_then_n ?_
      refine t_f1 ?_
      exact t_weak (by exact ⟨rfl, rfl, rfl, rfl, rfl, rfl, rfl, rfl, trivial⟩) (hM14 (pushK ks ((xs.getD i R3.d).y) ((xs.getD i R3.d).z)) trivial)
    · -- no
      refine tp rfl (lv_eql rfl rfl (beq_eq_false_iff_ne.2 h7)) ?_
      refine tp rfl (lv_assign rfl) ?_
      refine t_done ?_
      refine q_then_n (hK17 _ _ ?_)
      refine c_false rfl ?_
      refine c_region ?_
      by_cases h8 : ((xs.getD i R3.d).x) = 2
      · -- yes
        refine tp rfl (lv_eql rfl rfl (beq_iff_eq.2 h8)) ?_
        refine tp rfl (lv_assign rfl) ?_
        refine t_done ?_
        refine q_then_n (hK16 _ _ ?_)
        refine c_true rfl ?_
        refine c_region ?_
        refine tp rfl (lv_move rfl) ?_
        refine tp rfl (lv_fieldAddr (o' := 1) Try.underlying47 rfl Try.sizeOf3 rfl rfl) ?_
        refine tp rfl (lv_load Try.isAgg3 rfl (gives_blk (.head _) rfl)) ?_
        refine tp rfl (lv_fieldAddr (o' := 2) Try.underlying47 rfl Try.sizeOf3 rfl rfl) ?_
        refine tp rfl (lv_load Try.isAgg3 rfl (gives_blk (.head _) rfl)) ?_
        refine t_f1 ?_
        refine tc rfl (en_fn Try.call13 rfl) (hpush_ok (n := m) (ks := ks) ((xs.getD i R3.d).y) ((xs.getD i R3.d).z)) ?_
        rintro _ _ ⟨rfl, rfl⟩
        refine t_done ?_
        refine q_in_n ?_
        refine q_then_n ?_
        refine t_f1 ?_
        exact t_weak (by exact ⟨rfl, rfl, rfl, rfl, rfl, rfl, rfl, rfl, trivial⟩) (hM14 (pushK ks ((xs.getD i R3.d).y) ((xs.getD i R3.d).z)) trivial)
      · -- no
        refine tp rfl (lv_eql rfl rfl (beq_eq_false_iff_ne.2 h8)) ?_
        refine tp rfl (lv_assign rfl) ?_
        refine t_done ?_
        refine q_then_n (hK16 _ _ ?_)
        refine c_false rfl ?_
        refine c_seq (fun K18 hK18 => ?_)
        refine c_region ?_
        by_cases h9 : ((xs.getD i R3.d).x) = 3
        · -- yes
         refine tp rfl (lv_eql rfl rfl (beq_iff_eq.2 h9)) ?_
         refine tp rfl (lv_assign rfl) ?_
         refine t_done ?_
         refine q_then_n (hK18 _ _ ?_)
         refine c_true rfl ?_
         refine c_region ?_
         refine tp rfl (lv_move rfl) ?_
         refine tp rfl (lv_fieldAddr (o' := 1) Try.underlying47 rfl Try.sizeOf3 rfl rfl) ?_
         refine tp rfl (lv_load Try.isAgg3 rfl (gives_blk (.head _) rfl)) ?_
         refine tp rfl (lv_fieldAddr (o' := 2) Try.underlying47 rfl Try.sizeOf3 rfl rfl) ?_
         refine tp rfl (lv_load Try.isAgg3 rfl (gives_blk (.head _) rfl)) ?_
         refine t_f1 ?_
         refine tc rfl (en_fn Try.call16 rfl) (hlow_ok (n := m) (ks := ks) ((xs.getD i R3.d).y) ((xs.getD i R3.d).z)) ?_
         rintro _ _ ⟨rfl, rfl⟩
         refine t_done ?_
         refine q_in_n ?_
         refine q_then_n ?_
         refine t_f1 ?_
         exact t_weak (by exact ⟨rfl, rfl, rfl, rfl, rfl, rfl, rfl, rfl, trivial⟩) (hM14 (lowK ks ((xs.getD i R3.d).y) ((xs.getD i R3.d).z)) trivial)
        · -- no
         refine tp rfl (lv_eql rfl rfl (beq_eq_false_iff_ne.2 h9)) ?_
         refine tp rfl (lv_assign rfl) ?_
         refine t_done ?_
         refine q_then_n (hK18 _ _ ?_)
         refine c_false rfl ?_
         refine c_seq (fun K19 hK19 => ?_)
         refine c_region ?_
         by_cases h10 : ((xs.getD i R3.d).x) = 4
         · -- yes
          refine tp rfl (lv_eql rfl rfl (beq_iff_eq.2 h10)) ?_
          refine tp rfl (lv_assign rfl) ?_
          refine t_done ?_
          refine q_then_n (hK19 _ _ ?_)
          refine c_true rfl ?_
          refine c_region ?_
          refine tp rfl (lv_move rfl) ?_
          refine tp rfl (lv_fieldAddr (o' := 1) Try.underlying47 rfl Try.sizeOf3 rfl rfl) ?_
          refine tp rfl (lv_load Try.isAgg3 rfl (gives_blk (.head _) rfl)) ?_
          refine t_f1 ?_
          refine tc rfl (en_fn Try.call17 rfl) (hrem_ok (n := m) (ks := ks) ((xs.getD i R3.d).y)) ?_
          rintro _ _ ⟨rfl, rfl⟩
          refine t_done ?_
          refine q_in_n ?_
          refine q_then_n ?_
          refine t_f1 ?_
          exact t_weak (by exact ⟨rfl, rfl, rfl, rfl, rfl, rfl, rfl, rfl, trivial⟩) (hM14 (remK ks ((xs.getD i R3.d).y)) trivial)
         · -- no
          refine tp rfl (lv_eql rfl rfl (beq_eq_false_iff_ne.2 h10)) ?_
          refine tp rfl (lv_assign rfl) ?_
          refine t_done ?_
          refine q_then_n (hK19 _ _ ?_)
          refine c_false rfl ?_
          refine c_seq (fun K20 hK20 => ?_)
          refine c_region ?_
          by_cases h11 : ((xs.getD i R3.d).x) = 5
          · -- yes
           refine tp rfl (lv_eql rfl rfl (beq_iff_eq.2 h11)) ?_
           refine tp rfl (lv_assign rfl) ?_
           refine t_done ?_
           refine q_then_n (hK20 _ _ ?_)
           refine c_true rfl ?_
           refine c_seq (fun K21 hK21 => ?_)
           refine c_region ?_
           refine tp rfl (lv_move rfl) ?_
           refine t_f1 ?_
           refine tc rfl (en_fn Try.call19 rfl) (hfst_ok (n := m) (ks := ks) ) ?_
           rintro _ _ ⟨rfl, rfl⟩
           refine tp rfl (lv_move rfl) ?_
           refine tp rfl (lv_extract rfl rfl) ?_
           refine tp rfl (lv_extract rfl rfl) ?_
           refine tp rfl (lv_extract rfl rfl) ?_
           refine tp rfl (lv_assign rfl) ?_
           refine tp rfl (lv_assign rfl) ?_
           refine tp rfl (lv_assign rfl) ?_
           refine t_done ?_
           refine q_then_n (hK21 _ _ ?_)
           refine c_seq (fun K22 hK22 => ?_)
           refine c_region ?_
           refine tp rfl (lv_move rfl) ?_
           refine tc rfl (en_fn Try.call14 rfl) (hpop_ok (n := m) (ks := ks) ) ?_
           rintro _ _ ⟨rfl, rfl⟩
           refine tp rfl (lv_move rfl) ?_
           refine tp rfl (lv_extract rfl rfl) ?_
           refine tp rfl (lv_extract rfl rfl) ?_
           refine tp rfl (lv_extract rfl rfl) ?_
           refine tp rfl (lv_assign rfl) ?_
           refine tp rfl (lv_assign rfl) ?_
           refine tp rfl (lv_assign rfl) ?_
           refine t_done ?_
           refine q_then_n (hK22 _ _ ?_)
           refine c_seq (fun K23 hK23 => ?_)
           refine c_region ?_
           refine tp rfl (lv_move rfl) ?_
           refine tp rfl (lv_move rfl) ?_
           refine tp rfl (lv_neq rfl rfl (bne_eq_false_iff_eq.2 rfl)) ?_
           refine tp rfl (lv_move rfl) ?_
           refine t_guard rfl rfl ?_
           refine tp rfl (lv_move rfl) ?_
           refine t_guard rfl rfl ?_
           refine tp rfl (lv_move rfl) ?_
           refine t_guard rfl rfl ?_
           refine tp rfl (lv_neq rfl rfl (bne_eq_false_iff_eq.2 rfl)) ?_
           refine tp rfl (lv_pick_f rfl rfl) ?_
           refine tp rfl (lv_move rfl) ?_
           refine t_guard rfl rfl ?_
           refine tp rfl (lv_move rfl) ?_
           refine t_guard rfl rfl ?_
           refine tp rfl (lv_move rfl) ?_
           refine t_guard rfl rfl ?_
           refine tp rfl (lv_neb Try.underlying4 rfl rfl (bne_self_eq_false _)) ?_
           refine tp rfl (lv_pick_f rfl rfl) ?_
           refine tp rfl (lv_move rfl) ?_
           refine t_guard rfl rfl ?_
           refine tp rfl (lv_move rfl) ?_
           refine t_guard rfl rfl ?_
           refine tp rfl (lv_move rfl) ?_
           rcases hb12 : fstB ks with _ | _
           · -- false
            refine t_skip rfl rfl rfl ?_
            refine t_skip rfl rfl rfl ?_
            refine t_skip rfl rfl rfl ?_
            refine t_guard rfl rfl ?_
            refine tp rfl (lv_pick_f rfl rfl) ?_
            refine tp rfl (lv_pick_f rfl rfl) ?_
            refine t_done ?_
            refine q_then_n (hK23 _ _ ?_)
            refine c_false rfl ?_
            refine c_skip ?_
            refine q_in_n ?_
            refine q_then_n ?_
            refine t_f1 ?_
            exact t_weak (by exact ⟨rfl, rfl, rfl, rfl, rfl, rfl, rfl, rfl, trivial⟩) (hM14 (popK ks) trivial)
           · -- true
            refine t_guard rfl rfl ?_
            refine tp rfl (lv_move rfl) ?_
            refine t_guard rfl rfl ?_
            refine tp rfl (lv_move rfl) ?_
            refine t_guard rfl rfl ?_
            refine tc rfl (en_fn Try.call18 rfl) (hasK_ok (n := m) (ks := popK ks) (fstI ks)) ?_
            rintro _ _ ⟨rfl, rfl⟩
            rw [show hasK (popK ks) (fstI ks) = false from (pop_gone ks ‹fstB ks = true›)]
            refine t_guard rfl rfl ?_
            refine tp rfl (lv_pick_t rfl rfl) ?_
            refine tp rfl (lv_pick_f rfl rfl) ?_
            refine t_done ?_
            refine q_then_n (hK23 _ _ ?_)
            refine c_false rfl ?_
            refine c_skip ?_
            refine q_in_n ?_
            refine q_then_n ?_
            refine t_f1 ?_
            exact t_weak (by exact ⟨rfl, rfl, rfl, rfl, rfl, rfl, rfl, rfl, trivial⟩) (hM14 (popK ks) trivial)
          · -- no
           refine tp rfl (lv_eql rfl rfl (beq_eq_false_iff_ne.2 h11)) ?_
           refine tp rfl (lv_assign rfl) ?_
           refine t_done ?_
           refine q_then_n (hK20 _ _ ?_)
           refine c_false rfl ?_
           refine c_skip ?_
           refine q_in_n ?_
           refine q_then_n ?_
           exact t_weak (by exact ⟨rfl, rfl, rfl, rfl, rfl, rfl, rfl, rfl, trivial⟩) (hM14 ks trivial)
  · -- not both
    refine t_cut0 (E' := [(0, (.int .i64 ((m : Nat) : Int))), (1, (.slice bsb xs.length csb)), (5, (.bool true)), (6, (.pointer (some ⟨p1, 0, none⟩))), (7, (.int .i64 ((i : Nat) : Int))), (31, (.bool false)), (39, (.bool false))]) ?_ (fun KK hKK => ?_)
    ·
      refine q_then_n (hK11 _ _ ?_)
      refine c_false rfl ?_
      refine c_exit ?_
      refine q_then_x ?_
      refine q_then_x ?_
      refine q_in_x ?_
      refine q_then_n (hK7 _ _ ?_)
      refine c_seq (fun K12 hK12 => ?_)
      refine c_region ?_
      refine tp rfl (lv_move rfl) ?_
      refine tp rfl (lv_assign rfl) ?_
      refine t_done ?_
      refine q_then_n (hK12 _ _ ?_)
      refine c_ret ?_
      refine t_drop ?_
      refine q_ret rfl rfl ?_
      exact ⟨rfl, rfl⟩
    · -- which
      by_cases hc2A : ((i : Nat) : Int) < ((xs.length : Nat) : Int)
      ·
        have hc2B : ¬ (((i : Nat) : Int) < 100) := fun hh => hc2 ⟨hc2A, hh⟩
        refine tp rfl (lv_move rfl) ?_
        refine tp rfl (lv_move rfl) ?_
        refine tp rfl (lv_len Try.underlying42 rfl rfl) ?_
        refine tp rfl (lv_lss rfl rfl (decide_eq_true hc2A)) ?_
        refine tp rfl (lv_move rfl) ?_
        refine t_guard rfl rfl ?_
        refine tp rfl (lv_move rfl) ?_
        refine t_guard rfl rfl ?_
        refine tp rfl (lv_lss rfl rfl (decide_eq_false hc2B)) ?_
        refine tp rfl (lv_pick_t rfl rfl) ?_
        exact t_done (t_weak (by exact ⟨rfl, rfl, rfl, rfl, rfl, rfl, rfl, trivial⟩) hKK)
      ·
        refine tp rfl (lv_move rfl) ?_
        refine tp rfl (lv_move rfl) ?_
        refine tp rfl (lv_len Try.underlying42 rfl rfl) ?_
        refine tp rfl (lv_lss rfl rfl (decide_eq_false hc2A)) ?_
        refine tp rfl (lv_move rfl) ?_
        refine t_skip rfl rfl rfl ?_
        refine t_skip rfl rfl rfl ?_
        refine tp rfl (lv_pick_f rfl rfl) ?_
        exact t_done (t_weak (by exact ⟨rfl, rfl, rfl, rfl, rfl, rfl, rfl, trivial⟩) hKK)
end Go.Proofs.Ytchnphachgcjmaa
