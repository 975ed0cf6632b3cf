/- GraphApart: the law's walk. -/
import Derived.Test.YtadhgpkpcmpmgaaDoorLa
import Derived.Test.YtadhgpkpcmpmgaaDoorApa
set_option maxRecDepth 100000
set_option linter.unusedVariables false
set_option linter.unusedSimpArgs false
namespace Go.Proofs.YtadhgpkpcmpmgaaDoor
open Go Go.Proofs Sp
theorem apart_ok {R : List HP} {bl : Option Addr} {cl : Nat} (n : Int) (es : List (Int × Int)) (hl : Rd R bl (pairs es)) (okl : SlOk bl es.length) (ll : es.length ≤ 9223372036854775807) (hT : Tab R) (a b : Int) :
    Ok Tryd.prog 3 [(.int .i64 n), (.slice bl es.length cl), (.int .i64 a), (.int .i64 b)] R
      (fun v M => v = .bool true ∧ M = R) := by
  obtain ⟨n0, hn0⟩ : ∃ n0 : Nat, 2 + n % 65536 % 63 = (n0 : Int) := ⟨(2 + n % 65536 % 63).toNat, by omega⟩
  have h2 : 2 ≤ n0 := by omega
  have h64 : n0 ≤ 64 := by omega
  obtain ⟨low, hlow⟩ : ∃ low : Nat, (n0 : Int) / 2 = (low : Int) := ⟨n0 / 2, by omega⟩
  have hl1 : 1 ≤ low := by omega
  have hl2 : 2 * low ≤ n0 := by omega
  have hh : HalfOk n0 low := ⟨hl1, hl2, h64⟩
  have hcl : clampN ((n0 : Nat) : Int) = n0 := by unfold clampN; omega
  have hla := lowOf_bd a low hl1
  have hlb := lowOf_bd b low hl1
  refine ok_of (N := 138) Tryd.func3 rfl rfl rfl (fun W => ?_)
  refine c_seq (fun K1 hK1 => ?_)
  refine c_region ?_
  refine tp rfl (lv_assign rfl) ?_
  refine t_done ?_
  refine q_then_n (hK1 _ _ ?_)
  refine c_seq (fun K2 hK2 => ?_)
  refine c_region ?_
  refine tc rfl (en_fn Tryd.call10 rfl) (shown_ok hT) ?_
  rintro _ _ ⟨rfl, hMR⟩
  rw [hMR]; clear hMR
  refine tp rfl (lv_assign rfl) ?_
  refine t_done ?_
  refine q_then_n (hK2 _ _ ?_)
  refine c_seq (fun K3 hK3 => ?_)
  refine c_region ?_
  refine tp rfl (lv_move rfl) ?_
  refine tp rfl (lv_and (c := n % 65536) rfl rfl (and_ffff n)) ?_
  refine tp rfl (lv_rem (c := n % 65536 % 63) rfl rfl (by omega) (Int.tmod_eq_emod_of_nonneg (by omega))) ?_
  refine tp rfl (lv_add (c := ((n0 : Nat) : Int)) rfl rfl ((wr_i64 (by omega) (by omega)).trans hn0)) ?_
  refine tp rfl (lv_assign rfl) ?_
  refine t_done ?_
  refine q_then_n (hK3 _ _ ?_)
  refine c_seq (fun K4 hK4 => ?_)
  refine c_region ?_
  refine tp rfl (lv_move rfl) ?_
  refine tc rfl (en_fn Tryd.call11 rfl) (new_ok ((n0 : Nat) : Int)) ?_
  rintro _ _ ⟨p1, rfl, rfl⟩
  rw [show clampN ((n0 : Nat) : Int) = n0 from hcl]
  refine tp rfl (lv_assign rfl) ?_
  refine t_done ?_
  refine q_then_n (hK4 _ _ ?_)
  refine c_seq (fun K5 hK5 => ?_)
  refine c_region ?_
  refine tp rfl (lv_move rfl) ?_
  refine tc rfl (en_fn Tryd.call11 rfl) (new_ok ((n0 : Nat) : Int)) ?_
  rintro _ _ ⟨p2, rfl, rfl⟩
  rw [show clampN ((n0 : Nat) : Int) = n0 from hcl]
  refine tp rfl (lv_assign rfl) ?_
  refine t_done ?_
  refine q_then_n (hK5 _ _ ?_)
  refine c_seq (fun K6 hK6 => ?_)
  refine c_seq (fun K7 hK7 => ?_)
  refine c_region ?_
  refine tp rfl (lv_move rfl) ?_
  refine tp rfl (lv_eqnil Tryd.underlying24 rfl rfl) ?_
  refine tp rfl (lv_move rfl) ?_
  refine t_guard rfl rfl ?_
  refine tp rfl (lv_move rfl) ?_
  refine t_guard rfl rfl ?_
  refine tp rfl (lv_eqnil Tryd.underlying24 rfl rfl) ?_
  refine tp rfl (lv_pick_f rfl rfl) ?_
  refine t_done ?_
  refine q_then_n (hK7 _ _ ?_)
  refine c_false rfl ?_
  refine c_skip ?_
  refine q_then_n (hK6 _ _ ?_)
  refine c_seq (fun K8 hK8 => ?_)
  refine c_region ?_
  refine tp rfl (lv_move rfl) ?_
  refine tp rfl (lv_quo (c := ((low : Nat) : Int)) rfl rfl (by omega) ((wr_quo (by omega) (by omega) (by omega)).trans hlow)) ?_
  refine tp rfl (lv_assign rfl) ?_
  refine t_done ?_
  refine q_then_n (hK8 _ _ ?_)
  refine c_seq (fun K9 hK9 => ?_)
  refine c_seq (fun K10 hK10 => ?_)
  refine c_region ?_
  refine tp rfl (lv_assign rfl) ?_
  refine t_done ?_
  refine q_then_n (hK10 _ _ ?_)
  refine c_block ?_
  refine t_f1 ?_
  refine c_loop (γ := (Nat)) (fun (k : Nat) => k ≤ es.length ∧ k ≤ 200) (fun (k : Nat) => [(1, (.slice bl es.length cl)), (2, (.int .i64 a)), (3, (.int .i64 b)), (9, (.bool true)), (10, (.pointer (some ⟨p1, 0, none⟩))), (11, (.pointer (some ⟨p2, 0, none⟩))), (12, (.int .i64 ((low : Nat) : Int))), (13, (.int .i64 ((k : Nat) : Int)))]) (fun (k : Nat) => (GraphO p1 n0 (halfE n0 low (es.take k))) :: (GraphO p2 n0 (halfE2 n0 low (es.take k))) :: R) (fun (k : Nat) => es.length - k) (0) ⟨by omega, by omega⟩ ⟨rfl, rfl, rfl, rfl, rfl, rfl, rfl, rfl, trivial⟩ (fun _ h => h) ?_
  rintro k K11 hF hK11
  try dsimp only at hF hK11 ⊢
  obtain ⟨hk, hk2⟩ := hF
  refine c_seq (fun K12 hK12 => ?_)
  refine c_seq (fun K13 hK13 => ?_)
  refine c_region ?_
  by_cases hc3 : ((k : Nat) : Int) < ((es.length : Nat) : Int) ∧ ((k : Nat) : Int) < 200
  · -- both
    have hc3a := hc3.1
    have hc3b := hc3.2
    refine tp rfl (lv_move rfl) ?_
    refine tp rfl (lv_move rfl) ?_
    refine tp rfl (lv_len Tryd.underlying22 rfl rfl) ?_
    refine tp rfl (lv_lss rfl rfl (decide_eq_true hc3.1)) ?_
    refine tp rfl (lv_move rfl) ?_
    refine t_guard rfl rfl ?_
    refine tp rfl (lv_move rfl) ?_
    refine t_guard rfl rfl ?_
    refine tp rfl (lv_lss rfl rfl (decide_eq_true hc3.2)) ?_
    refine tp rfl (lv_pick_t rfl rfl) ?_
    refine t_done ?_
    refine q_then_n (hK13 _ _ ?_)
    refine c_true rfl ?_
    refine c_skip ?_
    refine q_then_n (hK12 _ _ ?_)
    refine c_seq (fun K14 hK14 => ?_)
    refine c_block ?_
    refine c_seq (fun K15 hK15 => ?_)
    refine c_region ?_
    refine tp rfl (lv_move rfl) ?_
    refine tp rfl (lv_move rfl) ?_
    refine tp rfl (lv_indexAddr (k' := k * 2) Tryd.underlying22 Tryd.sizeOf27 rfl rfl okl (by omega) (by omega) (by omega)) ?_
    refine tp rfl (lv_fieldAddr_ad (o' := k * 2) Tryd.underlying27 rfl Tryd.sizeOf3 rfl rfl) ?_
    refine tp rfl (lv_load Tryd.isAgg3 rfl (Rd.gives (Rd.cons (Rd.cons hl)) (pairs_get0 (by omega)))) ?_
    refine tp rfl (lv_and (c := ((es).getD k (0, 0)).1 % 65536) rfl rfl (and_ffff _)) ?_
    refine tp rfl (lv_move rfl) ?_
    refine tp rfl (lv_rem (c := lowOf (((es).getD k (0, 0)).1) low) rfl rfl (by omega) (lowOf_eq _ low)) ?_
    refine tp rfl (lv_assign rfl) ?_
    refine t_done ?_
    refine q_then_n (hK15 _ _ ?_)
    refine c_seq (fun K16 hK16 => ?_)
    refine c_region ?_
    refine tp rfl (lv_move rfl) ?_
    refine tp rfl (lv_move rfl) ?_
    refine tp rfl (lv_indexAddr (k' := k * 2) Tryd.underlying22 Tryd.sizeOf27 rfl rfl okl (by omega) (by omega) (by omega)) ?_
    refine tp rfl (lv_fieldAddr_ad (o' := k * 2 + 1) Tryd.underlying27 rfl Tryd.sizeOf3 rfl rfl) ?_
    refine tp rfl (lv_load Tryd.isAgg3 rfl (Rd.gives (Rd.cons (Rd.cons hl)) (pairs_get1 (by omega)))) ?_
    refine tp rfl (lv_and (c := ((es).getD k (0, 0)).2 % 65536) rfl rfl (and_ffff _)) ?_
    refine tp rfl (lv_move rfl) ?_
    refine tp rfl (lv_rem (c := lowOf (((es).getD k (0, 0)).2) low) rfl rfl (by omega) (lowOf_eq _ low)) ?_
    refine tp rfl (lv_assign rfl) ?_
    refine t_done ?_
    refine q_then_n (hK16 _ _ ?_)
    refine c_seq (fun K17 hK17 => ?_)
    refine c_region ?_
    refine tp rfl (lv_move rfl) ?_
    refine tp rfl (lv_move rfl) ?_
    refine tp rfl (lv_move rfl) ?_
    refine tc rfl (en_fn Tryd.call12 rfl) (add_ok (N := n0) (es := halfE n0 low (es.take k)) (lowOf (((es).getD k (0, 0)).1) low) (lowOf (((es).getD k (0, 0)).2) low)) ?_
    rintro _ _ ⟨rfl, rfl⟩
    refine t_done ?_
    refine q_then_n (hK17 _ _ ?_)
    refine c_region ?_
    refine tp rfl (lv_move rfl) ?_
    refine tp rfl (lv_move rfl) ?_
    refine tp rfl (lv_move rfl) ?_
    have hx1 := lowOf_bd (es.getD k (0, 0)).1 low hl1
    have hx2 := lowOf_bd (es.getD k (0, 0)).2 low hl1
    refine tp rfl (lv_add (c := ((low : Nat) : Int) + (lowOf (((es).getD k (0, 0)).1) low)) rfl rfl (wr_i64 (by omega) (by omega))) ?_
    refine tp rfl (lv_move rfl) ?_
    refine tp rfl (lv_move rfl) ?_
    refine tp rfl (lv_add (c := ((low : Nat) : Int) + (lowOf (((es).getD k (0, 0)).2) low)) rfl rfl (wr_i64 (by omega) (by omega))) ?_
    refine t_f1 ?_
    refine tc rfl (en_fn Tryd.call12 rfl) (add_ok (N := n0) (es := halfE2 n0 low (es.take k)) (((low : Nat) : Int) + (lowOf (((es).getD k (0, 0)).1) low)) (((low : Nat) : Int) + (lowOf (((es).getD k (0, 0)).2) low))) ?_
    rintro _ _ ⟨rfl, rfl⟩
    refine t_done ?_
    refine q_in_n ?_
    refine q_then_n (hK14 _ _ ?_)
    refine c_region ?_
    refine tp rfl (lv_move rfl) ?_
    refine tp rfl (lv_add (c := ((k + 1 : Nat) : Int)) rfl rfl (wr_i64_succ (by omega))) ?_
    refine tp rfl (lv_assign rfl) ?_
    refine t_done ?_
    refine q_then_n ?_
    rw [show addE n0 (halfE n0 low (es.take k)) (lowOf (((es).getD k (0, 0)).1) low) (lowOf (((es).getD k (0, 0)).2) low) = halfE n0 low (es.take (k + 1)) from (halfE_succ (by omega)).symm]
    rw [show addE n0 (halfE2 n0 low (es.take k)) (((low : Nat) : Int) + (lowOf (((es).getD k (0, 0)).1) low)) (((low : Nat) : Int) + (lowOf (((es).getD k (0, 0)).2) low)) = halfE2 n0 low (es.take (k + 1)) from (halfE2_succ (by omega)).symm]
    refine t_f1 ?_
    exact t_weak (by exact ⟨rfl, rfl, rfl, rfl, rfl, rfl, rfl, rfl, trivial⟩) ((hK11 (k + 1) ⟨by omega, by omega⟩ (by omega)))
  · -- not both
    refine t_cut0 (E' := [(1, (.slice bl es.length cl)), (2, (.int .i64 a)), (3, (.int .i64 b)), (9, (.bool true)), (10, (.pointer (some ⟨p1, 0, none⟩))), (11, (.pointer (some ⟨p2, 0, none⟩))), (12, (.int .i64 ((low : Nat) : Int))), (13, (.int .i64 ((k : Nat) : Int))), (40, (.bool false))]) ?_ (fun KK hKK => ?_)
    ·
      refine q_then_n (hK13 _ _ ?_)
      refine c_false rfl ?_
      refine c_exit ?_
      refine q_then_x ?_
      refine q_then_x ?_
      refine q_in_x ?_
      refine q_then_n (hK9 _ _ ?_)
      refine c_seq (fun K14 hK14 => ?_)
      refine c_region ?_
      refine tp rfl (lv_move rfl) ?_
      refine tp rfl (lv_and (c := a % 65536) rfl rfl (and_ffff _)) ?_
      refine tp rfl (lv_move rfl) ?_
      refine tp rfl (lv_rem (c := lowOf a low) rfl rfl (by omega) (lowOf_eq _ low)) ?_
      refine tp rfl (lv_assign rfl) ?_
      refine t_done ?_
      refine q_then_n (hK14 _ _ ?_)
      refine c_seq (fun K15 hK15 => ?_)
      refine c_region ?_
      refine tp rfl (lv_move rfl) ?_
      refine tp rfl (lv_and (c := b % 65536) rfl rfl (and_ffff _)) ?_
      refine tp rfl (lv_move rfl) ?_
      refine tp rfl (lv_rem (c := lowOf b low) rfl rfl (by omega) (lowOf_eq _ low)) ?_
      refine tp rfl (lv_assign rfl) ?_
      refine t_done ?_
      refine q_then_n (hK15 _ _ ?_)
      refine c_seq (fun K16 hK16 => ?_)
      refine c_region ?_
      refine tp rfl (lv_move rfl) ?_
      refine tp rfl (lv_move rfl) ?_
      refine t_guard rfl rfl ?_
      refine tp rfl (lv_move rfl) ?_
      refine t_guard rfl rfl ?_
      refine tp rfl (lv_move rfl) ?_
      refine t_guard rfl rfl ?_
      refine tp rfl (lv_move rfl) ?_
      refine t_guard rfl rfl ?_
      refine tc rfl (en_fn Tryd.call13 rfl) (reaches_ok (N := n0) (es := halfE n0 low (es.take k)) (lowOf a low) (lowOf b low) (Tab.cons hT)) ?_
      rintro _ _ ⟨rfl, rfl⟩
      refine t_guard rfl rfl ?_
      refine tp rfl (lv_move rfl) ?_
      refine t_guard rfl rfl ?_
      refine tp rfl (lv_move rfl) ?_
      refine t_guard rfl rfl ?_
      refine tp rfl (lv_move rfl) ?_
      refine t_guard rfl rfl ?_
      refine tp rfl (lv_add (c := ((low : Nat) : Int) + (lowOf a low)) rfl rfl (wr_i64 (by omega) (by omega))) ?_
      refine t_guard rfl rfl ?_
      refine tp rfl (lv_move rfl) ?_
      refine t_guard rfl rfl ?_
      refine tp rfl (lv_move rfl) ?_
      refine t_guard rfl rfl ?_
      refine tp rfl (lv_add (c := ((low : Nat) : Int) + (lowOf b low)) rfl rfl (wr_i64 (by omega) (by omega))) ?_
      refine t_guard rfl rfl ?_
      refine t_f1 ?_
      refine tc rfl (en_fn Tryd.call13 rfl) (reaches_ok (N := n0) (es := halfE2 n0 low (es.take k)) (((low : Nat) : Int) + (lowOf a low)) (((low : Nat) : Int) + (lowOf b low)) (Tab.cons hT)) ?_
      rintro _ _ ⟨rfl, rfl⟩
      rw [show reachB n0 (halfE2 n0 low (es.take k)) (((low : Nat) : Int) + (lowOf a low)) (((low : Nat) : Int) + (lowOf b low)) = reachB n0 (halfE n0 low (es.take k)) (lowOf a low) (lowOf b low) from (half_same hh _ _ _)]
      refine t_guard rfl rfl ?_
      refine tp rfl (lv_eqb Tryd.underlying4 rfl rfl (beq_self_eq_true _)) ?_
      refine tp rfl (lv_pick_t rfl rfl) ?_
      refine tp rfl (lv_move rfl) ?_
      refine t_guard rfl rfl ?_
      refine tp rfl (lv_move rfl) ?_
      refine t_guard rfl rfl ?_
      refine tp rfl (lv_move rfl) ?_
      refine t_guard rfl rfl ?_
      refine tp rfl (lv_move rfl) ?_
      refine t_guard rfl rfl ?_
      refine tp rfl (lv_move rfl) ?_
      refine t_guard rfl rfl ?_
      refine tp rfl (lv_add (c := ((low : Nat) : Int) + (lowOf b low)) rfl rfl (wr_i64 (by omega) (by omega))) ?_
      refine t_guard rfl rfl ?_
      refine t_f1 ?_
      refine tc rfl (en_fn Tryd.call13 rfl) (reaches_ok (N := n0) (es := halfE n0 low (es.take k)) (lowOf a low) (((low : Nat) : Int) + (lowOf b low)) (Tab.cons hT)) ?_
      rintro _ _ ⟨rfl, rfl⟩
      rw [show reachB n0 (halfE n0 low (es.take k)) (lowOf a low) (((low : Nat) : Int) + (lowOf b low)) = false from (half_no1 hh _ _ _)]
      refine t_guard rfl rfl ?_
      refine tp rfl (lv_not (c := true) rfl rfl) ?_
      refine tp rfl (lv_pick_t rfl rfl) ?_
      refine tp rfl (lv_move rfl) ?_
      refine t_guard rfl rfl ?_
      refine tp rfl (lv_move rfl) ?_
      refine t_guard rfl rfl ?_
      refine tp rfl (lv_move rfl) ?_
      refine t_guard rfl rfl ?_
      refine tp rfl (lv_move rfl) ?_
      refine t_guard rfl rfl ?_
      refine tp rfl (lv_add (c := ((low : Nat) : Int) + (lowOf a low)) rfl rfl (wr_i64 (by omega) (by omega))) ?_
      refine t_guard rfl rfl ?_
      refine tp rfl (lv_move rfl) ?_
      refine t_guard rfl rfl ?_
      refine tc rfl (en_fn Tryd.call13 rfl) (reaches_ok (N := n0) (es := halfE n0 low (es.take k)) (((low : Nat) : Int) + (lowOf a low)) (lowOf b low) (Tab.cons hT)) ?_
      rintro _ _ ⟨rfl, rfl⟩
      rw [show reachB n0 (halfE n0 low (es.take k)) (((low : Nat) : Int) + (lowOf a low)) (lowOf b low) = false from (half_no2 hh _ _ _)]
      refine t_guard rfl rfl ?_
      refine tp rfl (lv_not (c := true) rfl rfl) ?_
      refine tp rfl (lv_pick_t rfl rfl) ?_
      refine tp rfl (lv_move rfl) ?_
      refine t_guard rfl rfl ?_
      refine tp rfl (lv_move rfl) ?_
      refine t_guard rfl rfl ?_
      refine tp rfl (lv_move rfl) ?_
      refine t_guard rfl rfl ?_
      refine tp rfl (lv_move rfl) ?_
      refine t_guard rfl rfl ?_
      refine tp rfl (lv_move rfl) ?_
      refine t_guard rfl rfl ?_
      refine tp rfl (lv_add (c := ((low : Nat) : Int) + (lowOf b low)) rfl rfl (wr_i64 (by omega) (by omega))) ?_
      refine t_guard rfl rfl ?_
      refine t_f1 ?_
      refine tc rfl (en_fn Tryd.call13 rfl) (reaches_ok (N := n0) (es := halfE2 n0 low (es.take k)) (lowOf a low) (((low : Nat) : Int) + (lowOf b low)) (Tab.cons hT)) ?_
      rintro _ _ ⟨rfl, rfl⟩
      rw [show reachB n0 (halfE2 n0 low (es.take k)) (lowOf a low) (((low : Nat) : Int) + (lowOf b low)) = false from (half_no3 hh _ _ _)]
      refine t_guard rfl rfl ?_
      refine tp rfl (lv_not (c := true) rfl rfl) ?_
      refine tp rfl (lv_pick_t rfl rfl) ?_
      refine tp rfl (lv_move rfl) ?_
      refine t_guard rfl rfl ?_
      refine tp rfl (lv_move rfl) ?_
      refine t_guard rfl rfl ?_
      refine t_f1 ?_
      refine tc rfl (en_fn Tryd.call14 rfl) (len_ok) ?_
      rintro _ _ ⟨rfl, rfl⟩
      refine t_guard rfl rfl ?_
      refine tp rfl (lv_move rfl) ?_
      refine t_guard rfl rfl ?_
      refine t_f1 ?_
      refine tc rfl (en_fn Tryd.call14 rfl) (len_ok) ?_
      rintro _ _ ⟨rfl, rfl⟩
      rw [show ((halfE2 n0 low (es.take k)).length : Nat) = ((halfE n0 low (es.take k)).length : Nat) from (half_len hh _)]
      refine t_guard rfl rfl ?_
      refine tp rfl (lv_eql rfl rfl (beq_iff_eq.2 rfl)) ?_
      refine tp rfl (lv_pick_t rfl rfl) ?_
      refine tp rfl (lv_move rfl) ?_
      refine t_guard rfl rfl ?_
      refine tp rfl (lv_move rfl) ?_
      refine t_guard rfl rfl ?_
      refine tp rfl (lv_move rfl) ?_
      refine t_guard rfl rfl ?_
      refine tp rfl (lv_move rfl) ?_
      refine t_guard rfl rfl ?_
      refine tp rfl (lv_add (c := ((low : Nat) : Int) + (lowOf a low)) rfl rfl (wr_i64 (by omega) (by omega))) ?_
      refine t_guard rfl rfl ?_
      refine t_f1 ?_
      refine tc rfl (en_fn Tryd.call15 rfl) (reach_ok (N := n0) (es := halfE n0 low (es.take k)) (((low : Nat) : Int) + (lowOf a low)) (Tab.cons hT)) ?_
      rintro _ _ ⟨bs4, cp5, hok6, hle7, rfl, rfl⟩
      rw [show reachL n0 (halfE n0 low (es.take k)) (((low : Nat) : Int) + (lowOf a low)) = [((low : Nat) : Int) + (lowOf a low)] from (half_one hh _ _)] at hok6 hle7 ⊢
      refine t_guard rfl rfl ?_
      refine tp rfl (lv_len Tryd.underlying33 rfl rfl) ?_
      refine t_guard rfl rfl ?_
      refine tp rfl (lv_eql rfl rfl (beq_iff_eq.2 rfl)) ?_
      refine tp rfl (lv_pick_t rfl rfl) ?_
      refine tp rfl (lv_assign rfl) ?_
      refine t_done ?_
      refine q_then_n (hK16 _ _ ?_)
      refine c_ret ?_
      refine t_drop ?_
      refine t_drop ?_
      refine t_drop ?_
      refine q_ret rfl rfl ?_
      exact ⟨rfl, rfl⟩
    · by_cases hc3A : ((k : Nat) : Int) < ((es.length : Nat) : Int)
      ·
        have hc3B : ¬ (((k : Nat) : Int) < 200) := fun hh => hc3 ⟨hc3A, hh⟩
        refine tp rfl (lv_move rfl) ?_
        refine tp rfl (lv_move rfl) ?_
        refine tp rfl (lv_len Tryd.underlying22 rfl rfl) ?_
        refine tp rfl (lv_lss rfl rfl (decide_eq_true hc3A)) ?_
        refine tp rfl (lv_move rfl) ?_
        refine t_guard rfl rfl ?_
        refine tp rfl (lv_move rfl) ?_
        refine t_guard rfl rfl ?_
        refine tp rfl (lv_lss rfl rfl (decide_eq_false hc3B)) ?_
        refine tp rfl (lv_pick_t rfl rfl) ?_
        exact t_done (t_weak (by exact ⟨rfl, rfl, rfl, rfl, rfl, rfl, rfl, rfl, rfl, trivial⟩) hKK)
      ·
        refine tp rfl (lv_move rfl) ?_
        refine tp rfl (lv_move rfl) ?_
        refine tp rfl (lv_len Tryd.underlying22 rfl rfl) ?_
        refine tp rfl (lv_lss rfl rfl (decide_eq_false hc3A)) ?_
        refine tp rfl (lv_move rfl) ?_
        refine t_skip rfl rfl rfl ?_
        refine t_skip rfl rfl rfl ?_
        refine tp rfl (lv_pick_f rfl rfl) ?_
        exact t_done (t_weak (by exact ⟨rfl, rfl, rfl, rfl, rfl, rfl, rfl, rfl, rfl, trivial⟩) hKK)
end Go.Proofs.YtadhgpkpcmpmgaaDoor
