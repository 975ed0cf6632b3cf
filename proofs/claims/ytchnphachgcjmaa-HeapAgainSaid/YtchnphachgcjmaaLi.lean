/- HeapAgain: the law's walk. -/
import Derived.Test.YtchnphachgcjmaaLa
import Derived.Test.YtchnphachgcjmaaHq
import Derived.Test.YtchnphachgcjmaaUnr
set_option maxRecDepth 100000
set_option linter.unusedVariables false
set_option linter.unusedSimpArgs false
namespace Go.Proofs.Ytchnphachgcjmaa
open Go Go.Proofs Sp
set_option maxHeartbeats 20000000 in
theorem again_law {R : List HP} (n : Int) {bsb : Option Addr} {csb : Nat} (xs : List R3) (hsb : Rd R bsb (recs triF xs)) (oksb : SlOk bsb xs.length) (lsb : xs.length ≤ 9223372036854775807) {bsc : Option Addr} {csc : Nat} (ys : List R3) (hsc : Rd R bsc (recs triF ys)) (oksc : SlOk bsc ys.length) (lsc : ys.length ≤ 9223372036854775807) :
    Ok Try.prog 6 [(.int .i64 n), (.slice bsb xs.length csb), (.slice bsc ys.length csc)] R
      (fun v M => v = .bool true ∧ M = R) := by
 obtain ⟨m, hm⟩ : ∃ m : Nat, n % 65536 % 30 = (m : Int) := ⟨(n % 65536 % 30).toNat, by omega⟩
 have hm2 : m < 30 := by omega
 have hcm : hclamp ((m : Nat) : Int) = m := by unfold hclamp; omega
 refine ok_of (N := 156) Try.func6 rfl rfl rfl (fun W => ?_)
 refine c_seq (fun K1 hK1 => ?_)
 refine c_region ?_
 refine tp rfl (lv_assign rfl) ?_
 refine t_done ?_
 refine q_then_n (hK1 _ _ ?_)
 refine c_seq (fun K2 hK2 => ?_)
 refine c_region ?_
 refine tc rfl (en_fn Try.call11 rfl) (shown_ok) ?_
 rintro _ _ ⟨rfl, hMR⟩
 rw [hMR]; clear hMR
 refine tp rfl (lv_assign rfl) ?_
 refine t_done ?_
 refine q_then_n (hK2 _ _ ?_)
 refine c_seq (fun K3 hK3 => ?_)
 refine c_region ?_
 refine tp rfl (lv_move rfl) ?_
 refine tp rfl (lv_and (c := n % 65536) rfl rfl (and_pow 16 (by decide) n)) ?_
 refine tp rfl (lv_rem (c := ((m : Nat) : Int)) rfl rfl (by omega) ((Int.tmod_eq_emod_of_nonneg (by omega)).trans hm)) ?_
 refine tp rfl (lv_assign rfl) ?_
 refine t_done ?_
 refine q_then_n (hK3 _ _ ?_)
 refine c_seq (fun K4 hK4 => ?_)
 refine c_region ?_
 refine tm rfl (mv_alloc Try.zeroValue43 rfl) ?_
 rintro _ _ ⟨b1, rfl, rfl⟩
 refine t_done ?_
 refine q_then_n (hK4 _ _ ?_)
 refine c_seq (fun K5 hK5 => ?_)
 refine c_seq (fun K6 hK6 => ?_)
 refine c_region ?_
 refine tp rfl (lv_assign rfl) ?_
 refine t_done ?_
 refine q_then_n (hK6 _ _ ?_)
 refine c_block ?_
 refine c_rounds 4 ?_
 refine c_round ?_
 refine c_seq (fun K7 hK7 => ?_)
 refine c_seq (fun K8 hK8 => ?_)
 refine c_region ?_
 refine tp rfl (lv_move rfl) ?_
 refine tp rfl (lv_lss (r := true) rfl rfl (by decide)) ?_
 refine t_done ?_
 refine q_then_n (hK8 _ _ ?_)
 refine c_true rfl ?_
 refine c_skip ?_
 refine q_then_n (hK7 _ _ ?_)
 refine c_seq (fun K9 hK9 => ?_)
 refine c_block ?_
 refine c_seq (fun K10 hK10 => ?_)
 refine c_region ?_
 refine tp rfl (lv_move rfl) ?_
 refine tp rfl (lv_move rfl) ?_
 refine tc rfl (en_fn Try.call12 rfl) (hnew_ok ((m : Nat) : Int)) ?_
 rintro _ _ ⟨p2, rfl, rfl⟩
 rw [show hclamp ((m : Nat) : Int) = m from hcm]
 refine tp rfl (lv_indexArr_at (k' := 0) Try.underlying43 Try.sizeOf25 rfl rfl (by decide) (by decide) rfl) ?_
 refine t_f1 ?_
 refine ts (sv_blk Try.sizeOf25 rfl rfl rfl (Nat.le_of_ble_eq_true rfl) rfl) ?_
 refine t_done ?_
 refine q_then_n (hK10 _ _ ?_)
 refine c_seq (fun K11 hK11 => ?_)
 refine c_region ?_
 refine tp rfl (lv_move rfl) ?_
 refine tp rfl (lv_indexArr_at (k' := 0) Try.underlying43 Try.sizeOf25 rfl rfl (by decide) (by decide) rfl) ?_
 refine tp rfl (lv_load Try.isAgg25 rfl (gives_blk (.head _) rfl)) ?_
 refine tp rfl (lv_eqnil Try.underlying25 rfl rfl) ?_
 refine t_done ?_
 refine q_then_n (hK11 _ _ ?_)
 refine c_false rfl ?_
 refine c_skip ?_
 refine q_in_n ?_
 refine q_then_n (hK9 _ _ ?_)
 refine c_region ?_
 refine tp rfl (lv_move rfl) ?_
 refine tp rfl (lv_add (c := 1) rfl rfl (by decide)) ?_
 refine tp rfl (lv_assign rfl) ?_
 refine t_done ?_
 refine q_then_n ?_
 refine c_round ?_
 refine c_seq (fun K12 hK12 => ?_)
 refine c_seq (fun K13 hK13 => ?_)
 refine c_region ?_
 refine tp rfl (lv_move rfl) ?_
 refine tp rfl (lv_lss (r := true) rfl rfl (by decide)) ?_
 refine t_done ?_
 refine q_then_n (hK13 _ _ ?_)
 refine c_true rfl ?_
 refine c_skip ?_
 refine q_then_n (hK12 _ _ ?_)
 refine c_seq (fun K14 hK14 => ?_)
 refine c_block ?_
 refine c_seq (fun K15 hK15 => ?_)
 refine c_region ?_
 refine tp rfl (lv_move rfl) ?_
 refine tp rfl (lv_move rfl) ?_
 refine tc rfl (en_fn Try.call12 rfl) (hnew_ok ((m : Nat) : Int)) ?_
 rintro _ _ ⟨p3, rfl, rfl⟩
 rw [show hclamp ((m : Nat) : Int) = m from hcm]
 refine tp rfl (lv_indexArr_at (k' := 1) Try.underlying43 Try.sizeOf25 rfl rfl (by decide) (by decide) rfl) ?_
 refine t_f1 ?_
 refine ts (sv_blk Try.sizeOf25 rfl rfl rfl (Nat.le_of_ble_eq_true rfl) rfl) ?_
 refine t_done ?_
 refine q_then_n (hK15 _ _ ?_)
 refine c_seq (fun K16 hK16 => ?_)
 refine c_region ?_
 refine tp rfl (lv_move rfl) ?_
 refine tp rfl (lv_indexArr_at (k' := 1) Try.underlying43 Try.sizeOf25 rfl rfl (by decide) (by decide) rfl) ?_
 refine tp rfl (lv_load Try.isAgg25 rfl (gives_blk (.head _) rfl)) ?_
 refine tp rfl (lv_eqnil Try.underlying25 rfl rfl) ?_
 refine t_done ?_
 refine q_then_n (hK16 _ _ ?_)
 refine c_false rfl ?_
 refine c_skip ?_
 refine q_in_n ?_
 refine q_then_n (hK14 _ _ ?_)
 refine c_region ?_
 refine tp rfl (lv_move rfl) ?_
 refine tp rfl (lv_add (c := 2) rfl rfl (by decide)) ?_
 refine tp rfl (lv_assign rfl) ?_
 refine t_done ?_
 refine q_then_n ?_
 refine c_round ?_
 refine c_seq (fun K17 hK17 => ?_)
 refine c_seq (fun K18 hK18 => ?_)
 refine c_region ?_
 refine tp rfl (lv_move rfl) ?_
 refine tp rfl (lv_lss (r := true) rfl rfl (by decide)) ?_
 refine t_done ?_
 refine q_then_n (hK18 _ _ ?_)
 refine c_true rfl ?_
 refine c_skip ?_
 refine q_then_n (hK17 _ _ ?_)
 refine c_seq (fun K19 hK19 => ?_)
 refine c_block ?_
 refine c_seq (fun K20 hK20 => ?_)
 refine c_region ?_
 refine tp rfl (lv_move rfl) ?_
 refine tp rfl (lv_move rfl) ?_
 refine tc rfl (en_fn Try.call12 rfl) (hnew_ok ((m : Nat) : Int)) ?_
 rintro _ _ ⟨p4, rfl, rfl⟩
 rw [show hclamp ((m : Nat) : Int) = m from hcm]
 refine tp rfl (lv_indexArr_at (k' := 2) Try.underlying43 Try.sizeOf25 rfl rfl (by decide) (by decide) rfl) ?_
 refine t_f1 ?_
 refine ts (sv_blk Try.sizeOf25 rfl rfl rfl (Nat.le_of_ble_eq_true rfl) rfl) ?_
 refine t_done ?_
 refine q_then_n (hK20 _ _ ?_)
 refine c_seq (fun K21 hK21 => ?_)
 refine c_region ?_
 refine tp rfl (lv_move rfl) ?_
 refine tp rfl (lv_indexArr_at (k' := 2) Try.underlying43 Try.sizeOf25 rfl rfl (by decide) (by decide) rfl) ?_
 refine tp rfl (lv_load Try.isAgg25 rfl (gives_blk (.head _) rfl)) ?_
 refine tp rfl (lv_eqnil Try.underlying25 rfl rfl) ?_
 refine t_done ?_
 refine q_then_n (hK21 _ _ ?_)
 refine c_false rfl ?_
 refine c_skip ?_
 refine q_in_n ?_
 refine q_then_n (hK19 _ _ ?_)
 refine c_region ?_
 refine tp rfl (lv_move rfl) ?_
 refine tp rfl (lv_add (c := 3) rfl rfl (by decide)) ?_
 refine tp rfl (lv_assign rfl) ?_
 refine t_done ?_
 refine q_then_n ?_
 refine c_round ?_
 refine c_seq (fun K22 hK22 => ?_)
 refine c_seq (fun K23 hK23 => ?_)
 refine c_region ?_
 refine tp rfl (lv_move rfl) ?_
 refine tp rfl (lv_lss (r := false) rfl rfl (by decide)) ?_
 refine t_done ?_
 refine q_then_n (hK23 _ _ ?_)
 refine c_false rfl ?_
 refine c_exit ?_
 refine q_then_x ?_
 refine q_then_x ?_
 refine q_in_x ?_
 refine q_then_n (hK5 _ _ ?_)
 refine c_seq (fun K24 hK24 => ?_)
 refine c_seq (fun K25 hK25 => ?_)
 refine c_region ?_
 refine tp rfl (lv_assign rfl) ?_
 refine t_done ?_
 refine q_then_n (hK25 _ _ ?_)
 refine c_block ?_
 refine c_loop (γ := (Nat) × (Ks) × (Ks)) (fun (i, ks, k3) => i ≤ xs.length ∧ i ≤ 100) (fun (i, ks, k3) => [(0, (.int .i64 ((m : Nat) : Int))), (1, (.slice bsb xs.length csb)), (2, (.slice bsc ys.length csc)), (7, (.bool true)), (8, (.pointer (some ⟨b1, 0, none⟩))), (9, (.int .i64 3)), (10, (.int .i64 ((i : Nat) : Int))), (24, (.bool false)), (34, (.bool false))]) (fun (i, ks, k3) => (Blk b1 [(.pointer (some ⟨p2, 0, none⟩)), (.pointer (some ⟨p3, 0, none⟩)), (.pointer (some ⟨p4, 0, none⟩))] 43) :: (HeapO p4 m k3) :: (HeapO p3 m ks) :: (HeapO p2 m ks) :: R) (fun (i, ks, k3) => xs.length - i) (0, List.replicate m none, List.replicate m none) ⟨by omega, by omega⟩ ⟨rfl, rfl, rfl, rfl, rfl, rfl, rfl, rfl, rfl, trivial⟩ (fun _ h => h) ?_
 rintro ⟨i, ks, k3⟩ K26 hF hK26
 try dsimp only at hF hK26 ⊢
 obtain ⟨hi, hi2⟩ := hF
 refine c_seq (fun K27 hK27 => ?_)
 refine c_seq (fun K28 hK28 => ?_)
 refine c_region ?_
 by_cases hc5 : ((i : Nat) : Int) < ((xs.length : Nat) : Int) ∧ ((i : Nat) : Int) < 100
 · -- both
  have hc5a := hc5.1
  have hc5b := hc5.2
  refine tp rfl (lv_move rfl) ?_
  refine tp rfl (lv_move rfl) ?_
  refine tp rfl (lv_len Try.underlying42 rfl rfl) ?_
  refine tp rfl (lv_lss rfl rfl (decide_eq_true hc5.1)) ?_
  refine tp rfl (lv_move rfl) ?_
  refine t_guard rfl rfl ?_
  refine tp rfl (lv_move rfl) ?_
  refine t_guard rfl rfl ?_
  refine tp rfl (lv_lss rfl rfl (decide_eq_true hc5.2)) ?_
  refine tp rfl (lv_pick_t rfl rfl) ?_
  refine t_done ?_
  refine q_then_n (hK28 _ _ ?_)
  refine c_true rfl ?_
  refine c_skip ?_
  refine q_then_n (hK27 _ _ ?_)
  refine c_seq (fun K29 hK29 => ?_)
  refine c_block ?_
  refine c_seq (fun K30 hK30 => ?_)
  refine c_region ?_
  refine tm rfl (mv_alloc Try.zeroValue45 rfl) ?_
  rintro _ _ ⟨b6, rfl, rfl⟩
  refine t_done ?_
  refine q_then_n (hK30 _ _ ?_)
  refine c_seq (fun K31 hK31 => ?_)
  refine c_seq (fun K32 hK32 => ?_)
  refine c_region ?_
  refine tp rfl (lv_assign rfl) ?_
  refine t_done ?_
  refine q_then_n (hK32 _ _ ?_)
  refine c_block ?_
  refine c_rounds 3 ?_
  refine c_round ?_
  refine c_seq (fun K33 hK33 => ?_)
  refine c_seq (fun K34 hK34 => ?_)
  refine c_region ?_
  refine tp rfl (lv_move rfl) ?_
  refine tp rfl (lv_lss (r := true) rfl rfl (by decide)) ?_
  refine t_done ?_
  refine q_then_n (hK34 _ _ ?_)
  refine c_true rfl ?_
  refine c_skip ?_
  refine q_then_n (hK33 _ _ ?_)
  refine c_seq (fun K35 hK35 => ?_)
  refine c_block ?_
  refine c_seq (fun K36 hK36 => ?_)
  refine c_region ?_
  refine tp rfl (lv_move rfl) ?_
  refine tp rfl (lv_move rfl) ?_
  refine tp rfl (lv_indexAddr (k' := i * 3) Try.underlying42 Try.sizeOf47 rfl rfl oksb (by omega) (by omega) (by omega)) ?_
  refine tp rfl (lv_loadAgg_ad (cs := [(.int .i64 ((xs.getD i R3.d).x)), (.int .i64 ((xs.getD i R3.d).y)), (.int .i64 ((xs.getD i R3.d).z))]) Try.isAgg47 Try.sizeOf47 rfl (gives_all3 (Rd.gives (Rd.cons (Rd.cons (Rd.cons (Rd.cons (Rd.cons hsb))))) ((recs_get (k := i) (j := 0) triF_len (d := R3.d) (by omega) (Nat.le_of_ble_eq_true rfl)).trans rfl)) (Rd.gives (Rd.cons (Rd.cons (Rd.cons (Rd.cons (Rd.cons hsb))))) ((recs_get (k := i) (j := 1) triF_len (d := R3.d) (by omega) (Nat.le_of_ble_eq_true rfl)).trans rfl)) (Rd.gives (Rd.cons (Rd.cons (Rd.cons (Rd.cons (Rd.cons hsb))))) ((recs_get (k := i) (j := 2) triF_len (d := R3.d) (by omega) (Nat.le_of_ble_eq_true rfl)).trans rfl)))) ?_
  refine tm rfl (mv_alloc Try.zeroValue47 rfl) ?_
  rintro _ _ ⟨b7, rfl, rfl⟩
  refine ts (sv_blkAgg (news := [(.int .i64 ((xs.getD i R3.d).x)), (.int .i64 ((xs.getD i R3.d).y)), (.int .i64 ((xs.getD i R3.d).z))]) Try.sizeOf47 rfl rfl rfl rfl (Nat.le_of_ble_eq_true rfl) rfl) ?_
  refine t_done ?_
  refine q_then_n (hK36 _ _ ?_)
  obtain ⟨xx, hxx⟩ : ∃ x9, (xs.getD i R3.d).x = x9 := ⟨_, rfl⟩
  rw [hxx]
  obtain ⟨xy, hxy⟩ : ∃ x9, (xs.getD i R3.d).y = x9 := ⟨_, rfl⟩
  rw [hxy]
  obtain ⟨xz, hxz⟩ : ∃ x9, (xs.getD i R3.d).z = x9 := ⟨_, rfl⟩
  rw [hxz]
  refine c_seq (fun K37 hK37 => ?_)
  have hM37 : ∀ (u9 : Nat), True ∧ True → Tri K37 W 156 [(0, (.int .i64 ((m : Nat) : Int))), (1, (.slice bsb xs.length csb)), (2, (.slice bsc ys.length csc)), (7, (.bool true)), (8, (.pointer (some ⟨b1, 0, none⟩))), (9, (.int .i64 3)), (10, (.int .i64 ((i : Nat) : Int))), (11, (.pointer (some ⟨b6, 0, none⟩))), (12, (.int .i64 0)), (13, (.pointer (some ⟨b7, 0, none⟩))), (24, (.bool false)), (34, (.bool false)), (42, (.bool true)), (46, (.bool true))] ((Blk b7 [(.int .i64 xx), (.int .i64 xy), (.int .i64 xz)] 47) :: (Blk b6 [(.int .i64 ((outG xx xy xz ks).2.1)), (.int .i64 ((outG xx xy xz ks).2.2.1)), (.int .i64 ((outG xx xy xz ks).2.2.2)), (.int .i64 0), (.int .i64 0), (.int .i64 0)] 45) :: (Blk b1 [(.pointer (some ⟨p2, 0, none⟩)), (.pointer (some ⟨p3, 0, none⟩)), (.pointer (some ⟨p4, 0, none⟩))] 43) :: (HeapO p4 m k3) :: (HeapO p3 m ks) :: (HeapO p2 m ((outG xx xy xz ks).1)) :: R) := by
   rintro u9 hF
   obtain ⟨_, _⟩ := hF
   refine hK37 _ _ ?_
   refine c_seq (fun K38 hK38 => ?_)
   refine c_region ?_
   refine tp rfl (lv_move rfl) ?_
   refine tp rfl (lv_move rfl) ?_
   refine tp rfl (lv_len Try.underlying42 rfl rfl) ?_
   by_cases h8 : ((i : Nat) : Int) < ((ys.length : Nat) : Int)
   · -- yes
    refine tp rfl (lv_lss rfl rfl (decide_eq_true h8)) ?_
    refine tp rfl (lv_move rfl) ?_
    refine t_guard rfl rfl ?_
    refine tp rfl (lv_move rfl) ?_
    refine t_guard rfl rfl ?_
    refine tp rfl (lv_eql (r := true) rfl rfl (by decide)) ?_
    refine tp rfl (lv_pick_t rfl rfl) ?_
    refine t_done ?_
    refine q_then_n (hK38 _ _ ?_)
    refine c_true rfl ?_
    refine c_seq (fun K39 hK39 => ?_)
    refine c_draw (γ := Unit) (n := 13) Try.mixed rfl rfl (fun _ S => True) (fun _ => [(0, 125, (.pointer (some ⟨b1, 2, none⟩))), (1, 126, (.pointer (some ⟨p4, 0, none⟩))), (2, 127, (.slice bsc ys.length csc)), (3, 128, (.int .i64 ((i : Nat) : Int))), (4, 129, (.pointer (some (ad bsc (i * 3))))), (5, 130, (.pointer (some (ad bsc (i * 3 + 1))))), (6, 131, (.int .i64 ((ys.getD i R3.d).y))), (7, 132, (.slice bsc ys.length csc)), (8, 133, (.int .i64 ((i : Nat) : Int))), (9, 134, (.pointer (some (ad bsc (i * 3))))), (10, 135, (.pointer (some (ad bsc (i * 3 + 2))))), (11, 136, (.int .i64 ((ys.getD i R3.d).z))), (12, 137, (.int .i64 (pushE k3 ((ys.getD i R3.d).y))))]) (fun _ S => (Blk b7 [(.int .i64 xx), (.int .i64 xy), (.int .i64 xz)] 47) :: (Blk b6 [(.int .i64 ((outG xx xy xz ks).2.1)), (.int .i64 ((outG xx xy xz ks).2.2.1)), (.int .i64 ((outG xx xy xz ks).2.2.2)), (.int .i64 0), (.int .i64 0), (.int .i64 0)] 45) :: (Blk b1 [(.pointer (some ⟨p2, 0, none⟩)), (.pointer (some ⟨p3, 0, none⟩)), (.pointer (some ⟨p4, 0, none⟩))] 43) :: (bif S 12 then (HeapO p4 m (pushK k3 ((ys.getD i R3.d).y) ((ys.getD i R3.d).z))) else (HeapO p4 m k3)) :: (HeapO p3 m ks) :: (HeapO p2 m ((outG xx xy xz ks).1)) :: R) (()) trivial (fun _ h => h) (fun _ _ h => h) ?_ ?_
    · -- steps
     refine ⟨?_, ?_, ?_, ?_, ?_, ?_, ?_, ?_, ?_, ?_, ?_, ?_, ?_, trivial⟩
     · -- 0
      rintro _ S hF hS D hp K hK
      try dsimp only at hF ⊢
      refine d_need (small := [(8, (.pointer (some ⟨b1, 0, none⟩)))]) ⟨look_b rfl rfl, trivial⟩ ?_
      refine tp rfl (lv_indexArr_at (k' := 2) Try.underlying43 Try.sizeOf25 rfl rfl (by decide) (by decide) rfl) ?_
      exact d_closes ⟨look_b rfl rfl, trivial⟩ 0 rfl rfl rfl hS (AgreeR.refl _) (t_sat (fun _ h => h) (hK () trivial))
     · -- 1
      rintro _ S hF hS D hp K hK
      try dsimp only at hF ⊢
      have s0 := hp 0 rfl
      refine d_need (small := [(125, (.pointer (some ⟨b1, 2, none⟩)))]) ⟨look_row rfl 0 rfl s0, trivial⟩ ?_
      refine tp rfl (lv_load Try.isAgg25 rfl (gives_blk (.tail _ (.tail _ (.head _))) rfl)) ?_
      exact d_closes ⟨look_row rfl 0 rfl s0, trivial⟩ 1 rfl rfl rfl hS (AgreeR.refl _) (t_sat (fun _ h => h) (hK () trivial))
     · -- 2
      rintro _ S hF hS D hp K hK
      try dsimp only at hF ⊢
      refine d_need (small := [(2, (.slice bsc ys.length csc))]) ⟨look_b rfl rfl, trivial⟩ ?_
      refine tp rfl (lv_move rfl) ?_
      exact d_closes ⟨look_b rfl rfl, trivial⟩ 2 rfl rfl rfl hS (AgreeR.refl _) (t_sat (fun _ h => h) (hK () trivial))
     · -- 3
      rintro _ S hF hS D hp K hK
      try dsimp only at hF ⊢
      refine d_need (small := [(10, (.int .i64 ((i : Nat) : Int)))]) ⟨look_b rfl rfl, trivial⟩ ?_
      refine tp rfl (lv_move rfl) ?_
      exact d_closes ⟨look_b rfl rfl, trivial⟩ 3 rfl rfl rfl hS (AgreeR.refl _) (t_sat (fun _ h => h) (hK () trivial))
     · -- 4
      rintro _ S hF hS D hp K hK
      try dsimp only at hF ⊢
      have s2 := hp 2 rfl
      have s3 := hp 3 rfl
      refine d_need (small := [(127, (.slice bsc ys.length csc)), (128, (.int .i64 ((i : Nat) : Int)))]) ⟨look_row rfl 2 rfl s2, look_row rfl 3 rfl s3, trivial⟩ ?_
      refine tp rfl (lv_indexAddr (k' := i * 3) Try.underlying42 Try.sizeOf47 rfl rfl oksc (by omega) (by omega) (by omega)) ?_
      exact d_closes ⟨look_row rfl 2 rfl s2, look_row rfl 3 rfl s3, trivial⟩ 4 rfl rfl rfl hS (AgreeR.refl _) (t_sat (fun _ h => h) (hK () trivial))
     · -- 5
      rintro _ S hF hS D hp K hK
      try dsimp only at hF ⊢
      have s4 := hp 4 rfl
      refine d_need (small := [(129, (.pointer (some (ad bsc (i * 3)))))]) ⟨look_row rfl 4 rfl s4, trivial⟩ ?_
      refine tp rfl (lv_fieldAddr_ad (o' := i * 3 + 1) Try.underlying47 rfl Try.sizeOf3 rfl rfl) ?_
      exact d_closes ⟨look_row rfl 4 rfl s4, trivial⟩ 5 rfl rfl rfl hS (AgreeR.refl _) (t_sat (fun _ h => h) (hK () trivial))
     · -- 6
      rintro _ S hF hS D hp K hK
      try dsimp only at hF ⊢
      have s5 := hp 5 rfl
      refine d_need (small := [(130, (.pointer (some (ad bsc (i * 3 + 1)))))]) ⟨look_row rfl 5 rfl s5, trivial⟩ ?_
      refine tp rfl (lv_load Try.isAgg3 rfl (Rd.gives (Rd.cons (Rd.cons (Rd.cons (Rd.cons (Rd.cons (Rd.cons hsc)))))) ((recs_get (k := i) (j := 1) triF_len (d := R3.d) (by first | omega | (simp; omega)) (Nat.le_of_ble_eq_true rfl)).trans rfl))) ?_
      exact d_closes ⟨look_row rfl 5 rfl s5, trivial⟩ 6 rfl rfl rfl hS (AgreeR.refl _) (t_sat (fun _ h => h) (hK () trivial))
     · -- 7
      rintro _ S hF hS D hp K hK
      try dsimp only at hF ⊢
      refine d_need (small := [(2, (.slice bsc ys.length csc))]) ⟨look_b rfl rfl, trivial⟩ ?_
      refine tp rfl (lv_move rfl) ?_
      exact d_closes ⟨look_b rfl rfl, trivial⟩ 7 rfl rfl rfl hS (AgreeR.refl _) (t_sat (fun _ h => h) (hK () trivial))
     · -- 8
      rintro _ S hF hS D hp K hK
      try dsimp only at hF ⊢
      refine d_need (small := [(10, (.int .i64 ((i : Nat) : Int)))]) ⟨look_b rfl rfl, trivial⟩ ?_
      refine tp rfl (lv_move rfl) ?_
      exact d_closes ⟨look_b rfl rfl, trivial⟩ 8 rfl rfl rfl hS (AgreeR.refl _) (t_sat (fun _ h => h) (hK () trivial))
     · -- 9
      rintro _ S hF hS D hp K hK
      try dsimp only at hF ⊢
      have s7 := hp 7 rfl
      have s8 := hp 8 rfl
      refine d_need (small := [(132, (.slice bsc ys.length csc)), (133, (.int .i64 ((i : Nat) : Int)))]) ⟨look_row rfl 7 rfl s7, look_row rfl 8 rfl s8, trivial⟩ ?_
      refine tp rfl (lv_indexAddr (k' := i * 3) Try.underlying42 Try.sizeOf47 rfl rfl oksc (by omega) (by omega) (by omega)) ?_
      exact d_closes ⟨look_row rfl 7 rfl s7, look_row rfl 8 rfl s8, trivial⟩ 9 rfl rfl rfl hS (AgreeR.refl _) (t_sat (fun _ h => h) (hK () trivial))
     · -- 10
      rintro _ S hF hS D hp K hK
      try dsimp only at hF ⊢
      have s9 := hp 9 rfl
      refine d_need (small := [(134, (.pointer (some (ad bsc (i * 3)))))]) ⟨look_row rfl 9 rfl s9, trivial⟩ ?_
      refine tp rfl (lv_fieldAddr_ad (o' := i * 3 + 2) Try.underlying47 rfl Try.sizeOf3 rfl rfl) ?_
      exact d_closes ⟨look_row rfl 9 rfl s9, trivial⟩ 10 rfl rfl rfl hS (AgreeR.refl _) (t_sat (fun _ h => h) (hK () trivial))
     · -- 11
      rintro _ S hF hS D hp K hK
      try dsimp only at hF ⊢
      have s10 := hp 10 rfl
      refine d_need (small := [(135, (.pointer (some (ad bsc (i * 3 + 2)))))]) ⟨look_row rfl 10 rfl s10, trivial⟩ ?_
      refine tp rfl (lv_load Try.isAgg3 rfl (Rd.gives (Rd.cons (Rd.cons (Rd.cons (Rd.cons (Rd.cons (Rd.cons hsc)))))) ((recs_get (k := i) (j := 2) triF_len (d := R3.d) (by first | omega | (simp; omega)) (Nat.le_of_ble_eq_true rfl)).trans rfl))) ?_
      exact d_closes ⟨look_row rfl 10 rfl s10, trivial⟩ 11 rfl rfl rfl hS (AgreeR.refl _) (t_sat (fun _ h => h) (hK () trivial))
     · -- 12
      rintro _ S hF hS D hp K hK
      try dsimp only at hF ⊢
      have s1 := hp 1 rfl
      have s6 := hp 6 rfl
      have s11 := hp 11 rfl
      refine d_need (small := [(126, (.pointer (some ⟨p4, 0, none⟩))), (131, (.int .i64 ((ys.getD i R3.d).y))), (136, (.int .i64 ((ys.getD i R3.d).z)))]) ⟨look_row rfl 1 rfl s1, look_row rfl 6 rfl s6, look_row rfl 11 rfl s11, trivial⟩ ?_
      refine t_f3 ?_
      refine t_cF hS ?_
      refine tc rfl (en_fn Try.call13 rfl) (hpush_ok (n := m) (ks := k3) ((ys.getD i R3.d).y) ((ys.getD i R3.d).z)) ?_
      rintro _ _ ⟨rfl, rfl⟩
      refine t_f3 ?_
      refine t_f3 ?_
      refine t_f3 ?_
      exact d_closes ⟨look_row rfl 1 rfl s1, look_row rfl 6 rfl s6, look_row rfl 11 rfl s11, trivial⟩ 12 rfl rfl rfl hS (AgreeR.refl _) (t_sat (fun _ h => h) (hK () trivial))
    · -- behind
     rintro _ hF
     try dsimp only at hF ⊢
     refine t_weak (E' := [(0, (.int .i64 ((m : Nat) : Int))), (1, (.slice bsb xs.length csb)), (2, (.slice bsc ys.length csc)), (7, (.bool true)), (8, (.pointer (some ⟨b1, 0, none⟩))), (9, (.int .i64 3)), (10, (.int .i64 ((i : Nat) : Int))), (11, (.pointer (some ⟨b6, 0, none⟩))), (12, (.int .i64 0)), (13, (.pointer (some ⟨b7, 0, none⟩))), (24, (.bool false)), (34, (.bool false)), (42, (.bool true)), (46, (.bool true)), (124, (.bool true))]) ⟨rfl, rfl, rfl, rfl, rfl, rfl, rfl, rfl, rfl, rfl, rfl, rfl, rfl, rfl, rfl, trivial⟩ ?_
     refine q_then_n (hK39 _ _ ?_)
     refine c_region ?_
     refine tp rfl (lv_indexArr_at (k' := 2) Try.underlying43 Try.sizeOf25 rfl rfl (by decide) (by decide) rfl) ?_
     refine tp rfl (lv_load Try.isAgg25 rfl (gives_blk (.tail _ (.tail _ (.head _))) rfl)) ?_
     refine t_f3 ?_
     refine tc rfl (en_fn Try.call14 rfl) (hpop_ok (n := m) (ks := pushK k3 ((ys.getD i R3.d).y) ((ys.getD i R3.d).z)) ) ?_
     rintro _ _ ⟨rfl, rfl⟩
     refine t_done ?_
     refine q_in_n ?_
     refine q_then_n (hK35 _ _ ?_)
     refine c_region ?_
     refine tp rfl (lv_move rfl) ?_
     refine tp rfl (lv_add (c := 1) rfl rfl (by decide)) ?_
     refine tp rfl (lv_assign rfl) ?_
     refine t_done ?_
     refine q_then_n ?_
     refine c_round ?_
     refine c_seq (fun K40 hK40 => ?_)
     refine c_seq (fun K41 hK41 => ?_)
     refine c_region ?_
     refine tp rfl (lv_move rfl) ?_
     refine tp rfl (lv_lss (r := true) rfl rfl (by decide)) ?_
     refine t_done ?_
     refine q_then_n (hK41 _ _ ?_)
     refine c_true rfl ?_
     refine c_skip ?_
     refine q_then_n (hK40 _ _ ?_)
     refine c_seq (fun K42 hK42 => ?_)
     refine c_block ?_
     refine c_seq (fun K43 hK43 => ?_)
     refine c_region ?_
     refine tp rfl (lv_move rfl) ?_
     refine tp rfl (lv_move rfl) ?_
     refine tp rfl (lv_indexAddr (k' := i * 3) Try.underlying42 Try.sizeOf47 rfl rfl oksb (by omega) (by omega) (by omega)) ?_
     refine tp rfl (lv_loadAgg_ad (cs := [(.int .i64 ((xs.getD i R3.d).x)), (.int .i64 ((xs.getD i R3.d).y)), (.int .i64 ((xs.getD i R3.d).z))]) Try.isAgg47 Try.sizeOf47 rfl (gives_all3 (Rd.gives (Rd.cons (Rd.cons (Rd.cons (Rd.cons (Rd.cons (Rd.cons hsb)))))) ((recs_get (k := i) (j := 0) triF_len (d := R3.d) (by omega) (Nat.le_of_ble_eq_true rfl)).trans rfl)) (Rd.gives (Rd.cons (Rd.cons (Rd.cons (Rd.cons (Rd.cons (Rd.cons hsb)))))) ((recs_get (k := i) (j := 1) triF_len (d := R3.d) (by omega) (Nat.le_of_ble_eq_true rfl)).trans rfl)) (Rd.gives (Rd.cons (Rd.cons (Rd.cons (Rd.cons (Rd.cons (Rd.cons hsb)))))) ((recs_get (k := i) (j := 2) triF_len (d := R3.d) (by omega) (Nat.le_of_ble_eq_true rfl)).trans rfl)))) ?_
     refine tm rfl (mv_alloc Try.zeroValue47 rfl) ?_
     rintro _ _ ⟨b9, rfl, rfl⟩
     refine ts (sv_blkAgg (news := [(.int .i64 ((xs.getD i R3.d).x)), (.int .i64 ((xs.getD i R3.d).y)), (.int .i64 ((xs.getD i R3.d).z))]) Try.sizeOf47 rfl rfl rfl rfl (Nat.le_of_ble_eq_true rfl) rfl) ?_
     refine t_done ?_
     refine q_then_n (hK43 _ _ ?_)
     rw [hxx, hxy, hxz]
     refine t_f2 ?_
     refine t_drop ?_
     refine c_seq (fun K44 hK44 => ?_)
     have hM44 : ∀ (u9 : Nat), True ∧ True → Tri K44 W 156 [(0, (.int .i64 ((m : Nat) : Int))), (1, (.slice bsb xs.length csb)), (2, (.slice bsc ys.length csc)), (7, (.bool true)), (8, (.pointer (some ⟨b1, 0, none⟩))), (9, (.int .i64 3)), (10, (.int .i64 ((i : Nat) : Int))), (11, (.pointer (some ⟨b6, 0, none⟩))), (12, (.int .i64 1)), (13, (.pointer (some ⟨b9, 0, none⟩))), (24, (.bool false)), (34, (.bool false)), (42, (.bool true)), (46, (.bool true)), (124, (.bool true))] ((Blk b9 [(.int .i64 xx), (.int .i64 xy), (.int .i64 xz)] 47) :: (HeapO p4 m (popK (pushK k3 ((ys.getD i R3.d).y) ((ys.getD i R3.d).z)))) :: (Blk b6 [(.int .i64 ((outG xx xy xz ks).2.1)), (.int .i64 ((outG xx xy xz ks).2.2.1)), (.int .i64 ((outG xx xy xz ks).2.2.2)), (.int .i64 ((outG xx xy xz ks).2.1)), (.int .i64 ((outG xx xy xz ks).2.2.1)), (.int .i64 ((outG xx xy xz ks).2.2.2))] 45) :: (Blk b1 [(.pointer (some ⟨p2, 0, none⟩)), (.pointer (some ⟨p3, 0, none⟩)), (.pointer (some ⟨p4, 0, none⟩))] 43) :: (HeapO p3 m ((outG xx xy xz ks).1)) :: (HeapO p2 m ((outG xx xy xz ks).1)) :: R) := by
      rintro u9 hF
      obtain ⟨_, _⟩ := hF
      refine hK44 _ _ ?_
      refine c_seq (fun K45 hK45 => ?_)
      refine c_region ?_
      refine tp rfl (lv_move rfl) ?_
      refine tp rfl (lv_move rfl) ?_
      refine tp rfl (lv_len Try.underlying42 rfl rfl) ?_
      by_cases h10 : ((i : Nat) : Int) < ((ys.length : Nat) : Int)
      · -- yes
       refine tp rfl (lv_lss rfl rfl (decide_eq_true h10)) ?_
       refine tp rfl (lv_move rfl) ?_
       refine t_guard rfl rfl ?_
       refine tp rfl (lv_move rfl) ?_
       refine t_guard rfl rfl ?_
       refine tp rfl (lv_eql (r := false) rfl rfl (by decide)) ?_
       refine tp rfl (lv_pick_t rfl rfl) ?_
       refine t_done ?_
       refine q_then_n (hK45 _ _ ?_)
       refine c_false rfl ?_
       refine c_skip ?_
       refine q_in_n ?_
       refine q_then_n (hK42 _ _ ?_)
       refine c_region ?_
       refine tp rfl (lv_move rfl) ?_
       refine tp rfl (lv_add (c := 2) rfl rfl (by decide)) ?_
       refine tp rfl (lv_assign rfl) ?_
       refine t_done ?_
       refine q_then_n ?_
       refine c_round ?_
       refine c_seq (fun K46 hK46 => ?_)
       refine c_seq (fun K47 hK47 => ?_)
       refine c_region ?_
       refine tp rfl (lv_move rfl) ?_
       refine tp rfl (lv_lss (r := false) rfl rfl (by decide)) ?_
       refine t_done ?_
       refine q_then_n (hK47 _ _ ?_)
       refine c_false rfl ?_
       refine c_exit ?_
       refine q_then_x ?_
       refine q_then_x ?_
       refine q_in_x ?_
       refine q_then_n (hK31 _ _ ?_)
       refine c_seq (fun K48 hK48 => ?_)
       refine c_draw (γ := Unit) (n := 14) Try.mixed rfl rfl (fun _ S => True) (fun _ => [(0, 141, (.pointer (some ⟨b6, 0, none⟩))), (1, 142, (.agg #[(.int .i64 ((outG xx xy xz ks).2.1)), (.int .i64 ((outG xx xy xz ks).2.2.1)), (.int .i64 ((outG xx xy xz ks).2.2.2))])), (2, 143, (.pointer (some ⟨b6, 3, none⟩))), (3, 144, (.agg #[(.int .i64 ((outG xx xy xz ks).2.1)), (.int .i64 ((outG xx xy xz ks).2.2.1)), (.int .i64 ((outG xx xy xz ks).2.2.2))])), (4, 145, (.bool false)), (5, 146, (.bool false)), (6, 147, (.pointer (some ⟨b1, 0, none⟩))), (7, 148, (.pointer (some ⟨p2, 0, none⟩))), (8, 149, (.int .i64 ((cntK ((outG xx xy xz ks).1) : Nat) : Int))), (9, 150, (.pointer (some ⟨b1, 1, none⟩))), (10, 151, (.pointer (some ⟨p3, 0, none⟩))), (11, 152, (.int .i64 ((cntK ((outG xx xy xz ks).1) : Nat) : Int))), (12, 153, (.bool false)), (13, 154, (.bool false))]) (fun _ S => (Blk b9 [(.int .i64 xx), (.int .i64 xy), (.int .i64 xz)] 47) :: (HeapO p4 m (popK (pushK k3 ((ys.getD i R3.d).y) ((ys.getD i R3.d).z)))) :: (Blk b6 [(.int .i64 ((outG xx xy xz ks).2.1)), (.int .i64 ((outG xx xy xz ks).2.2.1)), (.int .i64 ((outG xx xy xz ks).2.2.2)), (.int .i64 ((outG xx xy xz ks).2.1)), (.int .i64 ((outG xx xy xz ks).2.2.1)), (.int .i64 ((outG xx xy xz ks).2.2.2))] 45) :: (Blk b1 [(.pointer (some ⟨p2, 0, none⟩)), (.pointer (some ⟨p3, 0, none⟩)), (.pointer (some ⟨p4, 0, none⟩))] 43) :: (HeapO p3 m ((outG xx xy xz ks).1)) :: (HeapO p2 m ((outG xx xy xz ks).1)) :: R) (()) trivial (fun _ h => h) (fun _ _ h => h) ?_ ?_
       · -- steps
        refine ⟨?_, ?_, ?_, ?_, ?_, ?_, ?_, ?_, ?_, ?_, ?_, ?_, ?_, ?_, trivial⟩
        · -- 0
         rintro _ S hF hS D hp K hK
         try dsimp only at hF ⊢
         refine d_need (small := [(11, (.pointer (some ⟨b6, 0, none⟩)))]) ⟨look_b rfl rfl, trivial⟩ ?_
         refine tp rfl (lv_indexArr_at (k' := 0) Try.underlying45 Try.sizeOf44 rfl rfl (by decide) (by decide) rfl) ?_
         exact d_closes ⟨look_b rfl rfl, trivial⟩ 0 rfl rfl rfl hS (AgreeR.refl _) (t_sat (fun _ h => h) (hK () trivial))
        · -- 1
         rintro _ S hF hS D hp K hK
         try dsimp only at hF ⊢
         have s0 := hp 0 rfl
         refine d_need (small := [(141, (.pointer (some ⟨b6, 0, none⟩)))]) ⟨look_row rfl 0 rfl s0, trivial⟩ ?_
         refine tp rfl (lv_loadAgg (cs := [(.int .i64 ((outG xx xy xz ks).2.1)), (.int .i64 ((outG xx xy xz ks).2.2.1)), (.int .i64 ((outG xx xy xz ks).2.2.2))]) Try.isAgg44 Try.sizeOf44 rfl (gives_all3 (gives_blk (.tail _ (.tail _ (.head _))) rfl) (gives_blk (.tail _ (.tail _ (.head _))) rfl) (gives_blk (.tail _ (.tail _ (.head _))) rfl))) ?_
         exact d_closes ⟨look_row rfl 0 rfl s0, trivial⟩ 1 rfl rfl rfl hS (AgreeR.refl _) (t_sat (fun _ h => h) (hK () trivial))
        · -- 2
         rintro _ S hF hS D hp K hK
         try dsimp only at hF ⊢
         refine d_need (small := [(11, (.pointer (some ⟨b6, 0, none⟩)))]) ⟨look_b rfl rfl, trivial⟩ ?_
         refine tp rfl (lv_indexArr_at (k' := 3) Try.underlying45 Try.sizeOf44 rfl rfl (by decide) (by decide) rfl) ?_
         exact d_closes ⟨look_b rfl rfl, trivial⟩ 2 rfl rfl rfl hS (AgreeR.refl _) (t_sat (fun _ h => h) (hK () trivial))
        · -- 3
         rintro _ S hF hS D hp K hK
         try dsimp only at hF ⊢
         have s2 := hp 2 rfl
         refine d_need (small := [(143, (.pointer (some ⟨b6, 3, none⟩)))]) ⟨look_row rfl 2 rfl s2, trivial⟩ ?_
         refine tp rfl (lv_loadAgg (cs := [(.int .i64 ((outG xx xy xz ks).2.1)), (.int .i64 ((outG xx xy xz ks).2.2.1)), (.int .i64 ((outG xx xy xz ks).2.2.2))]) Try.isAgg44 Try.sizeOf44 rfl (gives_all3 (gives_blk (.tail _ (.tail _ (.head _))) rfl) (gives_blk (.tail _ (.tail _ (.head _))) rfl) (gives_blk (.tail _ (.tail _ (.head _))) rfl))) ?_
         exact d_closes ⟨look_row rfl 2 rfl s2, trivial⟩ 3 rfl rfl rfl hS (AgreeR.refl _) (t_sat (fun _ h => h) (hK () trivial))
        · -- 4
         rintro _ S hF hS D hp K hK
         try dsimp only at hF ⊢
         have s1 := hp 1 rfl
         have s3 := hp 3 rfl
         refine d_need (small := [(142, (.agg #[(.int .i64 ((outG xx xy xz ks).2.1)), (.int .i64 ((outG xx xy xz ks).2.2.1)), (.int .i64 ((outG xx xy xz ks).2.2.2))])), (144, (.agg #[(.int .i64 ((outG xx xy xz ks).2.1)), (.int .i64 ((outG xx xy xz ks).2.2.1)), (.int .i64 ((outG xx xy xz ks).2.2.2))]))]) ⟨look_row rfl 1 rfl s1, look_row rfl 3 rfl s3, trivial⟩ ?_
         refine tp rfl (lv_neqA3 Try.underlying44 Try.underlying3 Try.type3 (by kernel_rfl) Try.isAgg3 (by kernel_rfl) rfl rfl) ?_
         exact d_closes ⟨look_row rfl 1 rfl s1, look_row rfl 3 rfl s3, trivial⟩ 4 rfl rfl rfl hS (AgreeR.refl _) (t_sat (fun _ h => h) (hK () trivial))
        · -- 5
         rintro _ S hF hS D hp K hK
         try dsimp only at hF ⊢
         have s4 := hp 4 rfl
         refine d_need (small := [(145, (.bool false))]) ⟨look_row rfl 4 rfl s4, trivial⟩ ?_
         refine tp rfl (lv_move rfl) ?_
         exact d_closes ⟨look_row rfl 4 rfl s4, trivial⟩ 5 rfl rfl rfl hS (AgreeR.refl _) (t_sat (fun _ h => h) (hK () trivial))
        · -- 6
         rintro _ S hF hS D hp K hK
         try dsimp only at hF ⊢
         have s5 := hp 5 rfl
         refine d_need (small := [(8, (.pointer (some ⟨b1, 0, none⟩))), (146, (.bool false))]) ⟨look_b rfl rfl, look_row rfl 5 rfl s5, trivial⟩ ?_
         refine t_guard rfl rfl ?_
         refine tp rfl (lv_indexArr_at (k' := 0) Try.underlying43 Try.sizeOf25 rfl rfl (by decide) (by decide) rfl) ?_
         exact d_closes ⟨look_b rfl rfl, look_row rfl 5 rfl s5, trivial⟩ 6 rfl rfl rfl hS (AgreeR.refl _) (t_sat (fun _ h => h) (hK () trivial))
        · -- 7
         rintro _ S hF hS D hp K hK
         try dsimp only at hF ⊢
         have s5 := hp 5 rfl
         have s6 := hp 6 rfl
         refine d_need (small := [(146, (.bool false)), (147, (.pointer (some ⟨b1, 0, none⟩)))]) ⟨look_row rfl 5 rfl s5, look_row rfl 6 rfl s6, trivial⟩ ?_
         refine t_guard rfl rfl ?_
         refine tp rfl (lv_load Try.isAgg25 rfl (gives_blk (.tail _ (.tail _ (.tail _ (.head _)))) rfl)) ?_
         exact d_closes ⟨look_row rfl 5 rfl s5, look_row rfl 6 rfl s6, trivial⟩ 7 rfl rfl rfl hS (AgreeR.refl _) (t_sat (fun _ h => h) (hK () trivial))
        · -- 8
         rintro _ S hF hS D hp K hK
         try dsimp only at hF ⊢
         have s5 := hp 5 rfl
         have s7 := hp 7 rfl
         refine d_need (small := [(146, (.bool false)), (148, (.pointer (some ⟨p2, 0, none⟩)))]) ⟨look_row rfl 5 rfl s5, look_row rfl 7 rfl s7, trivial⟩ ?_
         refine t_guard rfl rfl ?_
         refine t_f5 ?_
         refine tc rfl (en_fn Try.call15 rfl) (hlen_ok (n := m) (ks := (outG xx xy xz ks).1) ) ?_
         rintro _ _ ⟨rfl, rfl⟩
         refine t_f5 ?_
         refine t_f5 ?_
         refine t_f5 ?_
         refine t_f5 ?_
         refine t_f5 ?_
         exact d_closes ⟨look_row rfl 5 rfl s5, look_row rfl 7 rfl s7, trivial⟩ 8 rfl rfl rfl hS (AgreeR.refl _) (t_sat (fun _ h => h) (hK () trivial))
        · -- 9
         rintro _ S hF hS D hp K hK
         try dsimp only at hF ⊢
         have s5 := hp 5 rfl
         refine d_need (small := [(8, (.pointer (some ⟨b1, 0, none⟩))), (146, (.bool false))]) ⟨look_b rfl rfl, look_row rfl 5 rfl s5, trivial⟩ ?_
         refine t_guard rfl rfl ?_
         refine tp rfl (lv_indexArr_at (k' := 1) Try.underlying43 Try.sizeOf25 rfl rfl (by decide) (by decide) rfl) ?_
         exact d_closes ⟨look_b rfl rfl, look_row rfl 5 rfl s5, trivial⟩ 9 rfl rfl rfl hS (AgreeR.refl _) (t_sat (fun _ h => h) (hK () trivial))
        · -- 10
         rintro _ S hF hS D hp K hK
         try dsimp only at hF ⊢
         have s5 := hp 5 rfl
         have s9 := hp 9 rfl
         refine d_need (small := [(146, (.bool false)), (150, (.pointer (some ⟨b1, 1, none⟩)))]) ⟨look_row rfl 5 rfl s5, look_row rfl 9 rfl s9, trivial⟩ ?_
         refine t_guard rfl rfl ?_
         refine tp rfl (lv_load Try.isAgg25 rfl (gives_blk (.tail _ (.tail _ (.tail _ (.head _)))) rfl)) ?_
         exact d_closes ⟨look_row rfl 5 rfl s5, look_row rfl 9 rfl s9, trivial⟩ 10 rfl rfl rfl hS (AgreeR.refl _) (t_sat (fun _ h => h) (hK () trivial))
        · -- 11
         rintro _ S hF hS D hp K hK
         try dsimp only at hF ⊢
         have s5 := hp 5 rfl
         have s10 := hp 10 rfl
         refine d_need (small := [(146, (.bool false)), (151, (.pointer (some ⟨p3, 0, none⟩)))]) ⟨look_row rfl 5 rfl s5, look_row rfl 10 rfl s10, trivial⟩ ?_
         refine t_guard rfl rfl ?_
         refine t_f4 ?_
         refine tc rfl (en_fn Try.call15 rfl) (hlen_ok (n := m) (ks := (outG xx xy xz ks).1) ) ?_
         rintro _ _ ⟨rfl, rfl⟩
         refine t_f4 ?_
         refine t_f4 ?_
         refine t_f4 ?_
         refine t_f4 ?_
         exact d_closes ⟨look_row rfl 5 rfl s5, look_row rfl 10 rfl s10, trivial⟩ 11 rfl rfl rfl hS (AgreeR.refl _) (t_sat (fun _ h => h) (hK () trivial))
        · -- 12
         rintro _ S hF hS D hp K hK
         try dsimp only at hF ⊢
         have s5 := hp 5 rfl
         have s8 := hp 8 rfl
         have s11 := hp 11 rfl
         refine d_need (small := [(146, (.bool false)), (149, (.int .i64 ((cntK ((outG xx xy xz ks).1) : Nat) : Int))), (152, (.int .i64 ((cntK ((outG xx xy xz ks).1) : Nat) : Int)))]) ⟨look_row rfl 5 rfl s5, look_row rfl 8 rfl s8, look_row rfl 11 rfl s11, trivial⟩ ?_
         refine t_guard rfl rfl ?_
         refine tp rfl (lv_neq rfl rfl (bne_eq_false_iff_eq.2 rfl)) ?_
         exact d_closes ⟨look_row rfl 5 rfl s5, look_row rfl 8 rfl s8, look_row rfl 11 rfl s11, trivial⟩ 12 rfl rfl rfl hS (AgreeR.refl _) (t_sat (fun _ h => h) (hK () trivial))
        · -- 13
         rintro _ S hF hS D hp K hK
         try dsimp only at hF ⊢
         have s5 := hp 5 rfl
         have s12 := hp 12 rfl
         refine d_need (small := [(146, (.bool false)), (153, (.bool false))]) ⟨look_row rfl 5 rfl s5, look_row rfl 12 rfl s12, trivial⟩ ?_
         refine tp rfl (lv_pick_f rfl rfl) ?_
         exact d_closes ⟨look_row rfl 5 rfl s5, look_row rfl 12 rfl s12, trivial⟩ 13 rfl rfl rfl hS (AgreeR.refl _) (t_sat (fun _ h => h) (hK () trivial))
       · -- behind
        rintro _ hF
        try dsimp only at hF ⊢
        refine t_weak (E' := [(0, (.int .i64 ((m : Nat) : Int))), (1, (.slice bsb xs.length csb)), (2, (.slice bsc ys.length csc)), (7, (.bool true)), (8, (.pointer (some ⟨b1, 0, none⟩))), (9, (.int .i64 3)), (10, (.int .i64 ((i : Nat) : Int))), (11, (.pointer (some ⟨b6, 0, none⟩))), (12, (.int .i64 2)), (13, (.pointer (some ⟨b9, 0, none⟩))), (24, (.bool false)), (34, (.bool false)), (42, (.bool true)), (46, (.bool false)), (124, (.bool false)), (154, (.bool false))]) ⟨rfl, rfl, rfl, rfl, rfl, rfl, rfl, rfl, rfl, rfl, rfl, rfl, rfl, rfl, rfl, rfl, trivial⟩ ?_
        refine q_then_n (hK48 _ _ ?_)
        refine c_false rfl ?_
        refine c_skip ?_
        refine q_in_n ?_
        refine q_then_n (hK29 _ _ ?_)
        refine c_region ?_
        refine tp rfl (lv_move rfl) ?_
        refine tp rfl (lv_add (c := ((i + 1 : Nat) : Int)) rfl rfl (wr_i64_succ (by omega))) ?_
        refine tp rfl (lv_assign rfl) ?_
        refine t_done ?_
        refine q_then_n ?_
        refine t_drop ?_
        refine t_f1 ?_
        refine t_drop ?_
        refine t_f1 ?_
        exact t_weak (by exact ⟨rfl, rfl, rfl, rfl, rfl, rfl, rfl, rfl, rfl, trivial⟩) ((hK26 (i + 1, (outG xx xy xz ks).1, popK (pushK k3 ((ys.getD i R3.d).y) ((ys.getD i R3.d).z))) ⟨by dsimp only; omega, by dsimp only; omega⟩ (by dsimp only; omega)))
      · -- no
       refine tp rfl (lv_lss rfl rfl (decide_eq_false h10)) ?_
       refine tp rfl (lv_move rfl) ?_
       refine t_skip rfl rfl rfl ?_
       refine t_skip rfl rfl rfl ?_
       refine tp rfl (lv_pick_f rfl rfl) ?_
       refine t_done ?_
       refine q_then_n (hK45 _ _ ?_)
       refine c_false rfl ?_
       refine c_skip ?_
       refine q_in_n ?_
       refine q_then_n (hK42 _ _ ?_)
       refine c_region ?_
       refine tp rfl (lv_move rfl) ?_
       refine tp rfl (lv_add (c := 2) rfl rfl (by decide)) ?_
       refine tp rfl (lv_assign rfl) ?_
       refine t_done ?_
       refine q_then_n ?_
       refine c_round ?_
       refine c_seq (fun K46 hK46 => ?_)
       refine c_seq (fun K47 hK47 => ?_)
       refine c_region ?_
       refine tp rfl (lv_move rfl) ?_
       refine tp rfl (lv_lss (r := false) rfl rfl (by decide)) ?_
       refine t_done ?_
       refine q_then_n (hK47 _ _ ?_)
       refine c_false rfl ?_
       refine c_exit ?_
       refine q_then_x ?_
       refine q_then_x ?_
       refine q_in_x ?_
       refine q_then_n (hK31 _ _ ?_)
       refine c_seq (fun K48 hK48 => ?_)
       refine c_draw (γ := Unit) (n := 14) Try.mixed rfl rfl (fun _ S => True) (fun _ => [(0, 141, (.pointer (some ⟨b6, 0, none⟩))), (1, 142, (.agg #[(.int .i64 ((outG xx xy xz ks).2.1)), (.int .i64 ((outG xx xy xz ks).2.2.1)), (.int .i64 ((outG xx xy xz ks).2.2.2))])), (2, 143, (.pointer (some ⟨b6, 3, none⟩))), (3, 144, (.agg #[(.int .i64 ((outG xx xy xz ks).2.1)), (.int .i64 ((outG xx xy xz ks).2.2.1)), (.int .i64 ((outG xx xy xz ks).2.2.2))])), (4, 145, (.bool false)), (5, 146, (.bool false)), (6, 147, (.pointer (some ⟨b1, 0, none⟩))), (7, 148, (.pointer (some ⟨p2, 0, none⟩))), (8, 149, (.int .i64 ((cntK ((outG xx xy xz ks).1) : Nat) : Int))), (9, 150, (.pointer (some ⟨b1, 1, none⟩))), (10, 151, (.pointer (some ⟨p3, 0, none⟩))), (11, 152, (.int .i64 ((cntK ((outG xx xy xz ks).1) : Nat) : Int))), (12, 153, (.bool false)), (13, 154, (.bool false))]) (fun _ S => (Blk b9 [(.int .i64 xx), (.int .i64 xy), (.int .i64 xz)] 47) :: (HeapO p4 m (popK (pushK k3 ((ys.getD i R3.d).y) ((ys.getD i R3.d).z)))) :: (Blk b6 [(.int .i64 ((outG xx xy xz ks).2.1)), (.int .i64 ((outG xx xy xz ks).2.2.1)), (.int .i64 ((outG xx xy xz ks).2.2.2)), (.int .i64 ((outG xx xy xz ks).2.1)), (.int .i64 ((outG xx xy xz ks).2.2.1)), (.int .i64 ((outG xx xy xz ks).2.2.2))] 45) :: (Blk b1 [(.pointer (some ⟨p2, 0, none⟩)), (.pointer (some ⟨p3, 0, none⟩)), (.pointer (some ⟨p4, 0, none⟩))] 43) :: (HeapO p3 m ((outG xx xy xz ks).1)) :: (HeapO p2 m ((outG xx xy xz ks).1)) :: R) (()) trivial (fun _ h => h) (fun _ _ h => h) ?_ ?_
       · -- steps
        refine ⟨?_, ?_, ?_, ?_, ?_, ?_, ?_, ?_, ?_, ?_, ?_, ?_, ?_, ?_, trivial⟩
        · -- 0
         rintro _ S hF hS D hp K hK
         try dsimp only at hF ⊢
         refine d_need (small := [(11, (.pointer (some ⟨b6, 0, none⟩)))]) ⟨look_b rfl rfl, trivial⟩ ?_
         refine tp rfl (lv_indexArr_at (k' := 0) Try.underlying45 Try.sizeOf44 rfl rfl (by decide) (by decide) rfl) ?_
         exact d_closes ⟨look_b rfl rfl, trivial⟩ 0 rfl rfl rfl hS (AgreeR.refl _) (t_sat (fun _ h => h) (hK () trivial))
        · -- 1
         rintro _ S hF hS D hp K hK
         try dsimp only at hF ⊢
         have s0 := hp 0 rfl
         refine d_need (small := [(141, (.pointer (some ⟨b6, 0, none⟩)))]) ⟨look_row rfl 0 rfl s0, trivial⟩ ?_
         refine tp rfl (lv_loadAgg (cs := [(.int .i64 ((outG xx xy xz ks).2.1)), (.int .i64 ((outG xx xy xz ks).2.2.1)), (.int .i64 ((outG xx xy xz ks).2.2.2))]) Try.isAgg44 Try.sizeOf44 rfl (gives_all3 (gives_blk (.tail _ (.tail _ (.head _))) rfl) (gives_blk (.tail _ (.tail _ (.head _))) rfl) (gives_blk (.tail _ (.tail _ (.head _))) rfl))) ?_
         exact d_closes ⟨look_row rfl 0 rfl s0, trivial⟩ 1 rfl rfl rfl hS (AgreeR.refl _) (t_sat (fun _ h => h) (hK () trivial))
        · -- 2
         rintro _ S hF hS D hp K hK
         try dsimp only at hF ⊢
         refine d_need (small := [(11, (.pointer (some ⟨b6, 0, none⟩)))]) ⟨look_b rfl rfl, trivial⟩ ?_
         refine tp rfl (lv_indexArr_at (k' := 3) Try.underlying45 Try.sizeOf44 rfl rfl (by decide) (by decide) rfl) ?_
         exact d_closes ⟨look_b rfl rfl, trivial⟩ 2 rfl rfl rfl hS (AgreeR.refl _) (t_sat (fun _ h => h) (hK () trivial))
        · -- 3
         rintro _ S hF hS D hp K hK
         try dsimp only at hF ⊢
         have s2 := hp 2 rfl
         refine d_need (small := [(143, (.pointer (some ⟨b6, 3, none⟩)))]) ⟨look_row rfl 2 rfl s2, trivial⟩ ?_
         refine tp rfl (lv_loadAgg (cs := [(.int .i64 ((outG xx xy xz ks).2.1)), (.int .i64 ((outG xx xy xz ks).2.2.1)), (.int .i64 ((outG xx xy xz ks).2.2.2))]) Try.isAgg44 Try.sizeOf44 rfl (gives_all3 (gives_blk (.tail _ (.tail _ (.head _))) rfl) (gives_blk (.tail _ (.tail _ (.head _))) rfl) (gives_blk (.tail _ (.tail _ (.head _))) rfl))) ?_
         exact d_closes ⟨look_row rfl 2 rfl s2, trivial⟩ 3 rfl rfl rfl hS (AgreeR.refl _) (t_sat (fun _ h => h) (hK () trivial))
        · -- 4
         rintro _ S hF hS D hp K hK
         try dsimp only at hF ⊢
         have s1 := hp 1 rfl
         have s3 := hp 3 rfl
         refine d_need (small := [(142, (.agg #[(.int .i64 ((outG xx xy xz ks).2.1)), (.int .i64 ((outG xx xy xz ks).2.2.1)), (.int .i64 ((outG xx xy xz ks).2.2.2))])), (144, (.agg #[(.int .i64 ((outG xx xy xz ks).2.1)), (.int .i64 ((outG xx xy xz ks).2.2.1)), (.int .i64 ((outG xx xy xz ks).2.2.2))]))]) ⟨look_row rfl 1 rfl s1, look_row rfl 3 rfl s3, trivial⟩ ?_
         refine tp rfl (lv_neqA3 Try.underlying44 Try.underlying3 Try.type3 (by kernel_rfl) Try.isAgg3 (by kernel_rfl) rfl rfl) ?_
         exact d_closes ⟨look_row rfl 1 rfl s1, look_row rfl 3 rfl s3, trivial⟩ 4 rfl rfl rfl hS (AgreeR.refl _) (t_sat (fun _ h => h) (hK () trivial))
        · -- 5
         rintro _ S hF hS D hp K hK
         try dsimp only at hF ⊢
         have s4 := hp 4 rfl
         refine d_need (small := [(145, (.bool false))]) ⟨look_row rfl 4 rfl s4, trivial⟩ ?_
         refine tp rfl (lv_move rfl) ?_
         exact d_closes ⟨look_row rfl 4 rfl s4, trivial⟩ 5 rfl rfl rfl hS (AgreeR.refl _) (t_sat (fun _ h => h) (hK () trivial))
        · -- 6
         rintro _ S hF hS D hp K hK
         try dsimp only at hF ⊢
         have s5 := hp 5 rfl
         refine d_need (small := [(8, (.pointer (some ⟨b1, 0, none⟩))), (146, (.bool false))]) ⟨look_b rfl rfl, look_row rfl 5 rfl s5, trivial⟩ ?_
         refine t_guard rfl rfl ?_
         refine tp rfl (lv_indexArr_at (k' := 0) Try.underlying43 Try.sizeOf25 rfl rfl (by decide) (by decide) rfl) ?_
         exact d_closes ⟨look_b rfl rfl, look_row rfl 5 rfl s5, trivial⟩ 6 rfl rfl rfl hS (AgreeR.refl _) (t_sat (fun _ h => h) (hK () trivial))
        · -- 7
         rintro _ S hF hS D hp K hK
         try dsimp only at hF ⊢
         have s5 := hp 5 rfl
         have s6 := hp 6 rfl
         refine d_need (small := [(146, (.bool false)), (147, (.pointer (some ⟨b1, 0, none⟩)))]) ⟨look_row rfl 5 rfl s5, look_row rfl 6 rfl s6, trivial⟩ ?_
         refine t_guard rfl rfl ?_
         refine tp rfl (lv_load Try.isAgg25 rfl (gives_blk (.tail _ (.tail _ (.tail _ (.head _)))) rfl)) ?_
         exact d_closes ⟨look_row rfl 5 rfl s5, look_row rfl 6 rfl s6, trivial⟩ 7 rfl rfl rfl hS (AgreeR.refl _) (t_sat (fun _ h => h) (hK () trivial))
        · -- 8
         rintro _ S hF hS D hp K hK
         try dsimp only at hF ⊢
         have s5 := hp 5 rfl
         have s7 := hp 7 rfl
         refine d_need (small := [(146, (.bool false)), (148, (.pointer (some ⟨p2, 0, none⟩)))]) ⟨look_row rfl 5 rfl s5, look_row rfl 7 rfl s7, trivial⟩ ?_
         refine t_guard rfl rfl ?_
         refine t_f5 ?_
         refine tc rfl (en_fn Try.call15 rfl) (hlen_ok (n := m) (ks := (outG xx xy xz ks).1) ) ?_
         rintro _ _ ⟨rfl, rfl⟩
         refine t_f5 ?_
         refine t_f5 ?_
         refine t_f5 ?_
         refine t_f5 ?_
         refine t_f5 ?_
         exact d_closes ⟨look_row rfl 5 rfl s5, look_row rfl 7 rfl s7, trivial⟩ 8 rfl rfl rfl hS (AgreeR.refl _) (t_sat (fun _ h => h) (hK () trivial))
        · -- 9
         rintro _ S hF hS D hp K hK
         try dsimp only at hF ⊢
         have s5 := hp 5 rfl
         refine d_need (small := [(8, (.pointer (some ⟨b1, 0, none⟩))), (146, (.bool false))]) ⟨look_b rfl rfl, look_row rfl 5 rfl s5, trivial⟩ ?_
         refine t_guard rfl rfl ?_
         refine tp rfl (lv_indexArr_at (k' := 1) Try.underlying43 Try.sizeOf25 rfl rfl (by decide) (by decide) rfl) ?_
         exact d_closes ⟨look_b rfl rfl, look_row rfl 5 rfl s5, trivial⟩ 9 rfl rfl rfl hS (AgreeR.refl _) (t_sat (fun _ h => h) (hK () trivial))
        · -- 10
         rintro _ S hF hS D hp K hK
         try dsimp only at hF ⊢
         have s5 := hp 5 rfl
         have s9 := hp 9 rfl
         refine d_need (small := [(146, (.bool false)), (150, (.pointer (some ⟨b1, 1, none⟩)))]) ⟨look_row rfl 5 rfl s5, look_row rfl 9 rfl s9, trivial⟩ ?_
         refine t_guard rfl rfl ?_
         refine tp rfl (lv_load Try.isAgg25 rfl (gives_blk (.tail _ (.tail _ (.tail _ (.head _)))) rfl)) ?_
         exact d_closes ⟨look_row rfl 5 rfl s5, look_row rfl 9 rfl s9, trivial⟩ 10 rfl rfl rfl hS (AgreeR.refl _) (t_sat (fun _ h => h) (hK () trivial))
        · -- 11
         rintro _ S hF hS D hp K hK
         try dsimp only at hF ⊢
         have s5 := hp 5 rfl
         have s10 := hp 10 rfl
         refine d_need (small := [(146, (.bool false)), (151, (.pointer (some ⟨p3, 0, none⟩)))]) ⟨look_row rfl 5 rfl s5, look_row rfl 10 rfl s10, trivial⟩ ?_
         refine t_guard rfl rfl ?_
         refine t_f4 ?_
         refine tc rfl (en_fn Try.call15 rfl) (hlen_ok (n := m) (ks := (outG xx xy xz ks).1) ) ?_
         rintro _ _ ⟨rfl, rfl⟩
         refine t_f4 ?_
         refine t_f4 ?_
         refine t_f4 ?_
         refine t_f4 ?_
         exact d_closes ⟨look_row rfl 5 rfl s5, look_row rfl 10 rfl s10, trivial⟩ 11 rfl rfl rfl hS (AgreeR.refl _) (t_sat (fun _ h => h) (hK () trivial))
        · -- 12
         rintro _ S hF hS D hp K hK
         try dsimp only at hF ⊢
         have s5 := hp 5 rfl
         have s8 := hp 8 rfl
         have s11 := hp 11 rfl
         refine d_need (small := [(146, (.bool false)), (149, (.int .i64 ((cntK ((outG xx xy xz ks).1) : Nat) : Int))), (152, (.int .i64 ((cntK ((outG xx xy xz ks).1) : Nat) : Int)))]) ⟨look_row rfl 5 rfl s5, look_row rfl 8 rfl s8, look_row rfl 11 rfl s11, trivial⟩ ?_
         refine t_guard rfl rfl ?_
         refine tp rfl (lv_neq rfl rfl (bne_eq_false_iff_eq.2 rfl)) ?_
         exact d_closes ⟨look_row rfl 5 rfl s5, look_row rfl 8 rfl s8, look_row rfl 11 rfl s11, trivial⟩ 12 rfl rfl rfl hS (AgreeR.refl _) (t_sat (fun _ h => h) (hK () trivial))
        · -- 13
         rintro _ S hF hS D hp K hK
         try dsimp only at hF ⊢
         have s5 := hp 5 rfl
         have s12 := hp 12 rfl
         refine d_need (small := [(146, (.bool false)), (153, (.bool false))]) ⟨look_row rfl 5 rfl s5, look_row rfl 12 rfl s12, trivial⟩ ?_
         refine tp rfl (lv_pick_f rfl rfl) ?_
         exact d_closes ⟨look_row rfl 5 rfl s5, look_row rfl 12 rfl s12, trivial⟩ 13 rfl rfl rfl hS (AgreeR.refl _) (t_sat (fun _ h => h) (hK () trivial))
       · -- behind
        rintro _ hF
        try dsimp only at hF ⊢
        refine t_weak (E' := [(0, (.int .i64 ((m : Nat) : Int))), (1, (.slice bsb xs.length csb)), (2, (.slice bsc ys.length csc)), (7, (.bool true)), (8, (.pointer (some ⟨b1, 0, none⟩))), (9, (.int .i64 3)), (10, (.int .i64 ((i : Nat) : Int))), (11, (.pointer (some ⟨b6, 0, none⟩))), (12, (.int .i64 2)), (13, (.pointer (some ⟨b9, 0, none⟩))), (24, (.bool false)), (34, (.bool false)), (42, (.bool true)), (46, (.bool false)), (124, (.bool false)), (154, (.bool false))]) ⟨rfl, rfl, rfl, rfl, rfl, rfl, rfl, rfl, rfl, rfl, rfl, rfl, rfl, rfl, rfl, rfl, trivial⟩ ?_
        refine q_then_n (hK48 _ _ ?_)
        refine c_false rfl ?_
        refine c_skip ?_
        refine q_in_n ?_
        refine q_then_n (hK29 _ _ ?_)
        refine c_region ?_
        refine tp rfl (lv_move rfl) ?_
        refine tp rfl (lv_add (c := ((i + 1 : Nat) : Int)) rfl rfl (wr_i64_succ (by omega))) ?_
        refine tp rfl (lv_assign rfl) ?_
        refine t_done ?_
        refine q_then_n ?_
        refine t_drop ?_
        refine t_f1 ?_
        refine t_drop ?_
        refine t_f1 ?_
        exact t_weak (by exact ⟨rfl, rfl, rfl, rfl, rfl, rfl, rfl, rfl, rfl, trivial⟩) ((hK26 (i + 1, (outG xx xy xz ks).1, popK (pushK k3 ((ys.getD i R3.d).y) ((ys.getD i R3.d).z))) ⟨by dsimp only; omega, by dsimp only; omega⟩ (by dsimp only; omega)))
     refine c_seq (fun K45 hK45 => ?_)
     refine c_region ?_
     refine tp rfl (lv_fieldAddr (o' := 0) Try.underlying47 rfl Try.sizeOf3 rfl rfl) ?_
     refine tp rfl (lv_load Try.isAgg3 rfl (gives_blk (.head _) rfl)) ?_
     refine t_done ?_
     refine q_then_n (hK45 _ _ ?_)
     refine c_block ?_
     refine c_seq (fun K46 hK46 => ?_)
     refine c_seq (fun K47 hK47 => ?_)
     refine c_region ?_
     by_cases h11 : xx = 1
     · -- yes
      refine tp rfl (lv_eql rfl rfl (beq_iff_eq.2 h11)) ?_
      refine tp rfl (lv_assign rfl) ?_
      refine t_done ?_
      refine q_then_n (hK47 _ _ ?_)
      refine c_true rfl ?_
      refine c_skip ?_
      refine q_then_n (hK46 _ _ ?_)
      refine c_true rfl ?_
      refine c_draw (γ := Unit) (n := 12) Try.mixed rfl rfl (fun _ S => True) (fun _ => [(0, 58, (.int .i64 1)), (1, 59, (.int .i64 1)), (2, 60, (.pointer (some ⟨b1, 1, none⟩))), (3, 61, (.pointer (some ⟨p3, 0, none⟩))), (4, 62, (.pointer (some ⟨b9, 1, none⟩))), (5, 63, (.int .i64 xy)), (6, 64, (.pointer (some ⟨b9, 2, none⟩))), (7, 65, (.int .i64 xz)), (8, 66, (.int .i64 (pushE ks xy))), (9, 67, (.pointer (some ⟨b6, 3, none⟩))), (10, 68, (.pointer (some ⟨b6, 3, none⟩)))]) (fun _ S => (Blk b9 [(.int .i64 xx), (.int .i64 xy), (.int .i64 xz)] 47) :: (HeapO p4 m (popK (pushK k3 ((ys.getD i R3.d).y) ((ys.getD i R3.d).z)))) :: (bif S 11 then (Blk b6 [(.int .i64 ((outG xx xy xz ks).2.1)), (.int .i64 ((outG xx xy xz ks).2.2.1)), (.int .i64 ((outG xx xy xz ks).2.2.2)), (.int .i64 (pushE ks xy)), (.int .i64 0), (.int .i64 0)] 45) else (Blk b6 [(.int .i64 ((outG xx xy xz ks).2.1)), (.int .i64 ((outG xx xy xz ks).2.2.1)), (.int .i64 ((outG xx xy xz ks).2.2.2)), (.int .i64 0), (.int .i64 0), (.int .i64 0)] 45)) :: (Blk b1 [(.pointer (some ⟨p2, 0, none⟩)), (.pointer (some ⟨p3, 0, none⟩)), (.pointer (some ⟨p4, 0, none⟩))] 43) :: (bif S 8 then (HeapO p3 m (pushK ks xy xz)) else (HeapO p3 m ks)) :: (HeapO p2 m ((outG xx xy xz ks).1)) :: R) (()) trivial (fun _ h => h) (fun _ _ h => h) ?_ ?_
      · -- steps
       refine ⟨?_, ?_, ?_, ?_, ?_, ?_, ?_, ?_, ?_, ?_, ?_, ?_, trivial⟩
       · -- 0
        rintro _ S hF hS D hp K hK
        try dsimp only at hF ⊢
        refine d_need (small := [(12, (.int .i64 1))]) ⟨look_b rfl rfl, trivial⟩ ?_
        refine tp rfl (lv_move rfl) ?_
        exact d_closes ⟨look_b rfl rfl, trivial⟩ 0 rfl rfl rfl hS (AgreeR.refl _) (t_sat (fun _ h => h) (hK () trivial))
       · -- 1
        rintro _ S hF hS D hp K hK
        try dsimp only at hF ⊢
        refine d_need (small := [(12, (.int .i64 1))]) ⟨look_b rfl rfl, trivial⟩ ?_
        refine tp rfl (lv_move rfl) ?_
        exact d_closes ⟨look_b rfl rfl, trivial⟩ 1 rfl rfl rfl hS (AgreeR.refl _) (t_sat (fun _ h => h) (hK () trivial))
       · -- 2
        rintro _ S hF hS D hp K hK
        try dsimp only at hF ⊢
        have s1 := hp 1 rfl
        refine d_need (small := [(8, (.pointer (some ⟨b1, 0, none⟩))), (59, (.int .i64 1))]) ⟨look_b rfl rfl, look_row rfl 1 rfl s1, trivial⟩ ?_
        refine tp rfl (lv_indexArr_at (k' := 1) Try.underlying43 Try.sizeOf25 rfl rfl (by decide) (by decide) rfl) ?_
        exact d_closes ⟨look_b rfl rfl, look_row rfl 1 rfl s1, trivial⟩ 2 rfl rfl rfl hS (AgreeR.refl _) (t_sat (fun _ h => h) (hK () trivial))
       · -- 3
        rintro _ S hF hS D hp K hK
        try dsimp only at hF ⊢
        have s2 := hp 2 rfl
        refine d_need (small := [(60, (.pointer (some ⟨b1, 1, none⟩)))]) ⟨look_row rfl 2 rfl s2, trivial⟩ ?_
        refine tp rfl (lv_load Try.isAgg25 rfl (gives_blk (.tail _ (.tail _ (.tail _ (.head _)))) rfl)) ?_
        exact d_closes ⟨look_row rfl 2 rfl s2, trivial⟩ 3 rfl rfl rfl hS (AgreeR.refl _) (t_sat (fun _ h => h) (hK () trivial))
       · -- 4
        rintro _ S hF hS D hp K hK
        try dsimp only at hF ⊢
        refine d_need (small := [(13, (.pointer (some ⟨b9, 0, none⟩)))]) ⟨look_b rfl rfl, trivial⟩ ?_
        refine tp rfl (lv_fieldAddr (o' := 1) Try.underlying47 rfl Try.sizeOf3 rfl rfl) ?_
        exact d_closes ⟨look_b rfl rfl, trivial⟩ 4 rfl rfl rfl hS (AgreeR.refl _) (t_sat (fun _ h => h) (hK () trivial))
       · -- 5
        rintro _ S hF hS D hp K hK
        try dsimp only at hF ⊢
        have s4 := hp 4 rfl
        refine d_need (small := [(62, (.pointer (some ⟨b9, 1, none⟩)))]) ⟨look_row rfl 4 rfl s4, trivial⟩ ?_
        refine tp rfl (lv_load Try.isAgg3 rfl (gives_blk (.head _) rfl)) ?_
        exact d_closes ⟨look_row rfl 4 rfl s4, trivial⟩ 5 rfl rfl rfl hS (AgreeR.refl _) (t_sat (fun _ h => h) (hK () trivial))
       · -- 6
        rintro _ S hF hS D hp K hK
        try dsimp only at hF ⊢
        refine d_need (small := [(13, (.pointer (some ⟨b9, 0, none⟩)))]) ⟨look_b rfl rfl, trivial⟩ ?_
        refine tp rfl (lv_fieldAddr (o' := 2) Try.underlying47 rfl Try.sizeOf3 rfl rfl) ?_
        exact d_closes ⟨look_b rfl rfl, trivial⟩ 6 rfl rfl rfl hS (AgreeR.refl _) (t_sat (fun _ h => h) (hK () trivial))
       · -- 7
        rintro _ S hF hS D hp K hK
        try dsimp only at hF ⊢
        have s6 := hp 6 rfl
        refine d_need (small := [(64, (.pointer (some ⟨b9, 2, none⟩)))]) ⟨look_row rfl 6 rfl s6, trivial⟩ ?_
        refine tp rfl (lv_load Try.isAgg3 rfl (gives_blk (.head _) rfl)) ?_
        exact d_closes ⟨look_row rfl 6 rfl s6, trivial⟩ 7 rfl rfl rfl hS (AgreeR.refl _) (t_sat (fun _ h => h) (hK () trivial))
       · -- 8
        rintro _ S hF hS D hp K hK
        try dsimp only at hF ⊢
        have s3 := hp 3 rfl
        have s5 := hp 5 rfl
        have s7 := hp 7 rfl
        refine d_need (small := [(61, (.pointer (some ⟨p3, 0, none⟩))), (63, (.int .i64 xy)), (65, (.int .i64 xz))]) ⟨look_row rfl 3 rfl s3, look_row rfl 5 rfl s5, look_row rfl 7 rfl s7, trivial⟩ ?_
        refine t_f4 ?_
        refine t_cF hS ?_
        refine tc rfl (en_fn Try.call13 rfl) (hpush_ok (n := m) (ks := ks) xy xz) ?_
        rintro _ _ ⟨rfl, rfl⟩
        refine t_f4 ?_
        refine t_f4 ?_
        refine t_f4 ?_
        refine t_f4 ?_
        exact d_closes ⟨look_row rfl 3 rfl s3, look_row rfl 5 rfl s5, look_row rfl 7 rfl s7, trivial⟩ 8 rfl rfl rfl hS (AgreeR.refl _) (t_sat (fun _ h => h) (hK () trivial))
       · -- 9
        rintro _ S hF hS D hp K hK
        try dsimp only at hF ⊢
        have s0 := hp 0 rfl
        refine d_need (small := [(11, (.pointer (some ⟨b6, 0, none⟩))), (58, (.int .i64 1))]) ⟨look_b rfl rfl, look_row rfl 0 rfl s0, trivial⟩ ?_
        refine tp rfl (lv_indexArr_at (k' := 3) Try.underlying45 Try.sizeOf44 rfl rfl (by decide) (by decide) rfl) ?_
        exact d_closes ⟨look_b rfl rfl, look_row rfl 0 rfl s0, trivial⟩ 9 rfl rfl rfl hS (AgreeR.refl _) (t_sat (fun _ h => h) (hK () trivial))
       · -- 10
        rintro _ S hF hS D hp K hK
        try dsimp only at hF ⊢
        have s9 := hp 9 rfl
        refine d_need (small := [(67, (.pointer (some ⟨b6, 3, none⟩)))]) ⟨look_row rfl 9 rfl s9, trivial⟩ ?_
        refine tp rfl (lv_indexArr_at (k' := 3) Try.underlying44 Try.sizeOf3 rfl rfl (by decide) (by decide) rfl) ?_
        exact d_closes ⟨look_row rfl 9 rfl s9, trivial⟩ 10 rfl rfl rfl hS (AgreeR.refl _) (t_sat (fun _ h => h) (hK () trivial))
       · -- 11
        rintro _ S hF hS D hp K hK
        try dsimp only at hF ⊢
        have s8 := hp 8 rfl
        have s10 := hp 10 rfl
        refine d_need (small := [(66, (.int .i64 (pushE ks xy))), (68, (.pointer (some ⟨b6, 3, none⟩)))]) ⟨look_row rfl 8 rfl s8, look_row rfl 10 rfl s10, trivial⟩ ?_
        refine t_f2 ?_
        refine t_cF hS ?_
        refine ts (sv_blk Try.sizeOf3 rfl rfl rfl (Nat.le_of_ble_eq_true rfl) rfl) ?_
        refine t_f2 ?_
        refine t_f2 ?_
        exact d_closes0 ⟨look_row rfl 8 rfl s8, look_row rfl 10 rfl s10, trivial⟩ rfl (t_sat (fun _ h => h) (hK () trivial))
      · -- behind
       rintro _ hF
       try dsimp only at hF ⊢
       refine t_weak (E' := [(0, (.int .i64 ((m : Nat) : Int))), (1, (.slice bsb xs.length csb)), (2, (.slice bsc ys.length csc)), (7, (.bool true)), (8, (.pointer (some ⟨b1, 0, none⟩))), (9, (.int .i64 3)), (10, (.int .i64 ((i : Nat) : Int))), (11, (.pointer (some ⟨b6, 0, none⟩))), (12, (.int .i64 1)), (13, (.pointer (some ⟨b9, 0, none⟩))), (24, (.bool false)), (34, (.bool false)), (42, (.bool true)), (46, (.bool true)), (54, (.int .i64 xx)), (55, (.bool true)), (124, (.bool true))]) ⟨rfl, rfl, rfl, rfl, rfl, rfl, rfl, rfl, rfl, rfl, rfl, rfl, rfl, rfl, rfl, rfl, rfl, trivial⟩ ?_
       refine q_in_n ?_
       refine q_then_n ?_
       have ho9 : outG xx xy xz ks = (pushK ks xy xz, pushE ks xy, 0, 0) := by unfold outG; rw [if_pos (.inl h11)]
       rw [ho9] at hM44 ⊢
       dsimp only at hM44 ⊢
       exact t_weak (by exact ⟨rfl, rfl, rfl, rfl, rfl, rfl, rfl, rfl, rfl, rfl, rfl, rfl, rfl, rfl, rfl, trivial⟩) (hM44 0 ⟨trivial, trivial⟩)
     · -- no
      refine tp rfl (lv_eql rfl rfl (beq_eq_false_iff_ne.2 h11)) ?_
      refine tp rfl (lv_assign rfl) ?_
      refine t_done ?_
      refine q_then_n (hK47 _ _ ?_)
      refine c_false rfl ?_
      refine c_region ?_
      by_cases h12 : xx = 2
      · -- yes
       refine tp rfl (lv_eql rfl rfl (beq_iff_eq.2 h12)) ?_
       refine tp rfl (lv_assign rfl) ?_
       refine t_done ?_
       refine q_then_n (hK46 _ _ ?_)
       refine c_true rfl ?_
       refine c_draw (γ := Unit) (n := 12) Try.mixed rfl rfl (fun _ S => True) (fun _ => [(0, 58, (.int .i64 1)), (1, 59, (.int .i64 1)), (2, 60, (.pointer (some ⟨b1, 1, none⟩))), (3, 61, (.pointer (some ⟨p3, 0, none⟩))), (4, 62, (.pointer (some ⟨b9, 1, none⟩))), (5, 63, (.int .i64 xy)), (6, 64, (.pointer (some ⟨b9, 2, none⟩))), (7, 65, (.int .i64 xz)), (8, 66, (.int .i64 (pushE ks xy))), (9, 67, (.pointer (some ⟨b6, 3, none⟩))), (10, 68, (.pointer (some ⟨b6, 3, none⟩)))]) (fun _ S => (Blk b9 [(.int .i64 xx), (.int .i64 xy), (.int .i64 xz)] 47) :: (HeapO p4 m (popK (pushK k3 ((ys.getD i R3.d).y) ((ys.getD i R3.d).z)))) :: (bif S 11 then (Blk b6 [(.int .i64 ((outG xx xy xz ks).2.1)), (.int .i64 ((outG xx xy xz ks).2.2.1)), (.int .i64 ((outG xx xy xz ks).2.2.2)), (.int .i64 (pushE ks xy)), (.int .i64 0), (.int .i64 0)] 45) else (Blk b6 [(.int .i64 ((outG xx xy xz ks).2.1)), (.int .i64 ((outG xx xy xz ks).2.2.1)), (.int .i64 ((outG xx xy xz ks).2.2.2)), (.int .i64 0), (.int .i64 0), (.int .i64 0)] 45)) :: (Blk b1 [(.pointer (some ⟨p2, 0, none⟩)), (.pointer (some ⟨p3, 0, none⟩)), (.pointer (some ⟨p4, 0, none⟩))] 43) :: (bif S 8 then (HeapO p3 m (pushK ks xy xz)) else (HeapO p3 m ks)) :: (HeapO p2 m ((outG xx xy xz ks).1)) :: R) (()) trivial (fun _ h => h) (fun _ _ h => h) ?_ ?_
       · -- steps
        refine ⟨?_, ?_, ?_, ?_, ?_, ?_, ?_, ?_, ?_, ?_, ?_, ?_, trivial⟩
        · -- 0
         rintro _ S hF hS D hp K hK
         try dsimp only at hF ⊢
         refine d_need (small := [(12, (.int .i64 1))]) ⟨look_b rfl rfl, trivial⟩ ?_
         refine tp rfl (lv_move rfl) ?_
         exact d_closes ⟨look_b rfl rfl, trivial⟩ 0 rfl rfl rfl hS (AgreeR.refl _) (t_sat (fun _ h => h) (hK () trivial))
        · -- 1
         rintro _ S hF hS D hp K hK
         try dsimp only at hF ⊢
         refine d_need (small := [(12, (.int .i64 1))]) ⟨look_b rfl rfl, trivial⟩ ?_
         refine tp rfl (lv_move rfl) ?_
         exact d_closes ⟨look_b rfl rfl, trivial⟩ 1 rfl rfl rfl hS (AgreeR.refl _) (t_sat (fun _ h => h) (hK () trivial))
        · -- 2
         rintro _ S hF hS D hp K hK
         try dsimp only at hF ⊢
         have s1 := hp 1 rfl
         refine d_need (small := [(8, (.pointer (some ⟨b1, 0, none⟩))), (59, (.int .i64 1))]) ⟨look_b rfl rfl, look_row rfl 1 rfl s1, trivial⟩ ?_
         refine tp rfl (lv_indexArr_at (k' := 1) Try.underlying43 Try.sizeOf25 rfl rfl (by decide) (by decide) rfl) ?_
         exact d_closes ⟨look_b rfl rfl, look_row rfl 1 rfl s1, trivial⟩ 2 rfl rfl rfl hS (AgreeR.refl _) (t_sat (fun _ h => h) (hK () trivial))
        · -- 3
         rintro _ S hF hS D hp K hK
         try dsimp only at hF ⊢
         have s2 := hp 2 rfl
         refine d_need (small := [(60, (.pointer (some ⟨b1, 1, none⟩)))]) ⟨look_row rfl 2 rfl s2, trivial⟩ ?_
         refine tp rfl (lv_load Try.isAgg25 rfl (gives_blk (.tail _ (.tail _ (.tail _ (.head _)))) rfl)) ?_
         exact d_closes ⟨look_row rfl 2 rfl s2, trivial⟩ 3 rfl rfl rfl hS (AgreeR.refl _) (t_sat (fun _ h => h) (hK () trivial))
        · -- 4
         rintro _ S hF hS D hp K hK
         try dsimp only at hF ⊢
         refine d_need (small := [(13, (.pointer (some ⟨b9, 0, none⟩)))]) ⟨look_b rfl rfl, trivial⟩ ?_
         refine tp rfl (lv_fieldAddr (o' := 1) Try.underlying47 rfl Try.sizeOf3 rfl rfl) ?_
         exact d_closes ⟨look_b rfl rfl, trivial⟩ 4 rfl rfl rfl hS (AgreeR.refl _) (t_sat (fun _ h => h) (hK () trivial))
        · -- 5
         rintro _ S hF hS D hp K hK
         try dsimp only at hF ⊢
         have s4 := hp 4 rfl
         refine d_need (small := [(62, (.pointer (some ⟨b9, 1, none⟩)))]) ⟨look_row rfl 4 rfl s4, trivial⟩ ?_
         refine tp rfl (lv_load Try.isAgg3 rfl (gives_blk (.head _) rfl)) ?_
         exact d_closes ⟨look_row rfl 4 rfl s4, trivial⟩ 5 rfl rfl rfl hS (AgreeR.refl _) (t_sat (fun _ h => h) (hK () trivial))
        · -- 6
         rintro _ S hF hS D hp K hK
         try dsimp only at hF ⊢
         refine d_need (small := [(13, (.pointer (some ⟨b9, 0, none⟩)))]) ⟨look_b rfl rfl, trivial⟩ ?_
         refine tp rfl (lv_fieldAddr (o' := 2) Try.underlying47 rfl Try.sizeOf3 rfl rfl) ?_
         exact d_closes ⟨look_b rfl rfl, trivial⟩ 6 rfl rfl rfl hS (AgreeR.refl _) (t_sat (fun _ h => h) (hK () trivial))
        · -- 7
         rintro _ S hF hS D hp K hK
         try dsimp only at hF ⊢
         have s6 := hp 6 rfl
         refine d_need (small := [(64, (.pointer (some ⟨b9, 2, none⟩)))]) ⟨look_row rfl 6 rfl s6, trivial⟩ ?_
         refine tp rfl (lv_load Try.isAgg3 rfl (gives_blk (.head _) rfl)) ?_
         exact d_closes ⟨look_row rfl 6 rfl s6, trivial⟩ 7 rfl rfl rfl hS (AgreeR.refl _) (t_sat (fun _ h => h) (hK () trivial))
        · -- 8
         rintro _ S hF hS D hp K hK
         try dsimp only at hF ⊢
         have s3 := hp 3 rfl
         have s5 := hp 5 rfl
         have s7 := hp 7 rfl
         refine d_need (small := [(61, (.pointer (some ⟨p3, 0, none⟩))), (63, (.int .i64 xy)), (65, (.int .i64 xz))]) ⟨look_row rfl 3 rfl s3, look_row rfl 5 rfl s5, look_row rfl 7 rfl s7, trivial⟩ ?_
         refine t_f4 ?_
         refine t_cF hS ?_
         refine tc rfl (en_fn Try.call13 rfl) (hpush_ok (n := m) (ks := ks) xy xz) ?_
         rintro _ _ ⟨rfl, rfl⟩
         refine t_f4 ?_
         refine t_f4 ?_
         refine t_f4 ?_
         refine t_f4 ?_
         exact d_closes ⟨look_row rfl 3 rfl s3, look_row rfl 5 rfl s5, look_row rfl 7 rfl s7, trivial⟩ 8 rfl rfl rfl hS (AgreeR.refl _) (t_sat (fun _ h => h) (hK () trivial))
        · -- 9
         rintro _ S hF hS D hp K hK
         try dsimp only at hF ⊢
         have s0 := hp 0 rfl
         refine d_need (small := [(11, (.pointer (some ⟨b6, 0, none⟩))), (58, (.int .i64 1))]) ⟨look_b rfl rfl, look_row rfl 0 rfl s0, trivial⟩ ?_
         refine tp rfl (lv_indexArr_at (k' := 3) Try.underlying45 Try.sizeOf44 rfl rfl (by decide) (by decide) rfl) ?_
         exact d_closes ⟨look_b rfl rfl, look_row rfl 0 rfl s0, trivial⟩ 9 rfl rfl rfl hS (AgreeR.refl _) (t_sat (fun _ h => h) (hK () trivial))
        · -- 10
         rintro _ S hF hS D hp K hK
         try dsimp only at hF ⊢
         have s9 := hp 9 rfl
         refine d_need (small := [(67, (.pointer (some ⟨b6, 3, none⟩)))]) ⟨look_row rfl 9 rfl s9, trivial⟩ ?_
         refine tp rfl (lv_indexArr_at (k' := 3) Try.underlying44 Try.sizeOf3 rfl rfl (by decide) (by decide) rfl) ?_
         exact d_closes ⟨look_row rfl 9 rfl s9, trivial⟩ 10 rfl rfl rfl hS (AgreeR.refl _) (t_sat (fun _ h => h) (hK () trivial))
        · -- 11
         rintro _ S hF hS D hp K hK
         try dsimp only at hF ⊢
         have s8 := hp 8 rfl
         have s10 := hp 10 rfl
         refine d_need (small := [(66, (.int .i64 (pushE ks xy))), (68, (.pointer (some ⟨b6, 3, none⟩)))]) ⟨look_row rfl 8 rfl s8, look_row rfl 10 rfl s10, trivial⟩ ?_
         refine t_f2 ?_
         refine t_cF hS ?_
         refine ts (sv_blk Try.sizeOf3 rfl rfl rfl (Nat.le_of_ble_eq_true rfl) rfl) ?_
         refine t_f2 ?_
         refine t_f2 ?_
         exact d_closes0 ⟨look_row rfl 8 rfl s8, look_row rfl 10 rfl s10, trivial⟩ rfl (t_sat (fun _ h => h) (hK () trivial))
       · -- behind
        rintro _ hF
        try dsimp only at hF ⊢
        refine t_weak (E' := [(0, (.int .i64 ((m : Nat) : Int))), (1, (.slice bsb xs.length csb)), (2, (.slice bsc ys.length csc)), (7, (.bool true)), (8, (.pointer (some ⟨b1, 0, none⟩))), (9, (.int .i64 3)), (10, (.int .i64 ((i : Nat) : Int))), (11, (.pointer (some ⟨b6, 0, none⟩))), (12, (.int .i64 1)), (13, (.pointer (some ⟨b9, 0, none⟩))), (24, (.bool false)), (34, (.bool false)), (42, (.bool true)), (46, (.bool true)), (54, (.int .i64 xx)), (55, (.bool true)), (124, (.bool true))]) ⟨rfl, rfl, rfl, rfl, rfl, rfl, rfl, rfl, rfl, rfl, rfl, rfl, rfl, rfl, rfl, rfl, rfl, trivial⟩ ?_
        refine q_in_n ?_
        refine q_then_n ?_
        have ho9 : outG xx xy xz ks = (pushK ks xy xz, pushE ks xy, 0, 0) := by unfold outG; rw [if_pos (.inr h12)]
        rw [ho9] at hM44 ⊢
        dsimp only at hM44 ⊢
        exact t_weak (by exact ⟨rfl, rfl, rfl, rfl, rfl, rfl, rfl, rfl, rfl, rfl, rfl, rfl, rfl, rfl, rfl, trivial⟩) (hM44 0 ⟨trivial, trivial⟩)
      · -- no
       refine tp rfl (lv_eql rfl rfl (beq_eq_false_iff_ne.2 h12)) ?_
       refine tp rfl (lv_assign rfl) ?_
       refine t_done ?_
       refine q_then_n (hK46 _ _ ?_)
       refine c_false rfl ?_
       refine c_seq (fun K48 hK48 => ?_)
       refine c_region ?_
       by_cases h13 : xx = 3
       · -- yes
        refine tp rfl (lv_eql rfl rfl (beq_iff_eq.2 h13)) ?_
        refine tp rfl (lv_assign rfl) ?_
        refine t_done ?_
        refine q_then_n (hK48 _ _ ?_)
        refine c_true rfl ?_
        refine c_draw (γ := Unit) (n := 12) Try.mixed rfl rfl (fun _ S => True) (fun _ => [(0, 71, (.int .i64 1)), (1, 72, (.int .i64 1)), (2, 73, (.pointer (some ⟨b1, 1, none⟩))), (3, 74, (.pointer (some ⟨p3, 0, none⟩))), (4, 75, (.pointer (some ⟨b9, 1, none⟩))), (5, 76, (.int .i64 xy)), (6, 77, (.pointer (some ⟨b9, 2, none⟩))), (7, 78, (.int .i64 xz)), (8, 79, (.int .i64 (lowE ks xy xz))), (9, 80, (.pointer (some ⟨b6, 3, none⟩))), (10, 81, (.pointer (some ⟨b6, 3, none⟩)))]) (fun _ S => (Blk b9 [(.int .i64 xx), (.int .i64 xy), (.int .i64 xz)] 47) :: (HeapO p4 m (popK (pushK k3 ((ys.getD i R3.d).y) ((ys.getD i R3.d).z)))) :: (bif S 11 then (Blk b6 [(.int .i64 ((outG xx xy xz ks).2.1)), (.int .i64 ((outG xx xy xz ks).2.2.1)), (.int .i64 ((outG xx xy xz ks).2.2.2)), (.int .i64 (lowE ks xy xz)), (.int .i64 0), (.int .i64 0)] 45) else (Blk b6 [(.int .i64 ((outG xx xy xz ks).2.1)), (.int .i64 ((outG xx xy xz ks).2.2.1)), (.int .i64 ((outG xx xy xz ks).2.2.2)), (.int .i64 0), (.int .i64 0), (.int .i64 0)] 45)) :: (Blk b1 [(.pointer (some ⟨p2, 0, none⟩)), (.pointer (some ⟨p3, 0, none⟩)), (.pointer (some ⟨p4, 0, none⟩))] 43) :: (bif S 8 then (HeapO p3 m (lowK ks xy xz)) else (HeapO p3 m ks)) :: (HeapO p2 m ((outG xx xy xz ks).1)) :: R) (()) trivial (fun _ h => h) (fun _ _ h => h) ?_ ?_
        · -- steps
         refine ⟨?_, ?_, ?_, ?_, ?_, ?_, ?_, ?_, ?_, ?_, ?_, ?_, trivial⟩
         · -- 0
          rintro _ S hF hS D hp K hK
          try dsimp only at hF ⊢
          refine d_need (small := [(12, (.int .i64 1))]) ⟨look_b rfl rfl, trivial⟩ ?_
          refine tp rfl (lv_move rfl) ?_
          exact d_closes ⟨look_b rfl rfl, trivial⟩ 0 rfl rfl rfl hS (AgreeR.refl _) (t_sat (fun _ h => h) (hK () trivial))
         · -- 1
          rintro _ S hF hS D hp K hK
          try dsimp only at hF ⊢
          refine d_need (small := [(12, (.int .i64 1))]) ⟨look_b rfl rfl, trivial⟩ ?_
          refine tp rfl (lv_move rfl) ?_
          exact d_closes ⟨look_b rfl rfl, trivial⟩ 1 rfl rfl rfl hS (AgreeR.refl _) (t_sat (fun _ h => h) (hK () trivial))
         · -- 2
          rintro _ S hF hS D hp K hK
          try dsimp only at hF ⊢
          have s1 := hp 1 rfl
          refine d_need (small := [(8, (.pointer (some ⟨b1, 0, none⟩))), (72, (.int .i64 1))]) ⟨look_b rfl rfl, look_row rfl 1 rfl s1, trivial⟩ ?_
          refine tp rfl (lv_indexArr_at (k' := 1) Try.underlying43 Try.sizeOf25 rfl rfl (by decide) (by decide) rfl) ?_
          exact d_closes ⟨look_b rfl rfl, look_row rfl 1 rfl s1, trivial⟩ 2 rfl rfl rfl hS (AgreeR.refl _) (t_sat (fun _ h => h) (hK () trivial))
         · -- 3
          rintro _ S hF hS D hp K hK
          try dsimp only at hF ⊢
          have s2 := hp 2 rfl
          refine d_need (small := [(73, (.pointer (some ⟨b1, 1, none⟩)))]) ⟨look_row rfl 2 rfl s2, trivial⟩ ?_
          refine tp rfl (lv_load Try.isAgg25 rfl (gives_blk (.tail _ (.tail _ (.tail _ (.head _)))) rfl)) ?_
          exact d_closes ⟨look_row rfl 2 rfl s2, trivial⟩ 3 rfl rfl rfl hS (AgreeR.refl _) (t_sat (fun _ h => h) (hK () trivial))
         · -- 4
          rintro _ S hF hS D hp K hK
          try dsimp only at hF ⊢
          refine d_need (small := [(13, (.pointer (some ⟨b9, 0, none⟩)))]) ⟨look_b rfl rfl, trivial⟩ ?_
          refine tp rfl (lv_fieldAddr (o' := 1) Try.underlying47 rfl Try.sizeOf3 rfl rfl) ?_
          exact d_closes ⟨look_b rfl rfl, trivial⟩ 4 rfl rfl rfl hS (AgreeR.refl _) (t_sat (fun _ h => h) (hK () trivial))
         · -- 5
          rintro _ S hF hS D hp K hK
          try dsimp only at hF ⊢
          have s4 := hp 4 rfl
          refine d_need (small := [(75, (.pointer (some ⟨b9, 1, none⟩)))]) ⟨look_row rfl 4 rfl s4, trivial⟩ ?_
          refine tp rfl (lv_load Try.isAgg3 rfl (gives_blk (.head _) rfl)) ?_
          exact d_closes ⟨look_row rfl 4 rfl s4, trivial⟩ 5 rfl rfl rfl hS (AgreeR.refl _) (t_sat (fun _ h => h) (hK () trivial))
         · -- 6
          rintro _ S hF hS D hp K hK
          try dsimp only at hF ⊢
          refine d_need (small := [(13, (.pointer (some ⟨b9, 0, none⟩)))]) ⟨look_b rfl rfl, trivial⟩ ?_
          refine tp rfl (lv_fieldAddr (o' := 2) Try.underlying47 rfl Try.sizeOf3 rfl rfl) ?_
          exact d_closes ⟨look_b rfl rfl, trivial⟩ 6 rfl rfl rfl hS (AgreeR.refl _) (t_sat (fun _ h => h) (hK () trivial))
         · -- 7
          rintro _ S hF hS D hp K hK
          try dsimp only at hF ⊢
          have s6 := hp 6 rfl
          refine d_need (small := [(77, (.pointer (some ⟨b9, 2, none⟩)))]) ⟨look_row rfl 6 rfl s6, trivial⟩ ?_
          refine tp rfl (lv_load Try.isAgg3 rfl (gives_blk (.head _) rfl)) ?_
          exact d_closes ⟨look_row rfl 6 rfl s6, trivial⟩ 7 rfl rfl rfl hS (AgreeR.refl _) (t_sat (fun _ h => h) (hK () trivial))
         · -- 8
          rintro _ S hF hS D hp K hK
          try dsimp only at hF ⊢
          have s3 := hp 3 rfl
          have s5 := hp 5 rfl
          have s7 := hp 7 rfl
          refine d_need (small := [(74, (.pointer (some ⟨p3, 0, none⟩))), (76, (.int .i64 xy)), (78, (.int .i64 xz))]) ⟨look_row rfl 3 rfl s3, look_row rfl 5 rfl s5, look_row rfl 7 rfl s7, trivial⟩ ?_
          refine t_f4 ?_
          refine t_cF hS ?_
          refine tc rfl (en_fn Try.call16 rfl) (hlow_ok (n := m) (ks := ks) xy xz) ?_
          rintro _ _ ⟨rfl, rfl⟩
          refine t_f4 ?_
          refine t_f4 ?_
          refine t_f4 ?_
          refine t_f4 ?_
          exact d_closes ⟨look_row rfl 3 rfl s3, look_row rfl 5 rfl s5, look_row rfl 7 rfl s7, trivial⟩ 8 rfl rfl rfl hS (AgreeR.refl _) (t_sat (fun _ h => h) (hK () trivial))
         · -- 9
          rintro _ S hF hS D hp K hK
          try dsimp only at hF ⊢
          have s0 := hp 0 rfl
          refine d_need (small := [(11, (.pointer (some ⟨b6, 0, none⟩))), (71, (.int .i64 1))]) ⟨look_b rfl rfl, look_row rfl 0 rfl s0, trivial⟩ ?_
          refine tp rfl (lv_indexArr_at (k' := 3) Try.underlying45 Try.sizeOf44 rfl rfl (by decide) (by decide) rfl) ?_
          exact d_closes ⟨look_b rfl rfl, look_row rfl 0 rfl s0, trivial⟩ 9 rfl rfl rfl hS (AgreeR.refl _) (t_sat (fun _ h => h) (hK () trivial))
         · -- 10
          rintro _ S hF hS D hp K hK
          try dsimp only at hF ⊢
          have s9 := hp 9 rfl
          refine d_need (small := [(80, (.pointer (some ⟨b6, 3, none⟩)))]) ⟨look_row rfl 9 rfl s9, trivial⟩ ?_
          refine tp rfl (lv_indexArr_at (k' := 3) Try.underlying44 Try.sizeOf3 rfl rfl (by decide) (by decide) rfl) ?_
          exact d_closes ⟨look_row rfl 9 rfl s9, trivial⟩ 10 rfl rfl rfl hS (AgreeR.refl _) (t_sat (fun _ h => h) (hK () trivial))
         · -- 11
          rintro _ S hF hS D hp K hK
          try dsimp only at hF ⊢
          have s8 := hp 8 rfl
          have s10 := hp 10 rfl
          refine d_need (small := [(79, (.int .i64 (lowE ks xy xz))), (81, (.pointer (some ⟨b6, 3, none⟩)))]) ⟨look_row rfl 8 rfl s8, look_row rfl 10 rfl s10, trivial⟩ ?_
          refine t_f2 ?_
          refine t_cF hS ?_
          refine ts (sv_blk Try.sizeOf3 rfl rfl rfl (Nat.le_of_ble_eq_true rfl) rfl) ?_
          refine t_f2 ?_
          refine t_f2 ?_
          exact d_closes0 ⟨look_row rfl 8 rfl s8, look_row rfl 10 rfl s10, trivial⟩ rfl (t_sat (fun _ h => h) (hK () trivial))
        · -- behind
         rintro _ hF
         try dsimp only at hF ⊢
         refine t_weak (E' := [(0, (.int .i64 ((m : Nat) : Int))), (1, (.slice bsb xs.length csb)), (2, (.slice bsc ys.length csc)), (7, (.bool true)), (8, (.pointer (some ⟨b1, 0, none⟩))), (9, (.int .i64 3)), (10, (.int .i64 ((i : Nat) : Int))), (11, (.pointer (some ⟨b6, 0, none⟩))), (12, (.int .i64 1)), (13, (.pointer (some ⟨b9, 0, none⟩))), (24, (.bool false)), (34, (.bool false)), (42, (.bool true)), (46, (.bool true)), (54, (.int .i64 xx)), (55, (.bool false)), (69, (.bool true)), (124, (.bool true))]) ⟨rfl, rfl, rfl, rfl, rfl, rfl, rfl, rfl, rfl, rfl, rfl, rfl, rfl, rfl, rfl, rfl, rfl, rfl, trivial⟩ ?_
         refine q_in_n ?_
         refine q_then_n ?_
         have ho9 : outG xx xy xz ks = (lowK ks xy xz, lowE ks xy xz, 0, 0) := by unfold outG; rw [if_neg (fun q => q.elim h11 h12), if_pos h13]
         rw [ho9] at hM44 ⊢
         dsimp only at hM44 ⊢
         exact t_weak (by exact ⟨rfl, rfl, rfl, rfl, rfl, rfl, rfl, rfl, rfl, rfl, rfl, rfl, rfl, rfl, rfl, trivial⟩) (hM44 0 ⟨trivial, trivial⟩)
       · -- no
        refine tp rfl (lv_eql rfl rfl (beq_eq_false_iff_ne.2 h13)) ?_
        refine tp rfl (lv_assign rfl) ?_
        refine t_done ?_
        refine q_then_n (hK48 _ _ ?_)
        refine c_false rfl ?_
        refine c_seq (fun K49 hK49 => ?_)
        refine c_region ?_
        by_cases h14 : xx = 4
        · -- yes
         refine tp rfl (lv_eql rfl rfl (beq_iff_eq.2 h14)) ?_
         refine tp rfl (lv_assign rfl) ?_
         refine t_done ?_
         refine q_then_n (hK49 _ _ ?_)
         refine c_true rfl ?_
         refine c_seq (fun K50 hK50 => ?_)
         refine c_draw (γ := Unit) (n := 11) Try.mixed rfl rfl (fun _ S => True) (fun _ => [(0, 85, (.int .i64 1)), (1, 86, (.pointer (some ⟨b1, 1, none⟩))), (2, 87, (.pointer (some ⟨p3, 0, none⟩))), (3, 88, (.pointer (some ⟨b9, 1, none⟩))), (4, 89, (.int .i64 xy)), (5, 90, (.tuple #[(.int .i64 (keyK ks xy)), (.int .i64 (remE ks xy))])), (6, 84, (.tuple #[(.int .i64 (keyK ks xy)), (.int .i64 (remE ks xy))])), (7, 91, (.int .i64 (keyK ks xy))), (8, 92, (.int .i64 (remE ks xy))), (9, 14, (.int .i64 (keyK ks xy))), (10, 15, (.int .i64 (remE ks xy)))]) (fun _ S => (Blk b9 [(.int .i64 xx), (.int .i64 xy), (.int .i64 xz)] 47) :: (HeapO p4 m (popK (pushK k3 ((ys.getD i R3.d).y) ((ys.getD i R3.d).z)))) :: (Blk b6 [(.int .i64 ((outG xx xy xz ks).2.1)), (.int .i64 ((outG xx xy xz ks).2.2.1)), (.int .i64 ((outG xx xy xz ks).2.2.2)), (.int .i64 0), (.int .i64 0), (.int .i64 0)] 45) :: (Blk b1 [(.pointer (some ⟨p2, 0, none⟩)), (.pointer (some ⟨p3, 0, none⟩)), (.pointer (some ⟨p4, 0, none⟩))] 43) :: (bif S 5 then (HeapO p3 m (remK ks xy)) else (HeapO p3 m ks)) :: (HeapO p2 m ((outG xx xy xz ks).1)) :: R) (()) trivial (fun _ h => h) (fun _ _ h => h) ?_ ?_
         · -- steps
          refine ⟨?_, ?_, ?_, ?_, ?_, ?_, ?_, ?_, ?_, ?_, ?_, trivial⟩
          · -- 0
           rintro _ S hF hS D hp K hK
           try dsimp only at hF ⊢
           refine d_need (small := [(12, (.int .i64 1))]) ⟨look_b rfl rfl, trivial⟩ ?_
           refine tp rfl (lv_move rfl) ?_
           exact d_closes ⟨look_b rfl rfl, trivial⟩ 0 rfl rfl rfl hS (AgreeR.refl _) (t_sat (fun _ h => h) (hK () trivial))
          · -- 1
           rintro _ S hF hS D hp K hK
           try dsimp only at hF ⊢
           have s0 := hp 0 rfl
           refine d_need (small := [(8, (.pointer (some ⟨b1, 0, none⟩))), (85, (.int .i64 1))]) ⟨look_b rfl rfl, look_row rfl 0 rfl s0, trivial⟩ ?_
           refine tp rfl (lv_indexArr_at (k' := 1) Try.underlying43 Try.sizeOf25 rfl rfl (by decide) (by decide) rfl) ?_
           exact d_closes ⟨look_b rfl rfl, look_row rfl 0 rfl s0, trivial⟩ 1 rfl rfl rfl hS (AgreeR.refl _) (t_sat (fun _ h => h) (hK () trivial))
          · -- 2
           rintro _ S hF hS D hp K hK
           try dsimp only at hF ⊢
           have s1 := hp 1 rfl
           refine d_need (small := [(86, (.pointer (some ⟨b1, 1, none⟩)))]) ⟨look_row rfl 1 rfl s1, trivial⟩ ?_
           refine tp rfl (lv_load Try.isAgg25 rfl (gives_blk (.tail _ (.tail _ (.tail _ (.head _)))) rfl)) ?_
           exact d_closes ⟨look_row rfl 1 rfl s1, trivial⟩ 2 rfl rfl rfl hS (AgreeR.refl _) (t_sat (fun _ h => h) (hK () trivial))
          · -- 3
           rintro _ S hF hS D hp K hK
           try dsimp only at hF ⊢
           refine d_need (small := [(13, (.pointer (some ⟨b9, 0, none⟩)))]) ⟨look_b rfl rfl, trivial⟩ ?_
           refine tp rfl (lv_fieldAddr (o' := 1) Try.underlying47 rfl Try.sizeOf3 rfl rfl) ?_
           exact d_closes ⟨look_b rfl rfl, trivial⟩ 3 rfl rfl rfl hS (AgreeR.refl _) (t_sat (fun _ h => h) (hK () trivial))
          · -- 4
           rintro _ S hF hS D hp K hK
           try dsimp only at hF ⊢
           have s3 := hp 3 rfl
           refine d_need (small := [(88, (.pointer (some ⟨b9, 1, none⟩)))]) ⟨look_row rfl 3 rfl s3, trivial⟩ ?_
           refine tp rfl (lv_load Try.isAgg3 rfl (gives_blk (.head _) rfl)) ?_
           exact d_closes ⟨look_row rfl 3 rfl s3, trivial⟩ 4 rfl rfl rfl hS (AgreeR.refl _) (t_sat (fun _ h => h) (hK () trivial))
          · -- 5
           rintro _ S hF hS D hp K hK
           try dsimp only at hF ⊢
           have s2 := hp 2 rfl
           have s4 := hp 4 rfl
           refine d_need (small := [(87, (.pointer (some ⟨p3, 0, none⟩))), (89, (.int .i64 xy))]) ⟨look_row rfl 2 rfl s2, look_row rfl 4 rfl s4, trivial⟩ ?_
           refine t_f4 ?_
           refine t_cF hS ?_
           refine tc rfl (en_fn Try.call17 rfl) (hrem_ok (n := m) (ks := ks) xy) ?_
           rintro _ _ ⟨rfl, rfl⟩
           refine t_f4 ?_
           refine t_f4 ?_
           refine t_f4 ?_
           refine t_f4 ?_
           exact d_closes ⟨look_row rfl 2 rfl s2, look_row rfl 4 rfl s4, trivial⟩ 5 rfl rfl rfl hS (AgreeR.refl _) (t_sat (fun _ h => h) (hK () trivial))
          · -- 6
           rintro _ S hF hS D hp K hK
           try dsimp only at hF ⊢
           have s5 := hp 5 rfl
           refine d_need (small := [(90, (.tuple #[(.int .i64 (keyK ks xy)), (.int .i64 (remE ks xy))]))]) ⟨look_row rfl 5 rfl s5, trivial⟩ ?_
           refine tp rfl (lv_move rfl) ?_
           exact d_closes ⟨look_row rfl 5 rfl s5, trivial⟩ 6 rfl rfl rfl hS (AgreeR.refl _) (t_sat (fun _ h => h) (hK () trivial))
          · -- 7
           rintro _ S hF hS D hp K hK
           try dsimp only at hF ⊢
           have s6 := hp 6 rfl
           refine d_need (small := [(84, (.tuple #[(.int .i64 (keyK ks xy)), (.int .i64 (remE ks xy))]))]) ⟨look_row rfl 6 rfl s6, trivial⟩ ?_
           refine tp rfl (lv_extract rfl rfl) ?_
           exact d_closes ⟨look_row rfl 6 rfl s6, trivial⟩ 7 rfl rfl rfl hS (AgreeR.refl _) (t_sat (fun _ h => h) (hK () trivial))
          · -- 8
           rintro _ S hF hS D hp K hK
           try dsimp only at hF ⊢
           have s6 := hp 6 rfl
           refine d_need (small := [(84, (.tuple #[(.int .i64 (keyK ks xy)), (.int .i64 (remE ks xy))]))]) ⟨look_row rfl 6 rfl s6, trivial⟩ ?_
           refine tp rfl (lv_extract rfl rfl) ?_
           exact d_closes ⟨look_row rfl 6 rfl s6, trivial⟩ 8 rfl rfl rfl hS (AgreeR.refl _) (t_sat (fun _ h => h) (hK () trivial))
          · -- 9
           rintro _ S hF hS D hp K hK
           try dsimp only at hF ⊢
           have s7 := hp 7 rfl
           refine d_need (small := [(91, (.int .i64 (keyK ks xy)))]) ⟨look_row rfl 7 rfl s7, trivial⟩ ?_
           refine tp rfl (lv_assign rfl) ?_
           exact d_closes ⟨look_row rfl 7 rfl s7, trivial⟩ 9 rfl rfl rfl hS (AgreeR.refl _) (t_sat (fun _ h => h) (hK () trivial))
          · -- 10
           rintro _ S hF hS D hp K hK
           try dsimp only at hF ⊢
           have s8 := hp 8 rfl
           refine d_need (small := [(92, (.int .i64 (remE ks xy)))]) ⟨look_row rfl 8 rfl s8, trivial⟩ ?_
           refine tp rfl (lv_assign rfl) ?_
           exact d_closes ⟨look_row rfl 8 rfl s8, trivial⟩ 10 rfl rfl rfl hS (AgreeR.refl _) (t_sat (fun _ h => h) (hK () trivial))
         · -- behind
          rintro _ hF
          try dsimp only at hF ⊢
          refine t_weak (E' := [(0, (.int .i64 ((m : Nat) : Int))), (1, (.slice bsb xs.length csb)), (2, (.slice bsc ys.length csc)), (7, (.bool true)), (8, (.pointer (some ⟨b1, 0, none⟩))), (9, (.int .i64 3)), (10, (.int .i64 ((i : Nat) : Int))), (11, (.pointer (some ⟨b6, 0, none⟩))), (12, (.int .i64 1)), (13, (.pointer (some ⟨b9, 0, none⟩))), (14, (.int .i64 (keyK ks xy))), (15, (.int .i64 (remE ks xy))), (24, (.bool false)), (34, (.bool false)), (42, (.bool true)), (46, (.bool true)), (54, (.int .i64 xx)), (55, (.bool false)), (69, (.bool false)), (82, (.bool true)), (124, (.bool true))]) ⟨rfl, rfl, rfl, rfl, rfl, rfl, rfl, rfl, rfl, rfl, rfl, rfl, rfl, rfl, rfl, rfl, rfl, rfl, rfl, rfl, rfl, trivial⟩ ?_
          refine q_then_n (hK50 _ _ ?_)
          refine c_region ?_
          refine tp rfl (lv_move rfl) ?_
          refine tp rfl (lv_move rfl) ?_
          refine tp rfl (lv_move rfl) ?_
          refine tp rfl (lv_buildArr (cs := [(.int .i64 (keyK ks xy)), (.int .i64 (remE ks xy)), (.int .i64 0)]) Try.underlying44 Try.zeroValue44 Try.sizeOf3 rfl rfl) ?_
          refine tp rfl (lv_indexArr_at (k' := 3) Try.underlying45 Try.sizeOf44 rfl rfl (by decide) (by decide) rfl) ?_
          refine t_f2 ?_
          refine ts (sv_blkAgg (news := [(.int .i64 (keyK ks xy)), (.int .i64 (remE ks xy)), (.int .i64 0)]) Try.sizeOf44 rfl rfl rfl rfl (Nat.le_of_ble_eq_true rfl) rfl) ?_
          refine t_done ?_
          refine q_in_n ?_
          refine q_then_n ?_
          have ho9 : outG xx xy xz ks = (remK ks xy, keyK ks xy, remE ks xy, 0) := by unfold outG; rw [if_neg (fun q => q.elim h11 h12), if_neg h13, if_pos h14]
          rw [ho9] at hM44 ⊢
          dsimp only at hM44 ⊢
          refine t_f2 ?_
          refine t_f2 ?_
          exact t_weak (by exact ⟨rfl, rfl, rfl, rfl, rfl, rfl, rfl, rfl, rfl, rfl, rfl, rfl, rfl, rfl, rfl, trivial⟩) (hM44 0 ⟨trivial, trivial⟩)
        · -- no
         refine tp rfl (lv_eql rfl rfl (beq_eq_false_iff_ne.2 h14)) ?_
         refine tp rfl (lv_assign rfl) ?_
         refine t_done ?_
         refine q_then_n (hK49 _ _ ?_)
         refine c_false rfl ?_
         refine c_seq (fun K50 hK50 => ?_)
         refine c_region ?_
         by_cases h15 : xx = 5
         · -- yes
          refine tp rfl (lv_eql rfl rfl (beq_iff_eq.2 h15)) ?_
          refine tp rfl (lv_assign rfl) ?_
          refine t_done ?_
          refine q_then_n (hK50 _ _ ?_)
          refine c_true rfl ?_
          refine c_seq (fun K51 hK51 => ?_)
          refine c_region ?_
          refine tp rfl (lv_move rfl) ?_
          refine tp rfl (lv_indexArr_at (k' := 1) Try.underlying43 Try.sizeOf25 rfl rfl (by decide) (by decide) rfl) ?_
          refine tp rfl (lv_load Try.isAgg25 rfl (gives_blk (.tail _ (.tail _ (.tail _ (.head _)))) rfl)) ?_
          refine t_f4 ?_
          refine tc rfl (en_fn Try.call14 rfl) (hpop_ok (n := m) (ks := ks) ) ?_
          rintro _ _ ⟨rfl, rfl⟩
          refine tp rfl (lv_move rfl) ?_
          refine tp rfl (lv_extract rfl rfl) ?_
          refine tp rfl (lv_extract rfl rfl) ?_
          refine tp rfl (lv_extract rfl rfl) ?_
          refine tp rfl (lv_assign rfl) ?_
          refine tp rfl (lv_assign rfl) ?_
          refine tp rfl (lv_assign rfl) ?_
          refine t_done ?_
          refine q_then_n (hK51 _ _ ?_)
          refine c_seq (fun K52 hK52 => ?_)
          refine c_region ?_
          refine tp rfl (lv_move rfl) ?_
          refine tp rfl (lv_move rfl) ?_
          refine tp rfl (lv_move rfl) ?_
          refine tp rfl (lv_buildArr (cs := [(.int .i64 (fstI ks)), (.int .i64 (fstV ks)), (.int .i64 0)]) Try.underlying44 Try.zeroValue44 Try.sizeOf3 rfl rfl) ?_
          refine tp rfl (lv_indexArr_at (k' := 3) Try.underlying45 Try.sizeOf44 rfl rfl (by decide) (by decide) rfl) ?_
          refine t_f3 ?_
          refine ts (sv_blkAgg (news := [(.int .i64 (fstI ks)), (.int .i64 (fstV ks)), (.int .i64 0)]) Try.sizeOf44 rfl rfl rfl rfl (Nat.le_of_ble_eq_true rfl) rfl) ?_
          refine t_done ?_
          refine q_then_n (hK52 _ _ ?_)
          refine c_seq (fun K53 hK53 => ?_)
          refine c_region ?_
          refine tp rfl (lv_move rfl) ?_
          refine t_done ?_
          refine q_then_n (hK53 _ _ ?_)
          refine c_split rfl (fun c16 => ?_) (fun c16 => ?_)
          · -- true
           refine c_region ?_
           refine tp rfl (lv_move rfl) ?_
           refine tp rfl (lv_indexArr_at (k' := 3) Try.underlying45 Try.sizeOf44 rfl rfl (by decide) (by decide) rfl) ?_
           refine tp rfl (lv_indexArr_at (k' := 5) Try.underlying44 Try.sizeOf3 rfl rfl (by decide) (by decide) rfl) ?_
           refine ts (sv_blk Try.sizeOf3 rfl rfl rfl (Nat.le_of_ble_eq_true rfl) rfl) ?_
           refine t_done ?_
           refine q_in_n ?_
           refine q_then_n ?_
           have ho9 : outG xx xy xz ks = (popK ks, fstI ks, fstV ks, 1) := by unfold outG; rw [if_neg (fun q => q.elim h11 h12), if_neg h13, if_neg h14, if_pos h15, if_pos c16]
           rw [ho9] at hM44 ⊢
           dsimp only at hM44 ⊢
           refine t_f1 ?_
           refine t_f4 ?_
           refine t_f2 ?_
           refine t_f4 ?_
           refine t_f4 ?_
           exact t_weak (by exact ⟨rfl, rfl, rfl, rfl, rfl, rfl, rfl, rfl, rfl, rfl, rfl, rfl, rfl, rfl, rfl, trivial⟩) (hM44 0 ⟨trivial, trivial⟩)
          · -- false
           refine c_skip ?_
           refine q_in_n ?_
           refine q_then_n ?_
           have ho9 : outG xx xy xz ks = (popK ks, fstI ks, fstV ks, 0) := by unfold outG; rw [if_neg (fun q => q.elim h11 h12), if_neg h13, if_neg h14, if_pos h15, if_neg (fun e => by rw [c16] at e; cases e)]
           rw [ho9] at hM44 ⊢
           dsimp only at hM44 ⊢
           refine t_f1 ?_
           refine t_f4 ?_
           refine t_f2 ?_
           refine t_f4 ?_
           refine t_f4 ?_
           exact t_weak (by exact ⟨rfl, rfl, rfl, rfl, rfl, rfl, rfl, rfl, rfl, rfl, rfl, rfl, rfl, rfl, rfl, trivial⟩) (hM44 0 ⟨trivial, trivial⟩)
         · -- no
          refine tp rfl (lv_eql rfl rfl (beq_eq_false_iff_ne.2 h15)) ?_
          refine tp rfl (lv_assign rfl) ?_
          refine t_done ?_
          refine q_then_n (hK50 _ _ ?_)
          refine c_false rfl ?_
          refine c_skip ?_
          refine q_in_n ?_
          refine q_then_n ?_
          have ho9 : outG xx xy xz ks = (ks, 0, 0, 0) := by unfold outG; rw [if_neg (fun q => q.elim h11 h12), if_neg h13, if_neg h14, if_neg h15]
          rw [ho9] at hM44 ⊢
          dsimp only at hM44 ⊢
          exact t_weak (by exact ⟨rfl, rfl, rfl, rfl, rfl, rfl, rfl, rfl, rfl, rfl, rfl, rfl, rfl, rfl, rfl, trivial⟩) (hM44 0 ⟨trivial, trivial⟩)
   · -- no
    refine tp rfl (lv_lss rfl rfl (decide_eq_false h8)) ?_
    refine tp rfl (lv_move rfl) ?_
    refine t_skip rfl rfl rfl ?_
    refine t_skip rfl rfl rfl ?_
    refine tp rfl (lv_pick_f rfl rfl) ?_
    refine t_done ?_
    refine q_then_n (hK38 _ _ ?_)
    refine c_false rfl ?_
    refine c_skip ?_
    refine q_in_n ?_
    refine q_then_n (hK35 _ _ ?_)
    refine c_region ?_
    refine tp rfl (lv_move rfl) ?_
    refine tp rfl (lv_add (c := 1) rfl rfl (by decide)) ?_
    refine tp rfl (lv_assign rfl) ?_
    refine t_done ?_
    refine q_then_n ?_
    refine c_round ?_
    refine c_seq (fun K39 hK39 => ?_)
    refine c_seq (fun K40 hK40 => ?_)
    refine c_region ?_
    refine tp rfl (lv_move rfl) ?_
    refine tp rfl (lv_lss (r := true) rfl rfl (by decide)) ?_
    refine t_done ?_
    refine q_then_n (hK40 _ _ ?_)
    refine c_true rfl ?_
    refine c_skip ?_
    refine q_then_n (hK39 _ _ ?_)
    refine c_seq (fun K41 hK41 => ?_)
    refine c_block ?_
    refine c_seq (fun K42 hK42 => ?_)
    refine c_region ?_
    refine tp rfl (lv_move rfl) ?_
    refine tp rfl (lv_move rfl) ?_
    refine tp rfl (lv_indexAddr (k' := i * 3) Try.underlying42 Try.sizeOf47 rfl rfl oksb (by omega) (by omega) (by omega)) ?_
    refine tp rfl (lv_loadAgg_ad (cs := [(.int .i64 ((xs.getD i R3.d).x)), (.int .i64 ((xs.getD i R3.d).y)), (.int .i64 ((xs.getD i R3.d).z))]) Try.isAgg47 Try.sizeOf47 rfl (gives_all3 (Rd.gives (Rd.cons (Rd.cons (Rd.cons (Rd.cons (Rd.cons (Rd.cons hsb)))))) ((recs_get (k := i) (j := 0) triF_len (d := R3.d) (by omega) (Nat.le_of_ble_eq_true rfl)).trans rfl)) (Rd.gives (Rd.cons (Rd.cons (Rd.cons (Rd.cons (Rd.cons (Rd.cons hsb)))))) ((recs_get (k := i) (j := 1) triF_len (d := R3.d) (by omega) (Nat.le_of_ble_eq_true rfl)).trans rfl)) (Rd.gives (Rd.cons (Rd.cons (Rd.cons (Rd.cons (Rd.cons (Rd.cons hsb)))))) ((recs_get (k := i) (j := 2) triF_len (d := R3.d) (by omega) (Nat.le_of_ble_eq_true rfl)).trans rfl)))) ?_
    refine tm rfl (mv_alloc Try.zeroValue47 rfl) ?_
    rintro _ _ ⟨b17, rfl, rfl⟩
    refine ts (sv_blkAgg (news := [(.int .i64 ((xs.getD i R3.d).x)), (.int .i64 ((xs.getD i R3.d).y)), (.int .i64 ((xs.getD i R3.d).z))]) Try.sizeOf47 rfl rfl rfl rfl (Nat.le_of_ble_eq_true rfl) rfl) ?_
    refine t_done ?_
    refine q_then_n (hK42 _ _ ?_)
    rw [hxx, hxy, hxz]
    refine t_f1 ?_
    refine t_drop ?_
    refine c_seq (fun K43 hK43 => ?_)
    have hM43 : ∀ (u9 : Nat), True ∧ True → Tri K43 W 156 [(0, (.int .i64 ((m : Nat) : Int))), (1, (.slice bsb xs.length csb)), (2, (.slice bsc ys.length csc)), (7, (.bool true)), (8, (.pointer (some ⟨b1, 0, none⟩))), (9, (.int .i64 3)), (10, (.int .i64 ((i : Nat) : Int))), (11, (.pointer (some ⟨b6, 0, none⟩))), (12, (.int .i64 1)), (13, (.pointer (some ⟨b17, 0, none⟩))), (24, (.bool false)), (34, (.bool false)), (42, (.bool true)), (46, (.bool true)), (124, (.bool false))] ((Blk b17 [(.int .i64 xx), (.int .i64 xy), (.int .i64 xz)] 47) :: (Blk b6 [(.int .i64 ((outG xx xy xz ks).2.1)), (.int .i64 ((outG xx xy xz ks).2.2.1)), (.int .i64 ((outG xx xy xz ks).2.2.2)), (.int .i64 ((outG xx xy xz ks).2.1)), (.int .i64 ((outG xx xy xz ks).2.2.1)), (.int .i64 ((outG xx xy xz ks).2.2.2))] 45) :: (Blk b1 [(.pointer (some ⟨p2, 0, none⟩)), (.pointer (some ⟨p3, 0, none⟩)), (.pointer (some ⟨p4, 0, none⟩))] 43) :: (HeapO p4 m k3) :: (HeapO p3 m ((outG xx xy xz ks).1)) :: (HeapO p2 m ((outG xx xy xz ks).1)) :: R) := by
     rintro u9 hF
     obtain ⟨_, _⟩ := hF
     refine hK43 _ _ ?_
     refine c_seq (fun K44 hK44 => ?_)
     refine c_region ?_
     refine tp rfl (lv_move rfl) ?_
     refine tp rfl (lv_move rfl) ?_
     refine tp rfl (lv_len Try.underlying42 rfl rfl) ?_
     by_cases h18 : ((i : Nat) : Int) < ((ys.length : Nat) : Int)
     · -- yes
      refine tp rfl (lv_lss rfl rfl (decide_eq_true h18)) ?_
      refine tp rfl (lv_move rfl) ?_
      refine t_guard rfl rfl ?_
      refine tp rfl (lv_move rfl) ?_
      refine t_guard rfl rfl ?_
      refine tp rfl (lv_eql (r := false) rfl rfl (by decide)) ?_
      refine tp rfl (lv_pick_t rfl rfl) ?_
      refine t_done ?_
      refine q_then_n (hK44 _ _ ?_)
      refine c_false rfl ?_
      refine c_skip ?_
      refine q_in_n ?_
      refine q_then_n (hK41 _ _ ?_)
      refine c_region ?_
      refine tp rfl (lv_move rfl) ?_
      refine tp rfl (lv_add (c := 2) rfl rfl (by decide)) ?_
      refine tp rfl (lv_assign rfl) ?_
      refine t_done ?_
      refine q_then_n ?_
      refine c_round ?_
      refine c_seq (fun K45 hK45 => ?_)
      refine c_seq (fun K46 hK46 => ?_)
      refine c_region ?_
      refine tp rfl (lv_move rfl) ?_
      refine tp rfl (lv_lss (r := false) rfl rfl (by decide)) ?_
      refine t_done ?_
      refine q_then_n (hK46 _ _ ?_)
      refine c_false rfl ?_
      refine c_exit ?_
      refine q_then_x ?_
      refine q_then_x ?_
      refine q_in_x ?_
      refine q_then_n (hK31 _ _ ?_)
      refine c_seq (fun K47 hK47 => ?_)
      refine c_draw (γ := Unit) (n := 14) Try.mixed rfl rfl (fun _ S => True) (fun _ => [(0, 141, (.pointer (some ⟨b6, 0, none⟩))), (1, 142, (.agg #[(.int .i64 ((outG xx xy xz ks).2.1)), (.int .i64 ((outG xx xy xz ks).2.2.1)), (.int .i64 ((outG xx xy xz ks).2.2.2))])), (2, 143, (.pointer (some ⟨b6, 3, none⟩))), (3, 144, (.agg #[(.int .i64 ((outG xx xy xz ks).2.1)), (.int .i64 ((outG xx xy xz ks).2.2.1)), (.int .i64 ((outG xx xy xz ks).2.2.2))])), (4, 145, (.bool false)), (5, 146, (.bool false)), (6, 147, (.pointer (some ⟨b1, 0, none⟩))), (7, 148, (.pointer (some ⟨p2, 0, none⟩))), (8, 149, (.int .i64 ((cntK ((outG xx xy xz ks).1) : Nat) : Int))), (9, 150, (.pointer (some ⟨b1, 1, none⟩))), (10, 151, (.pointer (some ⟨p3, 0, none⟩))), (11, 152, (.int .i64 ((cntK ((outG xx xy xz ks).1) : Nat) : Int))), (12, 153, (.bool false)), (13, 154, (.bool false))]) (fun _ S => (Blk b17 [(.int .i64 xx), (.int .i64 xy), (.int .i64 xz)] 47) :: (Blk b6 [(.int .i64 ((outG xx xy xz ks).2.1)), (.int .i64 ((outG xx xy xz ks).2.2.1)), (.int .i64 ((outG xx xy xz ks).2.2.2)), (.int .i64 ((outG xx xy xz ks).2.1)), (.int .i64 ((outG xx xy xz ks).2.2.1)), (.int .i64 ((outG xx xy xz ks).2.2.2))] 45) :: (Blk b1 [(.pointer (some ⟨p2, 0, none⟩)), (.pointer (some ⟨p3, 0, none⟩)), (.pointer (some ⟨p4, 0, none⟩))] 43) :: (HeapO p4 m k3) :: (HeapO p3 m ((outG xx xy xz ks).1)) :: (HeapO p2 m ((outG xx xy xz ks).1)) :: R) (()) trivial (fun _ h => h) (fun _ _ h => h) ?_ ?_
      · -- steps
       refine ⟨?_, ?_, ?_, ?_, ?_, ?_, ?_, ?_, ?_, ?_, ?_, ?_, ?_, ?_, trivial⟩
       · -- 0
        rintro _ S hF hS D hp K hK
        try dsimp only at hF ⊢
        refine d_need (small := [(11, (.pointer (some ⟨b6, 0, none⟩)))]) ⟨look_b rfl rfl, trivial⟩ ?_
        refine tp rfl (lv_indexArr_at (k' := 0) Try.underlying45 Try.sizeOf44 rfl rfl (by decide) (by decide) rfl) ?_
        exact d_closes ⟨look_b rfl rfl, trivial⟩ 0 rfl rfl rfl hS (AgreeR.refl _) (t_sat (fun _ h => h) (hK () trivial))
       · -- 1
        rintro _ S hF hS D hp K hK
        try dsimp only at hF ⊢
        have s0 := hp 0 rfl
        refine d_need (small := [(141, (.pointer (some ⟨b6, 0, none⟩)))]) ⟨look_row rfl 0 rfl s0, trivial⟩ ?_
        refine tp rfl (lv_loadAgg (cs := [(.int .i64 ((outG xx xy xz ks).2.1)), (.int .i64 ((outG xx xy xz ks).2.2.1)), (.int .i64 ((outG xx xy xz ks).2.2.2))]) Try.isAgg44 Try.sizeOf44 rfl (gives_all3 (gives_blk (.tail _ (.head _)) rfl) (gives_blk (.tail _ (.head _)) rfl) (gives_blk (.tail _ (.head _)) rfl))) ?_
        exact d_closes ⟨look_row rfl 0 rfl s0, trivial⟩ 1 rfl rfl rfl hS (AgreeR.refl _) (t_sat (fun _ h => h) (hK () trivial))
       · -- 2
        rintro _ S hF hS D hp K hK
        try dsimp only at hF ⊢
        refine d_need (small := [(11, (.pointer (some ⟨b6, 0, none⟩)))]) ⟨look_b rfl rfl, trivial⟩ ?_
        refine tp rfl (lv_indexArr_at (k' := 3) Try.underlying45 Try.sizeOf44 rfl rfl (by decide) (by decide) rfl) ?_
        exact d_closes ⟨look_b rfl rfl, trivial⟩ 2 rfl rfl rfl hS (AgreeR.refl _) (t_sat (fun _ h => h) (hK () trivial))
       · -- 3
        rintro _ S hF hS D hp K hK
        try dsimp only at hF ⊢
        have s2 := hp 2 rfl
        refine d_need (small := [(143, (.pointer (some ⟨b6, 3, none⟩)))]) ⟨look_row rfl 2 rfl s2, trivial⟩ ?_
        refine tp rfl (lv_loadAgg (cs := [(.int .i64 ((outG xx xy xz ks).2.1)), (.int .i64 ((outG xx xy xz ks).2.2.1)), (.int .i64 ((outG xx xy xz ks).2.2.2))]) Try.isAgg44 Try.sizeOf44 rfl (gives_all3 (gives_blk (.tail _ (.head _)) rfl) (gives_blk (.tail _ (.head _)) rfl) (gives_blk (.tail _ (.head _)) rfl))) ?_
        exact d_closes ⟨look_row rfl 2 rfl s2, trivial⟩ 3 rfl rfl rfl hS (AgreeR.refl _) (t_sat (fun _ h => h) (hK () trivial))
       · -- 4
        rintro _ S hF hS D hp K hK
        try dsimp only at hF ⊢
        have s1 := hp 1 rfl
        have s3 := hp 3 rfl
        refine d_need (small := [(142, (.agg #[(.int .i64 ((outG xx xy xz ks).2.1)), (.int .i64 ((outG xx xy xz ks).2.2.1)), (.int .i64 ((outG xx xy xz ks).2.2.2))])), (144, (.agg #[(.int .i64 ((outG xx xy xz ks).2.1)), (.int .i64 ((outG xx xy xz ks).2.2.1)), (.int .i64 ((outG xx xy xz ks).2.2.2))]))]) ⟨look_row rfl 1 rfl s1, look_row rfl 3 rfl s3, trivial⟩ ?_
        refine tp rfl (lv_neqA3 Try.underlying44 Try.underlying3 Try.type3 (by kernel_rfl) Try.isAgg3 (by kernel_rfl) rfl rfl) ?_
        exact d_closes ⟨look_row rfl 1 rfl s1, look_row rfl 3 rfl s3, trivial⟩ 4 rfl rfl rfl hS (AgreeR.refl _) (t_sat (fun _ h => h) (hK () trivial))
       · -- 5
        rintro _ S hF hS D hp K hK
        try dsimp only at hF ⊢
        have s4 := hp 4 rfl
        refine d_need (small := [(145, (.bool false))]) ⟨look_row rfl 4 rfl s4, trivial⟩ ?_
        refine tp rfl (lv_move rfl) ?_
        exact d_closes ⟨look_row rfl 4 rfl s4, trivial⟩ 5 rfl rfl rfl hS (AgreeR.refl _) (t_sat (fun _ h => h) (hK () trivial))
       · -- 6
        rintro _ S hF hS D hp K hK
        try dsimp only at hF ⊢
        have s5 := hp 5 rfl
        refine d_need (small := [(8, (.pointer (some ⟨b1, 0, none⟩))), (146, (.bool false))]) ⟨look_b rfl rfl, look_row rfl 5 rfl s5, trivial⟩ ?_
        refine t_guard rfl rfl ?_
        refine tp rfl (lv_indexArr_at (k' := 0) Try.underlying43 Try.sizeOf25 rfl rfl (by decide) (by decide) rfl) ?_
        exact d_closes ⟨look_b rfl rfl, look_row rfl 5 rfl s5, trivial⟩ 6 rfl rfl rfl hS (AgreeR.refl _) (t_sat (fun _ h => h) (hK () trivial))
       · -- 7
        rintro _ S hF hS D hp K hK
        try dsimp only at hF ⊢
        have s5 := hp 5 rfl
        have s6 := hp 6 rfl
        refine d_need (small := [(146, (.bool false)), (147, (.pointer (some ⟨b1, 0, none⟩)))]) ⟨look_row rfl 5 rfl s5, look_row rfl 6 rfl s6, trivial⟩ ?_
        refine t_guard rfl rfl ?_
        refine tp rfl (lv_load Try.isAgg25 rfl (gives_blk (.tail _ (.tail _ (.head _))) rfl)) ?_
        exact d_closes ⟨look_row rfl 5 rfl s5, look_row rfl 6 rfl s6, trivial⟩ 7 rfl rfl rfl hS (AgreeR.refl _) (t_sat (fun _ h => h) (hK () trivial))
       · -- 8
        rintro _ S hF hS D hp K hK
        try dsimp only at hF ⊢
        have s5 := hp 5 rfl
        have s7 := hp 7 rfl
        refine d_need (small := [(146, (.bool false)), (148, (.pointer (some ⟨p2, 0, none⟩)))]) ⟨look_row rfl 5 rfl s5, look_row rfl 7 rfl s7, trivial⟩ ?_
        refine t_guard rfl rfl ?_
        refine t_f5 ?_
        refine tc rfl (en_fn Try.call15 rfl) (hlen_ok (n := m) (ks := (outG xx xy xz ks).1) ) ?_
        rintro _ _ ⟨rfl, rfl⟩
        refine t_f5 ?_
        refine t_f5 ?_
        refine t_f5 ?_
        refine t_f5 ?_
        refine t_f5 ?_
        exact d_closes ⟨look_row rfl 5 rfl s5, look_row rfl 7 rfl s7, trivial⟩ 8 rfl rfl rfl hS (AgreeR.refl _) (t_sat (fun _ h => h) (hK () trivial))
       · -- 9
        rintro _ S hF hS D hp K hK
        try dsimp only at hF ⊢
        have s5 := hp 5 rfl
        refine d_need (small := [(8, (.pointer (some ⟨b1, 0, none⟩))), (146, (.bool false))]) ⟨look_b rfl rfl, look_row rfl 5 rfl s5, trivial⟩ ?_
        refine t_guard rfl rfl ?_
        refine tp rfl (lv_indexArr_at (k' := 1) Try.underlying43 Try.sizeOf25 rfl rfl (by decide) (by decide) rfl) ?_
        exact d_closes ⟨look_b rfl rfl, look_row rfl 5 rfl s5, trivial⟩ 9 rfl rfl rfl hS (AgreeR.refl _) (t_sat (fun _ h => h) (hK () trivial))
       · -- 10
        rintro _ S hF hS D hp K hK
        try dsimp only at hF ⊢
        have s5 := hp 5 rfl
        have s9 := hp 9 rfl
        refine d_need (small := [(146, (.bool false)), (150, (.pointer (some ⟨b1, 1, none⟩)))]) ⟨look_row rfl 5 rfl s5, look_row rfl 9 rfl s9, trivial⟩ ?_
        refine t_guard rfl rfl ?_
        refine tp rfl (lv_load Try.isAgg25 rfl (gives_blk (.tail _ (.tail _ (.head _))) rfl)) ?_
        exact d_closes ⟨look_row rfl 5 rfl s5, look_row rfl 9 rfl s9, trivial⟩ 10 rfl rfl rfl hS (AgreeR.refl _) (t_sat (fun _ h => h) (hK () trivial))
       · -- 11
        rintro _ S hF hS D hp K hK
        try dsimp only at hF ⊢
        have s5 := hp 5 rfl
        have s10 := hp 10 rfl
        refine d_need (small := [(146, (.bool false)), (151, (.pointer (some ⟨p3, 0, none⟩)))]) ⟨look_row rfl 5 rfl s5, look_row rfl 10 rfl s10, trivial⟩ ?_
        refine t_guard rfl rfl ?_
        refine t_f4 ?_
        refine tc rfl (en_fn Try.call15 rfl) (hlen_ok (n := m) (ks := (outG xx xy xz ks).1) ) ?_
        rintro _ _ ⟨rfl, rfl⟩
        refine t_f4 ?_
        refine t_f4 ?_
        refine t_f4 ?_
        refine t_f4 ?_
        exact d_closes ⟨look_row rfl 5 rfl s5, look_row rfl 10 rfl s10, trivial⟩ 11 rfl rfl rfl hS (AgreeR.refl _) (t_sat (fun _ h => h) (hK () trivial))
       · -- 12
        rintro _ S hF hS D hp K hK
        try dsimp only at hF ⊢
        have s5 := hp 5 rfl
        have s8 := hp 8 rfl
        have s11 := hp 11 rfl
        refine d_need (small := [(146, (.bool false)), (149, (.int .i64 ((cntK ((outG xx xy xz ks).1) : Nat) : Int))), (152, (.int .i64 ((cntK ((outG xx xy xz ks).1) : Nat) : Int)))]) ⟨look_row rfl 5 rfl s5, look_row rfl 8 rfl s8, look_row rfl 11 rfl s11, trivial⟩ ?_
        refine t_guard rfl rfl ?_
        refine tp rfl (lv_neq rfl rfl (bne_eq_false_iff_eq.2 rfl)) ?_
        exact d_closes ⟨look_row rfl 5 rfl s5, look_row rfl 8 rfl s8, look_row rfl 11 rfl s11, trivial⟩ 12 rfl rfl rfl hS (AgreeR.refl _) (t_sat (fun _ h => h) (hK () trivial))
       · -- 13
        rintro _ S hF hS D hp K hK
        try dsimp only at hF ⊢
        have s5 := hp 5 rfl
        have s12 := hp 12 rfl
        refine d_need (small := [(146, (.bool false)), (153, (.bool false))]) ⟨look_row rfl 5 rfl s5, look_row rfl 12 rfl s12, trivial⟩ ?_
        refine tp rfl (lv_pick_f rfl rfl) ?_
        exact d_closes ⟨look_row rfl 5 rfl s5, look_row rfl 12 rfl s12, trivial⟩ 13 rfl rfl rfl hS (AgreeR.refl _) (t_sat (fun _ h => h) (hK () trivial))
      · -- behind
       rintro _ hF
       try dsimp only at hF ⊢
       refine t_weak (E' := [(0, (.int .i64 ((m : Nat) : Int))), (1, (.slice bsb xs.length csb)), (2, (.slice bsc ys.length csc)), (7, (.bool true)), (8, (.pointer (some ⟨b1, 0, none⟩))), (9, (.int .i64 3)), (10, (.int .i64 ((i : Nat) : Int))), (11, (.pointer (some ⟨b6, 0, none⟩))), (12, (.int .i64 2)), (13, (.pointer (some ⟨b17, 0, none⟩))), (24, (.bool false)), (34, (.bool false)), (42, (.bool true)), (46, (.bool false)), (124, (.bool false)), (154, (.bool false))]) ⟨rfl, rfl, rfl, rfl, rfl, rfl, rfl, rfl, rfl, rfl, rfl, rfl, rfl, rfl, rfl, rfl, trivial⟩ ?_
       refine q_then_n (hK47 _ _ ?_)
       refine c_false rfl ?_
       refine c_skip ?_
       refine q_in_n ?_
       refine q_then_n (hK29 _ _ ?_)
       refine c_region ?_
       refine tp rfl (lv_move rfl) ?_
       refine tp rfl (lv_add (c := ((i + 1 : Nat) : Int)) rfl rfl (wr_i64_succ (by omega))) ?_
       refine tp rfl (lv_assign rfl) ?_
       refine t_done ?_
       refine q_then_n ?_
       refine t_drop ?_
       refine t_drop ?_
       exact t_weak (by exact ⟨rfl, rfl, rfl, rfl, rfl, rfl, rfl, rfl, rfl, trivial⟩) ((hK26 (i + 1, (outG xx xy xz ks).1, k3) ⟨by dsimp only; omega, by dsimp only; omega⟩ (by dsimp only; omega)))
     · -- no
      refine tp rfl (lv_lss rfl rfl (decide_eq_false h18)) ?_
      refine tp rfl (lv_move rfl) ?_
      refine t_skip rfl rfl rfl ?_
      refine t_skip rfl rfl rfl ?_
      refine tp rfl (lv_pick_f rfl rfl) ?_
      refine t_done ?_
      refine q_then_n (hK44 _ _ ?_)
      refine c_false rfl ?_
      refine c_skip ?_
      refine q_in_n ?_
      refine q_then_n (hK41 _ _ ?_)
      refine c_region ?_
      refine tp rfl (lv_move rfl) ?_
      refine tp rfl (lv_add (c := 2) rfl rfl (by decide)) ?_
      refine tp rfl (lv_assign rfl) ?_
      refine t_done ?_
      refine q_then_n ?_
      refine c_round ?_
      refine c_seq (fun K45 hK45 => ?_)
      refine c_seq (fun K46 hK46 => ?_)
      refine c_region ?_
      refine tp rfl (lv_move rfl) ?_
      refine tp rfl (lv_lss (r := false) rfl rfl (by decide)) ?_
      refine t_done ?_
      refine q_then_n (hK46 _ _ ?_)
      refine c_false rfl ?_
      refine c_exit ?_
      refine q_then_x ?_
      refine q_then_x ?_
      refine q_in_x ?_
      refine q_then_n (hK31 _ _ ?_)
      refine c_seq (fun K47 hK47 => ?_)
      refine c_draw (γ := Unit) (n := 14) Try.mixed rfl rfl (fun _ S => True) (fun _ => [(0, 141, (.pointer (some ⟨b6, 0, none⟩))), (1, 142, (.agg #[(.int .i64 ((outG xx xy xz ks).2.1)), (.int .i64 ((outG xx xy xz ks).2.2.1)), (.int .i64 ((outG xx xy xz ks).2.2.2))])), (2, 143, (.pointer (some ⟨b6, 3, none⟩))), (3, 144, (.agg #[(.int .i64 ((outG xx xy xz ks).2.1)), (.int .i64 ((outG xx xy xz ks).2.2.1)), (.int .i64 ((outG xx xy xz ks).2.2.2))])), (4, 145, (.bool false)), (5, 146, (.bool false)), (6, 147, (.pointer (some ⟨b1, 0, none⟩))), (7, 148, (.pointer (some ⟨p2, 0, none⟩))), (8, 149, (.int .i64 ((cntK ((outG xx xy xz ks).1) : Nat) : Int))), (9, 150, (.pointer (some ⟨b1, 1, none⟩))), (10, 151, (.pointer (some ⟨p3, 0, none⟩))), (11, 152, (.int .i64 ((cntK ((outG xx xy xz ks).1) : Nat) : Int))), (12, 153, (.bool false)), (13, 154, (.bool false))]) (fun _ S => (Blk b17 [(.int .i64 xx), (.int .i64 xy), (.int .i64 xz)] 47) :: (Blk b6 [(.int .i64 ((outG xx xy xz ks).2.1)), (.int .i64 ((outG xx xy xz ks).2.2.1)), (.int .i64 ((outG xx xy xz ks).2.2.2)), (.int .i64 ((outG xx xy xz ks).2.1)), (.int .i64 ((outG xx xy xz ks).2.2.1)), (.int .i64 ((outG xx xy xz ks).2.2.2))] 45) :: (Blk b1 [(.pointer (some ⟨p2, 0, none⟩)), (.pointer (some ⟨p3, 0, none⟩)), (.pointer (some ⟨p4, 0, none⟩))] 43) :: (HeapO p4 m k3) :: (HeapO p3 m ((outG xx xy xz ks).1)) :: (HeapO p2 m ((outG xx xy xz ks).1)) :: R) (()) trivial (fun _ h => h) (fun _ _ h => h) ?_ ?_
      · -- steps
       refine ⟨?_, ?_, ?_, ?_, ?_, ?_, ?_, ?_, ?_, ?_, ?_, ?_, ?_, ?_, trivial⟩
       · -- 0
        rintro _ S hF hS D hp K hK
        try dsimp only at hF ⊢
        refine d_need (small := [(11, (.pointer (some ⟨b6, 0, none⟩)))]) ⟨look_b rfl rfl, trivial⟩ ?_
        refine tp rfl (lv_indexArr_at (k' := 0) Try.underlying45 Try.sizeOf44 rfl rfl (by decide) (by decide) rfl) ?_
        exact d_closes ⟨look_b rfl rfl, trivial⟩ 0 rfl rfl rfl hS (AgreeR.refl _) (t_sat (fun _ h => h) (hK () trivial))
       · -- 1
        rintro _ S hF hS D hp K hK
        try dsimp only at hF ⊢
        have s0 := hp 0 rfl
        refine d_need (small := [(141, (.pointer (some ⟨b6, 0, none⟩)))]) ⟨look_row rfl 0 rfl s0, trivial⟩ ?_
        refine tp rfl (lv_loadAgg (cs := [(.int .i64 ((outG xx xy xz ks).2.1)), (.int .i64 ((outG xx xy xz ks).2.2.1)), (.int .i64 ((outG xx xy xz ks).2.2.2))]) Try.isAgg44 Try.sizeOf44 rfl (gives_all3 (gives_blk (.tail _ (.head _)) rfl) (gives_blk (.tail _ (.head _)) rfl) (gives_blk (.tail _ (.head _)) rfl))) ?_
        exact d_closes ⟨look_row rfl 0 rfl s0, trivial⟩ 1 rfl rfl rfl hS (AgreeR.refl _) (t_sat (fun _ h => h) (hK () trivial))
       · -- 2
        rintro _ S hF hS D hp K hK
        try dsimp only at hF ⊢
        refine d_need (small := [(11, (.pointer (some ⟨b6, 0, none⟩)))]) ⟨look_b rfl rfl, trivial⟩ ?_
        refine tp rfl (lv_indexArr_at (k' := 3) Try.underlying45 Try.sizeOf44 rfl rfl (by decide) (by decide) rfl) ?_
        exact d_closes ⟨look_b rfl rfl, trivial⟩ 2 rfl rfl rfl hS (AgreeR.refl _) (t_sat (fun _ h => h) (hK () trivial))
       · -- 3
        rintro _ S hF hS D hp K hK
        try dsimp only at hF ⊢
        have s2 := hp 2 rfl
        refine d_need (small := [(143, (.pointer (some ⟨b6, 3, none⟩)))]) ⟨look_row rfl 2 rfl s2, trivial⟩ ?_
        refine tp rfl (lv_loadAgg (cs := [(.int .i64 ((outG xx xy xz ks).2.1)), (.int .i64 ((outG xx xy xz ks).2.2.1)), (.int .i64 ((outG xx xy xz ks).2.2.2))]) Try.isAgg44 Try.sizeOf44 rfl (gives_all3 (gives_blk (.tail _ (.head _)) rfl) (gives_blk (.tail _ (.head _)) rfl) (gives_blk (.tail _ (.head _)) rfl))) ?_
        exact d_closes ⟨look_row rfl 2 rfl s2, trivial⟩ 3 rfl rfl rfl hS (AgreeR.refl _) (t_sat (fun _ h => h) (hK () trivial))
       · -- 4
        rintro _ S hF hS D hp K hK
        try dsimp only at hF ⊢
        have s1 := hp 1 rfl
        have s3 := hp 3 rfl
        refine d_need (small := [(142, (.agg #[(.int .i64 ((outG xx xy xz ks).2.1)), (.int .i64 ((outG xx xy xz ks).2.2.1)), (.int .i64 ((outG xx xy xz ks).2.2.2))])), (144, (.agg #[(.int .i64 ((outG xx xy xz ks).2.1)), (.int .i64 ((outG xx xy xz ks).2.2.1)), (.int .i64 ((outG xx xy xz ks).2.2.2))]))]) ⟨look_row rfl 1 rfl s1, look_row rfl 3 rfl s3, trivial⟩ ?_
        refine tp rfl (lv_neqA3 Try.underlying44 Try.underlying3 Try.type3 (by kernel_rfl) Try.isAgg3 (by kernel_rfl) rfl rfl) ?_
        exact d_closes ⟨look_row rfl 1 rfl s1, look_row rfl 3 rfl s3, trivial⟩ 4 rfl rfl rfl hS (AgreeR.refl _) (t_sat (fun _ h => h) (hK () trivial))
       · -- 5
        rintro _ S hF hS D hp K hK
        try dsimp only at hF ⊢
        have s4 := hp 4 rfl
        refine d_need (small := [(145, (.bool false))]) ⟨look_row rfl 4 rfl s4, trivial⟩ ?_
        refine tp rfl (lv_move rfl) ?_
        exact d_closes ⟨look_row rfl 4 rfl s4, trivial⟩ 5 rfl rfl rfl hS (AgreeR.refl _) (t_sat (fun _ h => h) (hK () trivial))
       · -- 6
        rintro _ S hF hS D hp K hK
        try dsimp only at hF ⊢
        have s5 := hp 5 rfl
        refine d_need (small := [(8, (.pointer (some ⟨b1, 0, none⟩))), (146, (.bool false))]) ⟨look_b rfl rfl, look_row rfl 5 rfl s5, trivial⟩ ?_
        refine t_guard rfl rfl ?_
        refine tp rfl (lv_indexArr_at (k' := 0) Try.underlying43 Try.sizeOf25 rfl rfl (by decide) (by decide) rfl) ?_
        exact d_closes ⟨look_b rfl rfl, look_row rfl 5 rfl s5, trivial⟩ 6 rfl rfl rfl hS (AgreeR.refl _) (t_sat (fun _ h => h) (hK () trivial))
       · -- 7
        rintro _ S hF hS D hp K hK
        try dsimp only at hF ⊢
        have s5 := hp 5 rfl
        have s6 := hp 6 rfl
        refine d_need (small := [(146, (.bool false)), (147, (.pointer (some ⟨b1, 0, none⟩)))]) ⟨look_row rfl 5 rfl s5, look_row rfl 6 rfl s6, trivial⟩ ?_
        refine t_guard rfl rfl ?_
        refine tp rfl (lv_load Try.isAgg25 rfl (gives_blk (.tail _ (.tail _ (.head _))) rfl)) ?_
        exact d_closes ⟨look_row rfl 5 rfl s5, look_row rfl 6 rfl s6, trivial⟩ 7 rfl rfl rfl hS (AgreeR.refl _) (t_sat (fun _ h => h) (hK () trivial))
       · -- 8
        rintro _ S hF hS D hp K hK
        try dsimp only at hF ⊢
        have s5 := hp 5 rfl
        have s7 := hp 7 rfl
        refine d_need (small := [(146, (.bool false)), (148, (.pointer (some ⟨p2, 0, none⟩)))]) ⟨look_row rfl 5 rfl s5, look_row rfl 7 rfl s7, trivial⟩ ?_
        refine t_guard rfl rfl ?_
        refine t_f5 ?_
        refine tc rfl (en_fn Try.call15 rfl) (hlen_ok (n := m) (ks := (outG xx xy xz ks).1) ) ?_
        rintro _ _ ⟨rfl, rfl⟩
        refine t_f5 ?_
        refine t_f5 ?_
        refine t_f5 ?_
        refine t_f5 ?_
        refine t_f5 ?_
        exact d_closes ⟨look_row rfl 5 rfl s5, look_row rfl 7 rfl s7, trivial⟩ 8 rfl rfl rfl hS (AgreeR.refl _) (t_sat (fun _ h => h) (hK () trivial))
       · -- 9
        rintro _ S hF hS D hp K hK
        try dsimp only at hF ⊢
        have s5 := hp 5 rfl
        refine d_need (small := [(8, (.pointer (some ⟨b1, 0, none⟩))), (146, (.bool false))]) ⟨look_b rfl rfl, look_row rfl 5 rfl s5, trivial⟩ ?_
        refine t_guard rfl rfl ?_
        refine tp rfl (lv_indexArr_at (k' := 1) Try.underlying43 Try.sizeOf25 rfl rfl (by decide) (by decide) rfl) ?_
        exact d_closes ⟨look_b rfl rfl, look_row rfl 5 rfl s5, trivial⟩ 9 rfl rfl rfl hS (AgreeR.refl _) (t_sat (fun _ h => h) (hK () trivial))
       · -- 10
        rintro _ S hF hS D hp K hK
        try dsimp only at hF ⊢
        have s5 := hp 5 rfl
        have s9 := hp 9 rfl
        refine d_need (small := [(146, (.bool false)), (150, (.pointer (some ⟨b1, 1, none⟩)))]) ⟨look_row rfl 5 rfl s5, look_row rfl 9 rfl s9, trivial⟩ ?_
        refine t_guard rfl rfl ?_
        refine tp rfl (lv_load Try.isAgg25 rfl (gives_blk (.tail _ (.tail _ (.head _))) rfl)) ?_
        exact d_closes ⟨look_row rfl 5 rfl s5, look_row rfl 9 rfl s9, trivial⟩ 10 rfl rfl rfl hS (AgreeR.refl _) (t_sat (fun _ h => h) (hK () trivial))
       · -- 11
        rintro _ S hF hS D hp K hK
        try dsimp only at hF ⊢
        have s5 := hp 5 rfl
        have s10 := hp 10 rfl
        refine d_need (small := [(146, (.bool false)), (151, (.pointer (some ⟨p3, 0, none⟩)))]) ⟨look_row rfl 5 rfl s5, look_row rfl 10 rfl s10, trivial⟩ ?_
        refine t_guard rfl rfl ?_
        refine t_f4 ?_
        refine tc rfl (en_fn Try.call15 rfl) (hlen_ok (n := m) (ks := (outG xx xy xz ks).1) ) ?_
        rintro _ _ ⟨rfl, rfl⟩
        refine t_f4 ?_
        refine t_f4 ?_
        refine t_f4 ?_
        refine t_f4 ?_
        exact d_closes ⟨look_row rfl 5 rfl s5, look_row rfl 10 rfl s10, trivial⟩ 11 rfl rfl rfl hS (AgreeR.refl _) (t_sat (fun _ h => h) (hK () trivial))
       · -- 12
        rintro _ S hF hS D hp K hK
        try dsimp only at hF ⊢
        have s5 := hp 5 rfl
        have s8 := hp 8 rfl
        have s11 := hp 11 rfl
        refine d_need (small := [(146, (.bool false)), (149, (.int .i64 ((cntK ((outG xx xy xz ks).1) : Nat) : Int))), (152, (.int .i64 ((cntK ((outG xx xy xz ks).1) : Nat) : Int)))]) ⟨look_row rfl 5 rfl s5, look_row rfl 8 rfl s8, look_row rfl 11 rfl s11, trivial⟩ ?_
        refine t_guard rfl rfl ?_
        refine tp rfl (lv_neq rfl rfl (bne_eq_false_iff_eq.2 rfl)) ?_
        exact d_closes ⟨look_row rfl 5 rfl s5, look_row rfl 8 rfl s8, look_row rfl 11 rfl s11, trivial⟩ 12 rfl rfl rfl hS (AgreeR.refl _) (t_sat (fun _ h => h) (hK () trivial))
       · -- 13
        rintro _ S hF hS D hp K hK
        try dsimp only at hF ⊢
        have s5 := hp 5 rfl
        have s12 := hp 12 rfl
        refine d_need (small := [(146, (.bool false)), (153, (.bool false))]) ⟨look_row rfl 5 rfl s5, look_row rfl 12 rfl s12, trivial⟩ ?_
        refine tp rfl (lv_pick_f rfl rfl) ?_
        exact d_closes ⟨look_row rfl 5 rfl s5, look_row rfl 12 rfl s12, trivial⟩ 13 rfl rfl rfl hS (AgreeR.refl _) (t_sat (fun _ h => h) (hK () trivial))
      · -- behind
       rintro _ hF
       try dsimp only at hF ⊢
       refine t_weak (E' := [(0, (.int .i64 ((m : Nat) : Int))), (1, (.slice bsb xs.length csb)), (2, (.slice bsc ys.length csc)), (7, (.bool true)), (8, (.pointer (some ⟨b1, 0, none⟩))), (9, (.int .i64 3)), (10, (.int .i64 ((i : Nat) : Int))), (11, (.pointer (some ⟨b6, 0, none⟩))), (12, (.int .i64 2)), (13, (.pointer (some ⟨b17, 0, none⟩))), (24, (.bool false)), (34, (.bool false)), (42, (.bool true)), (46, (.bool false)), (124, (.bool false)), (154, (.bool false))]) ⟨rfl, rfl, rfl, rfl, rfl, rfl, rfl, rfl, rfl, rfl, rfl, rfl, rfl, rfl, rfl, rfl, trivial⟩ ?_
       refine q_then_n (hK47 _ _ ?_)
       refine c_false rfl ?_
       refine c_skip ?_
       refine q_in_n ?_
       refine q_then_n (hK29 _ _ ?_)
       refine c_region ?_
       refine tp rfl (lv_move rfl) ?_
       refine tp rfl (lv_add (c := ((i + 1 : Nat) : Int)) rfl rfl (wr_i64_succ (by omega))) ?_
       refine tp rfl (lv_assign rfl) ?_
       refine t_done ?_
       refine q_then_n ?_
       refine t_drop ?_
       refine t_drop ?_
       exact t_weak (by exact ⟨rfl, rfl, rfl, rfl, rfl, rfl, rfl, rfl, rfl, trivial⟩) ((hK26 (i + 1, (outG xx xy xz ks).1, k3) ⟨by dsimp only; omega, by dsimp only; omega⟩ (by dsimp only; omega)))
    refine c_seq (fun K44 hK44 => ?_)
    refine c_region ?_
    refine tp rfl (lv_fieldAddr (o' := 0) Try.underlying47 rfl Try.sizeOf3 rfl rfl) ?_
    refine tp rfl (lv_load Try.isAgg3 rfl (gives_blk (.head _) rfl)) ?_
    refine t_done ?_
    refine q_then_n (hK44 _ _ ?_)
    refine c_block ?_
    refine c_seq (fun K45 hK45 => ?_)
    refine c_seq (fun K46 hK46 => ?_)
    refine c_region ?_
    by_cases h19 : xx = 1
    · -- yes
     refine tp rfl (lv_eql rfl rfl (beq_iff_eq.2 h19)) ?_
     refine tp rfl (lv_assign rfl) ?_
     refine t_done ?_
     refine q_then_n (hK46 _ _ ?_)
     refine c_true rfl ?_
     refine c_skip ?_
     refine q_then_n (hK45 _ _ ?_)
     refine c_true rfl ?_
     refine c_draw (γ := Unit) (n := 12) Try.mixed rfl rfl (fun _ S => True) (fun _ => [(0, 58, (.int .i64 1)), (1, 59, (.int .i64 1)), (2, 60, (.pointer (some ⟨b1, 1, none⟩))), (3, 61, (.pointer (some ⟨p3, 0, none⟩))), (4, 62, (.pointer (some ⟨b17, 1, none⟩))), (5, 63, (.int .i64 xy)), (6, 64, (.pointer (some ⟨b17, 2, none⟩))), (7, 65, (.int .i64 xz)), (8, 66, (.int .i64 (pushE ks xy))), (9, 67, (.pointer (some ⟨b6, 3, none⟩))), (10, 68, (.pointer (some ⟨b6, 3, none⟩)))]) (fun _ S => (Blk b17 [(.int .i64 xx), (.int .i64 xy), (.int .i64 xz)] 47) :: (bif S 11 then (Blk b6 [(.int .i64 ((outG xx xy xz ks).2.1)), (.int .i64 ((outG xx xy xz ks).2.2.1)), (.int .i64 ((outG xx xy xz ks).2.2.2)), (.int .i64 (pushE ks xy)), (.int .i64 0), (.int .i64 0)] 45) else (Blk b6 [(.int .i64 ((outG xx xy xz ks).2.1)), (.int .i64 ((outG xx xy xz ks).2.2.1)), (.int .i64 ((outG xx xy xz ks).2.2.2)), (.int .i64 0), (.int .i64 0), (.int .i64 0)] 45)) :: (Blk b1 [(.pointer (some ⟨p2, 0, none⟩)), (.pointer (some ⟨p3, 0, none⟩)), (.pointer (some ⟨p4, 0, none⟩))] 43) :: (HeapO p4 m k3) :: (bif S 8 then (HeapO p3 m (pushK ks xy xz)) else (HeapO p3 m ks)) :: (HeapO p2 m ((outG xx xy xz ks).1)) :: R) (()) trivial (fun _ h => h) (fun _ _ h => h) ?_ ?_
     · -- steps
      refine ⟨?_, ?_, ?_, ?_, ?_, ?_, ?_, ?_, ?_, ?_, ?_, ?_, trivial⟩
      · -- 0
       rintro _ S hF hS D hp K hK
       try dsimp only at hF ⊢
       refine d_need (small := [(12, (.int .i64 1))]) ⟨look_b rfl rfl, trivial⟩ ?_
       refine tp rfl (lv_move rfl) ?_
       exact d_closes ⟨look_b rfl rfl, trivial⟩ 0 rfl rfl rfl hS (AgreeR.refl _) (t_sat (fun _ h => h) (hK () trivial))
      · -- 1
       rintro _ S hF hS D hp K hK
       try dsimp only at hF ⊢
       refine d_need (small := [(12, (.int .i64 1))]) ⟨look_b rfl rfl, trivial⟩ ?_
       refine tp rfl (lv_move rfl) ?_
       exact d_closes ⟨look_b rfl rfl, trivial⟩ 1 rfl rfl rfl hS (AgreeR.refl _) (t_sat (fun _ h => h) (hK () trivial))
      · -- 2
       rintro _ S hF hS D hp K hK
       try dsimp only at hF ⊢
       have s1 := hp 1 rfl
       refine d_need (small := [(8, (.pointer (some ⟨b1, 0, none⟩))), (59, (.int .i64 1))]) ⟨look_b rfl rfl, look_row rfl 1 rfl s1, trivial⟩ ?_
       refine tp rfl (lv_indexArr_at (k' := 1) Try.underlying43 Try.sizeOf25 rfl rfl (by decide) (by decide) rfl) ?_
       exact d_closes ⟨look_b rfl rfl, look_row rfl 1 rfl s1, trivial⟩ 2 rfl rfl rfl hS (AgreeR.refl _) (t_sat (fun _ h => h) (hK () trivial))
      · -- 3
       rintro _ S hF hS D hp K hK
       try dsimp only at hF ⊢
       have s2 := hp 2 rfl
       refine d_need (small := [(60, (.pointer (some ⟨b1, 1, none⟩)))]) ⟨look_row rfl 2 rfl s2, trivial⟩ ?_
       refine tp rfl (lv_load Try.isAgg25 rfl (gives_blk (.tail _ (.tail _ (.head _))) rfl)) ?_
       exact d_closes ⟨look_row rfl 2 rfl s2, trivial⟩ 3 rfl rfl rfl hS (AgreeR.refl _) (t_sat (fun _ h => h) (hK () trivial))
      · -- 4
       rintro _ S hF hS D hp K hK
       try dsimp only at hF ⊢
       refine d_need (small := [(13, (.pointer (some ⟨b17, 0, none⟩)))]) ⟨look_b rfl rfl, trivial⟩ ?_
       refine tp rfl (lv_fieldAddr (o' := 1) Try.underlying47 rfl Try.sizeOf3 rfl rfl) ?_
       exact d_closes ⟨look_b rfl rfl, trivial⟩ 4 rfl rfl rfl hS (AgreeR.refl _) (t_sat (fun _ h => h) (hK () trivial))
      · -- 5
       rintro _ S hF hS D hp K hK
       try dsimp only at hF ⊢
       have s4 := hp 4 rfl
       refine d_need (small := [(62, (.pointer (some ⟨b17, 1, none⟩)))]) ⟨look_row rfl 4 rfl s4, trivial⟩ ?_
       refine tp rfl (lv_load Try.isAgg3 rfl (gives_blk (.head _) rfl)) ?_
       exact d_closes ⟨look_row rfl 4 rfl s4, trivial⟩ 5 rfl rfl rfl hS (AgreeR.refl _) (t_sat (fun _ h => h) (hK () trivial))
      · -- 6
       rintro _ S hF hS D hp K hK
       try dsimp only at hF ⊢
       refine d_need (small := [(13, (.pointer (some ⟨b17, 0, none⟩)))]) ⟨look_b rfl rfl, trivial⟩ ?_
       refine tp rfl (lv_fieldAddr (o' := 2) Try.underlying47 rfl Try.sizeOf3 rfl rfl) ?_
       exact d_closes ⟨look_b rfl rfl, trivial⟩ 6 rfl rfl rfl hS (AgreeR.refl _) (t_sat (fun _ h => h) (hK () trivial))
      · -- 7
       rintro _ S hF hS D hp K hK
       try dsimp only at hF ⊢
       have s6 := hp 6 rfl
       refine d_need (small := [(64, (.pointer (some ⟨b17, 2, none⟩)))]) ⟨look_row rfl 6 rfl s6, trivial⟩ ?_
       refine tp rfl (lv_load Try.isAgg3 rfl (gives_blk (.head _) rfl)) ?_
       exact d_closes ⟨look_row rfl 6 rfl s6, trivial⟩ 7 rfl rfl rfl hS (AgreeR.refl _) (t_sat (fun _ h => h) (hK () trivial))
      · -- 8
       rintro _ S hF hS D hp K hK
       try dsimp only at hF ⊢
       have s3 := hp 3 rfl
       have s5 := hp 5 rfl
       have s7 := hp 7 rfl
       refine d_need (small := [(61, (.pointer (some ⟨p3, 0, none⟩))), (63, (.int .i64 xy)), (65, (.int .i64 xz))]) ⟨look_row rfl 3 rfl s3, look_row rfl 5 rfl s5, look_row rfl 7 rfl s7, trivial⟩ ?_
       refine t_f4 ?_
       refine t_cF hS ?_
       refine tc rfl (en_fn Try.call13 rfl) (hpush_ok (n := m) (ks := ks) xy xz) ?_
       rintro _ _ ⟨rfl, rfl⟩
       refine t_f4 ?_
       refine t_f4 ?_
       refine t_f4 ?_
       refine t_f4 ?_
       exact d_closes ⟨look_row rfl 3 rfl s3, look_row rfl 5 rfl s5, look_row rfl 7 rfl s7, trivial⟩ 8 rfl rfl rfl hS (AgreeR.refl _) (t_sat (fun _ h => h) (hK () trivial))
      · -- 9
       rintro _ S hF hS D hp K hK
       try dsimp only at hF ⊢
       have s0 := hp 0 rfl
       refine d_need (small := [(11, (.pointer (some ⟨b6, 0, none⟩))), (58, (.int .i64 1))]) ⟨look_b rfl rfl, look_row rfl 0 rfl s0, trivial⟩ ?_
       refine tp rfl (lv_indexArr_at (k' := 3) Try.underlying45 Try.sizeOf44 rfl rfl (by decide) (by decide) rfl) ?_
       exact d_closes ⟨look_b rfl rfl, look_row rfl 0 rfl s0, trivial⟩ 9 rfl rfl rfl hS (AgreeR.refl _) (t_sat (fun _ h => h) (hK () trivial))
      · -- 10
       rintro _ S hF hS D hp K hK
       try dsimp only at hF ⊢
       have s9 := hp 9 rfl
       refine d_need (small := [(67, (.pointer (some ⟨b6, 3, none⟩)))]) ⟨look_row rfl 9 rfl s9, trivial⟩ ?_
       refine tp rfl (lv_indexArr_at (k' := 3) Try.underlying44 Try.sizeOf3 rfl rfl (by decide) (by decide) rfl) ?_
       exact d_closes ⟨look_row rfl 9 rfl s9, trivial⟩ 10 rfl rfl rfl hS (AgreeR.refl _) (t_sat (fun _ h => h) (hK () trivial))
      · -- 11
       rintro _ S hF hS D hp K hK
       try dsimp only at hF ⊢
       have s8 := hp 8 rfl
       have s10 := hp 10 rfl
       refine d_need (small := [(66, (.int .i64 (pushE ks xy))), (68, (.pointer (some ⟨b6, 3, none⟩)))]) ⟨look_row rfl 8 rfl s8, look_row rfl 10 rfl s10, trivial⟩ ?_
       refine t_f1 ?_
       refine t_cF hS ?_
       refine ts (sv_blk Try.sizeOf3 rfl rfl rfl (Nat.le_of_ble_eq_true rfl) rfl) ?_
       refine t_f1 ?_
       exact d_closes0 ⟨look_row rfl 8 rfl s8, look_row rfl 10 rfl s10, trivial⟩ rfl (t_sat (fun _ h => h) (hK () trivial))
     · -- behind
      rintro _ hF
      try dsimp only at hF ⊢
      refine t_weak (E' := [(0, (.int .i64 ((m : Nat) : Int))), (1, (.slice bsb xs.length csb)), (2, (.slice bsc ys.length csc)), (7, (.bool true)), (8, (.pointer (some ⟨b1, 0, none⟩))), (9, (.int .i64 3)), (10, (.int .i64 ((i : Nat) : Int))), (11, (.pointer (some ⟨b6, 0, none⟩))), (12, (.int .i64 1)), (13, (.pointer (some ⟨b17, 0, none⟩))), (24, (.bool false)), (34, (.bool false)), (42, (.bool true)), (46, (.bool true)), (54, (.int .i64 xx)), (55, (.bool true)), (124, (.bool false))]) ⟨rfl, rfl, rfl, rfl, rfl, rfl, rfl, rfl, rfl, rfl, rfl, rfl, rfl, rfl, rfl, rfl, rfl, trivial⟩ ?_
      refine q_in_n ?_
      refine q_then_n ?_
      have ho9 : outG xx xy xz ks = (pushK ks xy xz, pushE ks xy, 0, 0) := by unfold outG; rw [if_pos (.inl h19)]
      rw [ho9] at hM43 ⊢
      dsimp only at hM43 ⊢
      exact t_weak (by exact ⟨rfl, rfl, rfl, rfl, rfl, rfl, rfl, rfl, rfl, rfl, rfl, rfl, rfl, rfl, rfl, trivial⟩) (hM43 0 ⟨trivial, trivial⟩)
    · -- no
     refine tp rfl (lv_eql rfl rfl (beq_eq_false_iff_ne.2 h19)) ?_
     refine tp rfl (lv_assign rfl) ?_
     refine t_done ?_
     refine q_then_n (hK46 _ _ ?_)
     refine c_false rfl ?_
     refine c_region ?_
     by_cases h20 : xx = 2
     · -- yes
      refine tp rfl (lv_eql rfl rfl (beq_iff_eq.2 h20)) ?_
      refine tp rfl (lv_assign rfl) ?_
      refine t_done ?_
      refine q_then_n (hK45 _ _ ?_)
      refine c_true rfl ?_
      refine c_draw (γ := Unit) (n := 12) Try.mixed rfl rfl (fun _ S => True) (fun _ => [(0, 58, (.int .i64 1)), (1, 59, (.int .i64 1)), (2, 60, (.pointer (some ⟨b1, 1, none⟩))), (3, 61, (.pointer (some ⟨p3, 0, none⟩))), (4, 62, (.pointer (some ⟨b17, 1, none⟩))), (5, 63, (.int .i64 xy)), (6, 64, (.pointer (some ⟨b17, 2, none⟩))), (7, 65, (.int .i64 xz)), (8, 66, (.int .i64 (pushE ks xy))), (9, 67, (.pointer (some ⟨b6, 3, none⟩))), (10, 68, (.pointer (some ⟨b6, 3, none⟩)))]) (fun _ S => (Blk b17 [(.int .i64 xx), (.int .i64 xy), (.int .i64 xz)] 47) :: (bif S 11 then (Blk b6 [(.int .i64 ((outG xx xy xz ks).2.1)), (.int .i64 ((outG xx xy xz ks).2.2.1)), (.int .i64 ((outG xx xy xz ks).2.2.2)), (.int .i64 (pushE ks xy)), (.int .i64 0), (.int .i64 0)] 45) else (Blk b6 [(.int .i64 ((outG xx xy xz ks).2.1)), (.int .i64 ((outG xx xy xz ks).2.2.1)), (.int .i64 ((outG xx xy xz ks).2.2.2)), (.int .i64 0), (.int .i64 0), (.int .i64 0)] 45)) :: (Blk b1 [(.pointer (some ⟨p2, 0, none⟩)), (.pointer (some ⟨p3, 0, none⟩)), (.pointer (some ⟨p4, 0, none⟩))] 43) :: (HeapO p4 m k3) :: (bif S 8 then (HeapO p3 m (pushK ks xy xz)) else (HeapO p3 m ks)) :: (HeapO p2 m ((outG xx xy xz ks).1)) :: R) (()) trivial (fun _ h => h) (fun _ _ h => h) ?_ ?_
      · -- steps
       refine ⟨?_, ?_, ?_, ?_, ?_, ?_, ?_, ?_, ?_, ?_, ?_, ?_, trivial⟩
       · -- 0
        rintro _ S hF hS D hp K hK
        try dsimp only at hF ⊢
        refine d_need (small := [(12, (.int .i64 1))]) ⟨look_b rfl rfl, trivial⟩ ?_
        refine tp rfl (lv_move rfl) ?_
        exact d_closes ⟨look_b rfl rfl, trivial⟩ 0 rfl rfl rfl hS (AgreeR.refl _) (t_sat (fun _ h => h) (hK () trivial))
       · -- 1
        rintro _ S hF hS D hp K hK
        try dsimp only at hF ⊢
        refine d_need (small := [(12, (.int .i64 1))]) ⟨look_b rfl rfl, trivial⟩ ?_
        refine tp rfl (lv_move rfl) ?_
        exact d_closes ⟨look_b rfl rfl, trivial⟩ 1 rfl rfl rfl hS (AgreeR.refl _) (t_sat (fun _ h => h) (hK () trivial))
       · -- 2
        rintro _ S hF hS D hp K hK
        try dsimp only at hF ⊢
        have s1 := hp 1 rfl
        refine d_need (small := [(8, (.pointer (some ⟨b1, 0, none⟩))), (59, (.int .i64 1))]) ⟨look_b rfl rfl, look_row rfl 1 rfl s1, trivial⟩ ?_
        refine tp rfl (lv_indexArr_at (k' := 1) Try.underlying43 Try.sizeOf25 rfl rfl (by decide) (by decide) rfl) ?_
        exact d_closes ⟨look_b rfl rfl, look_row rfl 1 rfl s1, trivial⟩ 2 rfl rfl rfl hS (AgreeR.refl _) (t_sat (fun _ h => h) (hK () trivial))
       · -- 3
        rintro _ S hF hS D hp K hK
        try dsimp only at hF ⊢
        have s2 := hp 2 rfl
        refine d_need (small := [(60, (.pointer (some ⟨b1, 1, none⟩)))]) ⟨look_row rfl 2 rfl s2, trivial⟩ ?_
        refine tp rfl (lv_load Try.isAgg25 rfl (gives_blk (.tail _ (.tail _ (.head _))) rfl)) ?_
        exact d_closes ⟨look_row rfl 2 rfl s2, trivial⟩ 3 rfl rfl rfl hS (AgreeR.refl _) (t_sat (fun _ h => h) (hK () trivial))
       · -- 4
        rintro _ S hF hS D hp K hK
        try dsimp only at hF ⊢
        refine d_need (small := [(13, (.pointer (some ⟨b17, 0, none⟩)))]) ⟨look_b rfl rfl, trivial⟩ ?_
        refine tp rfl (lv_fieldAddr (o' := 1) Try.underlying47 rfl Try.sizeOf3 rfl rfl) ?_
        exact d_closes ⟨look_b rfl rfl, trivial⟩ 4 rfl rfl rfl hS (AgreeR.refl _) (t_sat (fun _ h => h) (hK () trivial))
       · -- 5
        rintro _ S hF hS D hp K hK
        try dsimp only at hF ⊢
        have s4 := hp 4 rfl
        refine d_need (small := [(62, (.pointer (some ⟨b17, 1, none⟩)))]) ⟨look_row rfl 4 rfl s4, trivial⟩ ?_
        refine tp rfl (lv_load Try.isAgg3 rfl (gives_blk (.head _) rfl)) ?_
        exact d_closes ⟨look_row rfl 4 rfl s4, trivial⟩ 5 rfl rfl rfl hS (AgreeR.refl _) (t_sat (fun _ h => h) (hK () trivial))
       · -- 6
        rintro _ S hF hS D hp K hK
        try dsimp only at hF ⊢
        refine d_need (small := [(13, (.pointer (some ⟨b17, 0, none⟩)))]) ⟨look_b rfl rfl, trivial⟩ ?_
        refine tp rfl (lv_fieldAddr (o' := 2) Try.underlying47 rfl Try.sizeOf3 rfl rfl) ?_
        exact d_closes ⟨look_b rfl rfl, trivial⟩ 6 rfl rfl rfl hS (AgreeR.refl _) (t_sat (fun _ h => h) (hK () trivial))
       · -- 7
        rintro _ S hF hS D hp K hK
        try dsimp only at hF ⊢
        have s6 := hp 6 rfl
        refine d_need (small := [(64, (.pointer (some ⟨b17, 2, none⟩)))]) ⟨look_row rfl 6 rfl s6, trivial⟩ ?_
        refine tp rfl (lv_load Try.isAgg3 rfl (gives_blk (.head _) rfl)) ?_
        exact d_closes ⟨look_row rfl 6 rfl s6, trivial⟩ 7 rfl rfl rfl hS (AgreeR.refl _) (t_sat (fun _ h => h) (hK () trivial))
       · -- 8
        rintro _ S hF hS D hp K hK
        try dsimp only at hF ⊢
        have s3 := hp 3 rfl
        have s5 := hp 5 rfl
        have s7 := hp 7 rfl
        refine d_need (small := [(61, (.pointer (some ⟨p3, 0, none⟩))), (63, (.int .i64 xy)), (65, (.int .i64 xz))]) ⟨look_row rfl 3 rfl s3, look_row rfl 5 rfl s5, look_row rfl 7 rfl s7, trivial⟩ ?_
        refine t_f4 ?_
        refine t_cF hS ?_
        refine tc rfl (en_fn Try.call13 rfl) (hpush_ok (n := m) (ks := ks) xy xz) ?_
        rintro _ _ ⟨rfl, rfl⟩
        refine t_f4 ?_
        refine t_f4 ?_
        refine t_f4 ?_
        refine t_f4 ?_
        exact d_closes ⟨look_row rfl 3 rfl s3, look_row rfl 5 rfl s5, look_row rfl 7 rfl s7, trivial⟩ 8 rfl rfl rfl hS (AgreeR.refl _) (t_sat (fun _ h => h) (hK () trivial))
       · -- 9
        rintro _ S hF hS D hp K hK
        try dsimp only at hF ⊢
        have s0 := hp 0 rfl
        refine d_need (small := [(11, (.pointer (some ⟨b6, 0, none⟩))), (58, (.int .i64 1))]) ⟨look_b rfl rfl, look_row rfl 0 rfl s0, trivial⟩ ?_
        refine tp rfl (lv_indexArr_at (k' := 3) Try.underlying45 Try.sizeOf44 rfl rfl (by decide) (by decide) rfl) ?_
        exact d_closes ⟨look_b rfl rfl, look_row rfl 0 rfl s0, trivial⟩ 9 rfl rfl rfl hS (AgreeR.refl _) (t_sat (fun _ h => h) (hK () trivial))
       · -- 10
        rintro _ S hF hS D hp K hK
        try dsimp only at hF ⊢
        have s9 := hp 9 rfl
        refine d_need (small := [(67, (.pointer (some ⟨b6, 3, none⟩)))]) ⟨look_row rfl 9 rfl s9, trivial⟩ ?_
        refine tp rfl (lv_indexArr_at (k' := 3) Try.underlying44 Try.sizeOf3 rfl rfl (by decide) (by decide) rfl) ?_
        exact d_closes ⟨look_row rfl 9 rfl s9, trivial⟩ 10 rfl rfl rfl hS (AgreeR.refl _) (t_sat (fun _ h => h) (hK () trivial))
       · -- 11
        rintro _ S hF hS D hp K hK
        try dsimp only at hF ⊢
        have s8 := hp 8 rfl
        have s10 := hp 10 rfl
        refine d_need (small := [(66, (.int .i64 (pushE ks xy))), (68, (.pointer (some ⟨b6, 3, none⟩)))]) ⟨look_row rfl 8 rfl s8, look_row rfl 10 rfl s10, trivial⟩ ?_
        refine t_f1 ?_
        refine t_cF hS ?_
        refine ts (sv_blk Try.sizeOf3 rfl rfl rfl (Nat.le_of_ble_eq_true rfl) rfl) ?_
        refine t_f1 ?_
        exact d_closes0 ⟨look_row rfl 8 rfl s8, look_row rfl 10 rfl s10, trivial⟩ rfl (t_sat (fun _ h => h) (hK () trivial))
      · -- behind
       rintro _ hF
       try dsimp only at hF ⊢
       refine t_weak (E' := [(0, (.int .i64 ((m : Nat) : Int))), (1, (.slice bsb xs.length csb)), (2, (.slice bsc ys.length csc)), (7, (.bool true)), (8, (.pointer (some ⟨b1, 0, none⟩))), (9, (.int .i64 3)), (10, (.int .i64 ((i : Nat) : Int))), (11, (.pointer (some ⟨b6, 0, none⟩))), (12, (.int .i64 1)), (13, (.pointer (some ⟨b17, 0, none⟩))), (24, (.bool false)), (34, (.bool false)), (42, (.bool true)), (46, (.bool true)), (54, (.int .i64 xx)), (55, (.bool true)), (124, (.bool false))]) ⟨rfl, rfl, rfl, rfl, rfl, rfl, rfl, rfl, rfl, rfl, rfl, rfl, rfl, rfl, rfl, rfl, rfl, trivial⟩ ?_
       refine q_in_n ?_
       refine q_then_n ?_
       have ho9 : outG xx xy xz ks = (pushK ks xy xz, pushE ks xy, 0, 0) := by unfold outG; rw [if_pos (.inr h20)]
       rw [ho9] at hM43 ⊢
       dsimp only at hM43 ⊢
       exact t_weak (by exact ⟨rfl, rfl, rfl, rfl, rfl, rfl, rfl, rfl, rfl, rfl, rfl, rfl, rfl, rfl, rfl, trivial⟩) (hM43 0 ⟨trivial, trivial⟩)
     · -- no
      refine tp rfl (lv_eql rfl rfl (beq_eq_false_iff_ne.2 h20)) ?_
      refine tp rfl (lv_assign rfl) ?_
      refine t_done ?_
      refine q_then_n (hK45 _ _ ?_)
      refine c_false rfl ?_
      refine c_seq (fun K47 hK47 => ?_)
      refine c_region ?_
      by_cases h21 : xx = 3
      · -- yes
       refine tp rfl (lv_eql rfl rfl (beq_iff_eq.2 h21)) ?_
       refine tp rfl (lv_assign rfl) ?_
       refine t_done ?_
       refine q_then_n (hK47 _ _ ?_)
       refine c_true rfl ?_
       refine c_draw (γ := Unit) (n := 12) Try.mixed rfl rfl (fun _ S => True) (fun _ => [(0, 71, (.int .i64 1)), (1, 72, (.int .i64 1)), (2, 73, (.pointer (some ⟨b1, 1, none⟩))), (3, 74, (.pointer (some ⟨p3, 0, none⟩))), (4, 75, (.pointer (some ⟨b17, 1, none⟩))), (5, 76, (.int .i64 xy)), (6, 77, (.pointer (some ⟨b17, 2, none⟩))), (7, 78, (.int .i64 xz)), (8, 79, (.int .i64 (lowE ks xy xz))), (9, 80, (.pointer (some ⟨b6, 3, none⟩))), (10, 81, (.pointer (some ⟨b6, 3, none⟩)))]) (fun _ S => (Blk b17 [(.int .i64 xx), (.int .i64 xy), (.int .i64 xz)] 47) :: (bif S 11 then (Blk b6 [(.int .i64 ((outG xx xy xz ks).2.1)), (.int .i64 ((outG xx xy xz ks).2.2.1)), (.int .i64 ((outG xx xy xz ks).2.2.2)), (.int .i64 (lowE ks xy xz)), (.int .i64 0), (.int .i64 0)] 45) else (Blk b6 [(.int .i64 ((outG xx xy xz ks).2.1)), (.int .i64 ((outG xx xy xz ks).2.2.1)), (.int .i64 ((outG xx xy xz ks).2.2.2)), (.int .i64 0), (.int .i64 0), (.int .i64 0)] 45)) :: (Blk b1 [(.pointer (some ⟨p2, 0, none⟩)), (.pointer (some ⟨p3, 0, none⟩)), (.pointer (some ⟨p4, 0, none⟩))] 43) :: (HeapO p4 m k3) :: (bif S 8 then (HeapO p3 m (lowK ks xy xz)) else (HeapO p3 m ks)) :: (HeapO p2 m ((outG xx xy xz ks).1)) :: R) (()) trivial (fun _ h => h) (fun _ _ h => h) ?_ ?_
       · -- steps
        refine ⟨?_, ?_, ?_, ?_, ?_, ?_, ?_, ?_, ?_, ?_, ?_, ?_, trivial⟩
        · -- 0
         rintro _ S hF hS D hp K hK
         try dsimp only at hF ⊢
         refine d_need (small := [(12, (.int .i64 1))]) ⟨look_b rfl rfl, trivial⟩ ?_
         refine tp rfl (lv_move rfl) ?_
         exact d_closes ⟨look_b rfl rfl, trivial⟩ 0 rfl rfl rfl hS (AgreeR.refl _) (t_sat (fun _ h => h) (hK () trivial))
        · -- 1
         rintro _ S hF hS D hp K hK
         try dsimp only at hF ⊢
         refine d_need (small := [(12, (.int .i64 1))]) ⟨look_b rfl rfl, trivial⟩ ?_
         refine tp rfl (lv_move rfl) ?_
         exact d_closes ⟨look_b rfl rfl, trivial⟩ 1 rfl rfl rfl hS (AgreeR.refl _) (t_sat (fun _ h => h) (hK () trivial))
        · -- 2
         rintro _ S hF hS D hp K hK
         try dsimp only at hF ⊢
         have s1 := hp 1 rfl
         refine d_need (small := [(8, (.pointer (some ⟨b1, 0, none⟩))), (72, (.int .i64 1))]) ⟨look_b rfl rfl, look_row rfl 1 rfl s1, trivial⟩ ?_
         refine tp rfl (lv_indexArr_at (k' := 1) Try.underlying43 Try.sizeOf25 rfl rfl (by decide) (by decide) rfl) ?_
         exact d_closes ⟨look_b rfl rfl, look_row rfl 1 rfl s1, trivial⟩ 2 rfl rfl rfl hS (AgreeR.refl _) (t_sat (fun _ h => h) (hK () trivial))
        · -- 3
         rintro _ S hF hS D hp K hK
         try dsimp only at hF ⊢
         have s2 := hp 2 rfl
         refine d_need (small := [(73, (.pointer (some ⟨b1, 1, none⟩)))]) ⟨look_row rfl 2 rfl s2, trivial⟩ ?_
         refine tp rfl (lv_load Try.isAgg25 rfl (gives_blk (.tail _ (.tail _ (.head _))) rfl)) ?_
         exact d_closes ⟨look_row rfl 2 rfl s2, trivial⟩ 3 rfl rfl rfl hS (AgreeR.refl _) (t_sat (fun _ h => h) (hK () trivial))
        · -- 4
         rintro _ S hF hS D hp K hK
         try dsimp only at hF ⊢
         refine d_need (small := [(13, (.pointer (some ⟨b17, 0, none⟩)))]) ⟨look_b rfl rfl, trivial⟩ ?_
         refine tp rfl (lv_fieldAddr (o' := 1) Try.underlying47 rfl Try.sizeOf3 rfl rfl) ?_
         exact d_closes ⟨look_b rfl rfl, trivial⟩ 4 rfl rfl rfl hS (AgreeR.refl _) (t_sat (fun _ h => h) (hK () trivial))
        · -- 5
         rintro _ S hF hS D hp K hK
         try dsimp only at hF ⊢
         have s4 := hp 4 rfl
         refine d_need (small := [(75, (.pointer (some ⟨b17, 1, none⟩)))]) ⟨look_row rfl 4 rfl s4, trivial⟩ ?_
         refine tp rfl (lv_load Try.isAgg3 rfl (gives_blk (.head _) rfl)) ?_
         exact d_closes ⟨look_row rfl 4 rfl s4, trivial⟩ 5 rfl rfl rfl hS (AgreeR.refl _) (t_sat (fun _ h => h) (hK () trivial))
        · -- 6
         rintro _ S hF hS D hp K hK
         try dsimp only at hF ⊢
         refine d_need (small := [(13, (.pointer (some ⟨b17, 0, none⟩)))]) ⟨look_b rfl rfl, trivial⟩ ?_
         refine tp rfl (lv_fieldAddr (o' := 2) Try.underlying47 rfl Try.sizeOf3 rfl rfl) ?_
         exact d_closes ⟨look_b rfl rfl, trivial⟩ 6 rfl rfl rfl hS (AgreeR.refl _) (t_sat (fun _ h => h) (hK () trivial))
        · -- 7
         rintro _ S hF hS D hp K hK
         try dsimp only at hF ⊢
         have s6 := hp 6 rfl
         refine d_need (small := [(77, (.pointer (some ⟨b17, 2, none⟩)))]) ⟨look_row rfl 6 rfl s6, trivial⟩ ?_
         refine tp rfl (lv_load Try.isAgg3 rfl (gives_blk (.head _) rfl)) ?_
         exact d_closes ⟨look_row rfl 6 rfl s6, trivial⟩ 7 rfl rfl rfl hS (AgreeR.refl _) (t_sat (fun _ h => h) (hK () trivial))
        · -- 8
         rintro _ S hF hS D hp K hK
         try dsimp only at hF ⊢
         have s3 := hp 3 rfl
         have s5 := hp 5 rfl
         have s7 := hp 7 rfl
         refine d_need (small := [(74, (.pointer (some ⟨p3, 0, none⟩))), (76, (.int .i64 xy)), (78, (.int .i64 xz))]) ⟨look_row rfl 3 rfl s3, look_row rfl 5 rfl s5, look_row rfl 7 rfl s7, trivial⟩ ?_
         refine t_f4 ?_
         refine t_cF hS ?_
         refine tc rfl (en_fn Try.call16 rfl) (hlow_ok (n := m) (ks := ks) xy xz) ?_
         rintro _ _ ⟨rfl, rfl⟩
         refine t_f4 ?_
         refine t_f4 ?_
         refine t_f4 ?_
         refine t_f4 ?_
         exact d_closes ⟨look_row rfl 3 rfl s3, look_row rfl 5 rfl s5, look_row rfl 7 rfl s7, trivial⟩ 8 rfl rfl rfl hS (AgreeR.refl _) (t_sat (fun _ h => h) (hK () trivial))
        · -- 9
         rintro _ S hF hS D hp K hK
         try dsimp only at hF ⊢
         have s0 := hp 0 rfl
         refine d_need (small := [(11, (.pointer (some ⟨b6, 0, none⟩))), (71, (.int .i64 1))]) ⟨look_b rfl rfl, look_row rfl 0 rfl s0, trivial⟩ ?_
         refine tp rfl (lv_indexArr_at (k' := 3) Try.underlying45 Try.sizeOf44 rfl rfl (by decide) (by decide) rfl) ?_
         exact d_closes ⟨look_b rfl rfl, look_row rfl 0 rfl s0, trivial⟩ 9 rfl rfl rfl hS (AgreeR.refl _) (t_sat (fun _ h => h) (hK () trivial))
        · -- 10
         rintro _ S hF hS D hp K hK
         try dsimp only at hF ⊢
         have s9 := hp 9 rfl
         refine d_need (small := [(80, (.pointer (some ⟨b6, 3, none⟩)))]) ⟨look_row rfl 9 rfl s9, trivial⟩ ?_
         refine tp rfl (lv_indexArr_at (k' := 3) Try.underlying44 Try.sizeOf3 rfl rfl (by decide) (by decide) rfl) ?_
         exact d_closes ⟨look_row rfl 9 rfl s9, trivial⟩ 10 rfl rfl rfl hS (AgreeR.refl _) (t_sat (fun _ h => h) (hK () trivial))
        · -- 11
         rintro _ S hF hS D hp K hK
         try dsimp only at hF ⊢
         have s8 := hp 8 rfl
         have s10 := hp 10 rfl
         refine d_need (small := [(79, (.int .i64 (lowE ks xy xz))), (81, (.pointer (some ⟨b6, 3, none⟩)))]) ⟨look_row rfl 8 rfl s8, look_row rfl 10 rfl s10, trivial⟩ ?_
         refine t_f1 ?_
         refine t_cF hS ?_
         refine ts (sv_blk Try.sizeOf3 rfl rfl rfl (Nat.le_of_ble_eq_true rfl) rfl) ?_
         refine t_f1 ?_
         exact d_closes0 ⟨look_row rfl 8 rfl s8, look_row rfl 10 rfl s10, trivial⟩ rfl (t_sat (fun _ h => h) (hK () trivial))
       · -- behind
        rintro _ hF
        try dsimp only at hF ⊢
        refine t_weak (E' := [(0, (.int .i64 ((m : Nat) : Int))), (1, (.slice bsb xs.length csb)), (2, (.slice bsc ys.length csc)), (7, (.bool true)), (8, (.pointer (some ⟨b1, 0, none⟩))), (9, (.int .i64 3)), (10, (.int .i64 ((i : Nat) : Int))), (11, (.pointer (some ⟨b6, 0, none⟩))), (12, (.int .i64 1)), (13, (.pointer (some ⟨b17, 0, none⟩))), (24, (.bool false)), (34, (.bool false)), (42, (.bool true)), (46, (.bool true)), (54, (.int .i64 xx)), (55, (.bool false)), (69, (.bool true)), (124, (.bool false))]) ⟨rfl, rfl, rfl, rfl, rfl, rfl, rfl, rfl, rfl, rfl, rfl, rfl, rfl, rfl, rfl, rfl, rfl, rfl, trivial⟩ ?_
        refine q_in_n ?_
        refine q_then_n ?_
        have ho9 : outG xx xy xz ks = (lowK ks xy xz, lowE ks xy xz, 0, 0) := by unfold outG; rw [if_neg (fun q => q.elim h19 h20), if_pos h21]
        rw [ho9] at hM43 ⊢
        dsimp only at hM43 ⊢
        exact t_weak (by exact ⟨rfl, rfl, rfl, rfl, rfl, rfl, rfl, rfl, rfl, rfl, rfl, rfl, rfl, rfl, rfl, trivial⟩) (hM43 0 ⟨trivial, trivial⟩)
      · -- no
       refine tp rfl (lv_eql rfl rfl (beq_eq_false_iff_ne.2 h21)) ?_
       refine tp rfl (lv_assign rfl) ?_
       refine t_done ?_
       refine q_then_n (hK47 _ _ ?_)
       refine c_false rfl ?_
       refine c_seq (fun K48 hK48 => ?_)
       refine c_region ?_
       by_cases h22 : xx = 4
       · -- yes
        refine tp rfl (lv_eql rfl rfl (beq_iff_eq.2 h22)) ?_
        refine tp rfl (lv_assign rfl) ?_
        refine t_done ?_
        refine q_then_n (hK48 _ _ ?_)
        refine c_true rfl ?_
        refine c_seq (fun K49 hK49 => ?_)
        refine c_draw (γ := Unit) (n := 11) Try.mixed rfl rfl (fun _ S => True) (fun _ => [(0, 85, (.int .i64 1)), (1, 86, (.pointer (some ⟨b1, 1, none⟩))), (2, 87, (.pointer (some ⟨p3, 0, none⟩))), (3, 88, (.pointer (some ⟨b17, 1, none⟩))), (4, 89, (.int .i64 xy)), (5, 90, (.tuple #[(.int .i64 (keyK ks xy)), (.int .i64 (remE ks xy))])), (6, 84, (.tuple #[(.int .i64 (keyK ks xy)), (.int .i64 (remE ks xy))])), (7, 91, (.int .i64 (keyK ks xy))), (8, 92, (.int .i64 (remE ks xy))), (9, 14, (.int .i64 (keyK ks xy))), (10, 15, (.int .i64 (remE ks xy)))]) (fun _ S => (Blk b17 [(.int .i64 xx), (.int .i64 xy), (.int .i64 xz)] 47) :: (Blk b6 [(.int .i64 ((outG xx xy xz ks).2.1)), (.int .i64 ((outG xx xy xz ks).2.2.1)), (.int .i64 ((outG xx xy xz ks).2.2.2)), (.int .i64 0), (.int .i64 0), (.int .i64 0)] 45) :: (Blk b1 [(.pointer (some ⟨p2, 0, none⟩)), (.pointer (some ⟨p3, 0, none⟩)), (.pointer (some ⟨p4, 0, none⟩))] 43) :: (HeapO p4 m k3) :: (bif S 5 then (HeapO p3 m (remK ks xy)) else (HeapO p3 m ks)) :: (HeapO p2 m ((outG xx xy xz ks).1)) :: R) (()) trivial (fun _ h => h) (fun _ _ h => h) ?_ ?_
        · -- steps
         refine ⟨?_, ?_, ?_, ?_, ?_, ?_, ?_, ?_, ?_, ?_, ?_, trivial⟩
         · -- 0
          rintro _ S hF hS D hp K hK
          try dsimp only at hF ⊢
          refine d_need (small := [(12, (.int .i64 1))]) ⟨look_b rfl rfl, trivial⟩ ?_
          refine tp rfl (lv_move rfl) ?_
          exact d_closes ⟨look_b rfl rfl, trivial⟩ 0 rfl rfl rfl hS (AgreeR.refl _) (t_sat (fun _ h => h) (hK () trivial))
         · -- 1
          rintro _ S hF hS D hp K hK
          try dsimp only at hF ⊢
          have s0 := hp 0 rfl
          refine d_need (small := [(8, (.pointer (some ⟨b1, 0, none⟩))), (85, (.int .i64 1))]) ⟨look_b rfl rfl, look_row rfl 0 rfl s0, trivial⟩ ?_
          refine tp rfl (lv_indexArr_at (k' := 1) Try.underlying43 Try.sizeOf25 rfl rfl (by decide) (by decide) rfl) ?_
          exact d_closes ⟨look_b rfl rfl, look_row rfl 0 rfl s0, trivial⟩ 1 rfl rfl rfl hS (AgreeR.refl _) (t_sat (fun _ h => h) (hK () trivial))
         · -- 2
          rintro _ S hF hS D hp K hK
          try dsimp only at hF ⊢
          have s1 := hp 1 rfl
          refine d_need (small := [(86, (.pointer (some ⟨b1, 1, none⟩)))]) ⟨look_row rfl 1 rfl s1, trivial⟩ ?_
          refine tp rfl (lv_load Try.isAgg25 rfl (gives_blk (.tail _ (.tail _ (.head _))) rfl)) ?_
          exact d_closes ⟨look_row rfl 1 rfl s1, trivial⟩ 2 rfl rfl rfl hS (AgreeR.refl _) (t_sat (fun _ h => h) (hK () trivial))
         · -- 3
          rintro _ S hF hS D hp K hK
          try dsimp only at hF ⊢
          refine d_need (small := [(13, (.pointer (some ⟨b17, 0, none⟩)))]) ⟨look_b rfl rfl, trivial⟩ ?_
          refine tp rfl (lv_fieldAddr (o' := 1) Try.underlying47 rfl Try.sizeOf3 rfl rfl) ?_
          exact d_closes ⟨look_b rfl rfl, trivial⟩ 3 rfl rfl rfl hS (AgreeR.refl _) (t_sat (fun _ h => h) (hK () trivial))
         · -- 4
          rintro _ S hF hS D hp K hK
          try dsimp only at hF ⊢
          have s3 := hp 3 rfl
          refine d_need (small := [(88, (.pointer (some ⟨b17, 1, none⟩)))]) ⟨look_row rfl 3 rfl s3, trivial⟩ ?_
          refine tp rfl (lv_load Try.isAgg3 rfl (gives_blk (.head _) rfl)) ?_
          exact d_closes ⟨look_row rfl 3 rfl s3, trivial⟩ 4 rfl rfl rfl hS (AgreeR.refl _) (t_sat (fun _ h => h) (hK () trivial))
         · -- 5
          rintro _ S hF hS D hp K hK
          try dsimp only at hF ⊢
          have s2 := hp 2 rfl
          have s4 := hp 4 rfl
          refine d_need (small := [(87, (.pointer (some ⟨p3, 0, none⟩))), (89, (.int .i64 xy))]) ⟨look_row rfl 2 rfl s2, look_row rfl 4 rfl s4, trivial⟩ ?_
          refine t_f4 ?_
          refine t_cF hS ?_
          refine tc rfl (en_fn Try.call17 rfl) (hrem_ok (n := m) (ks := ks) xy) ?_
          rintro _ _ ⟨rfl, rfl⟩
          refine t_f4 ?_
          refine t_f4 ?_
          refine t_f4 ?_
          refine t_f4 ?_
          exact d_closes ⟨look_row rfl 2 rfl s2, look_row rfl 4 rfl s4, trivial⟩ 5 rfl rfl rfl hS (AgreeR.refl _) (t_sat (fun _ h => h) (hK () trivial))
         · -- 6
          rintro _ S hF hS D hp K hK
          try dsimp only at hF ⊢
          have s5 := hp 5 rfl
          refine d_need (small := [(90, (.tuple #[(.int .i64 (keyK ks xy)), (.int .i64 (remE ks xy))]))]) ⟨look_row rfl 5 rfl s5, trivial⟩ ?_
          refine tp rfl (lv_move rfl) ?_
          exact d_closes ⟨look_row rfl 5 rfl s5, trivial⟩ 6 rfl rfl rfl hS (AgreeR.refl _) (t_sat (fun _ h => h) (hK () trivial))
         · -- 7
          rintro _ S hF hS D hp K hK
          try dsimp only at hF ⊢
          have s6 := hp 6 rfl
          refine d_need (small := [(84, (.tuple #[(.int .i64 (keyK ks xy)), (.int .i64 (remE ks xy))]))]) ⟨look_row rfl 6 rfl s6, trivial⟩ ?_
          refine tp rfl (lv_extract rfl rfl) ?_
          exact d_closes ⟨look_row rfl 6 rfl s6, trivial⟩ 7 rfl rfl rfl hS (AgreeR.refl _) (t_sat (fun _ h => h) (hK () trivial))
         · -- 8
          rintro _ S hF hS D hp K hK
          try dsimp only at hF ⊢
          have s6 := hp 6 rfl
          refine d_need (small := [(84, (.tuple #[(.int .i64 (keyK ks xy)), (.int .i64 (remE ks xy))]))]) ⟨look_row rfl 6 rfl s6, trivial⟩ ?_
          refine tp rfl (lv_extract rfl rfl) ?_
          exact d_closes ⟨look_row rfl 6 rfl s6, trivial⟩ 8 rfl rfl rfl hS (AgreeR.refl _) (t_sat (fun _ h => h) (hK () trivial))
         · -- 9
          rintro _ S hF hS D hp K hK
          try dsimp only at hF ⊢
          have s7 := hp 7 rfl
          refine d_need (small := [(91, (.int .i64 (keyK ks xy)))]) ⟨look_row rfl 7 rfl s7, trivial⟩ ?_
          refine tp rfl (lv_assign rfl) ?_
          exact d_closes ⟨look_row rfl 7 rfl s7, trivial⟩ 9 rfl rfl rfl hS (AgreeR.refl _) (t_sat (fun _ h => h) (hK () trivial))
         · -- 10
          rintro _ S hF hS D hp K hK
          try dsimp only at hF ⊢
          have s8 := hp 8 rfl
          refine d_need (small := [(92, (.int .i64 (remE ks xy)))]) ⟨look_row rfl 8 rfl s8, trivial⟩ ?_
          refine tp rfl (lv_assign rfl) ?_
          exact d_closes ⟨look_row rfl 8 rfl s8, trivial⟩ 10 rfl rfl rfl hS (AgreeR.refl _) (t_sat (fun _ h => h) (hK () trivial))
        · -- behind
         rintro _ hF
         try dsimp only at hF ⊢
         refine t_weak (E' := [(0, (.int .i64 ((m : Nat) : Int))), (1, (.slice bsb xs.length csb)), (2, (.slice bsc ys.length csc)), (7, (.bool true)), (8, (.pointer (some ⟨b1, 0, none⟩))), (9, (.int .i64 3)), (10, (.int .i64 ((i : Nat) : Int))), (11, (.pointer (some ⟨b6, 0, none⟩))), (12, (.int .i64 1)), (13, (.pointer (some ⟨b17, 0, none⟩))), (14, (.int .i64 (keyK ks xy))), (15, (.int .i64 (remE ks xy))), (24, (.bool false)), (34, (.bool false)), (42, (.bool true)), (46, (.bool true)), (54, (.int .i64 xx)), (55, (.bool false)), (69, (.bool false)), (82, (.bool true)), (124, (.bool false))]) ⟨rfl, rfl, rfl, rfl, rfl, rfl, rfl, rfl, rfl, rfl, rfl, rfl, rfl, rfl, rfl, rfl, rfl, rfl, rfl, rfl, rfl, trivial⟩ ?_
         refine q_then_n (hK49 _ _ ?_)
         refine c_region ?_
         refine tp rfl (lv_move rfl) ?_
         refine tp rfl (lv_move rfl) ?_
         refine tp rfl (lv_move rfl) ?_
         refine tp rfl (lv_buildArr (cs := [(.int .i64 (keyK ks xy)), (.int .i64 (remE ks xy)), (.int .i64 0)]) Try.underlying44 Try.zeroValue44 Try.sizeOf3 rfl rfl) ?_
         refine tp rfl (lv_indexArr_at (k' := 3) Try.underlying45 Try.sizeOf44 rfl rfl (by decide) (by decide) rfl) ?_
         refine t_f1 ?_
         refine ts (sv_blkAgg (news := [(.int .i64 (keyK ks xy)), (.int .i64 (remE ks xy)), (.int .i64 0)]) Try.sizeOf44 rfl rfl rfl rfl (Nat.le_of_ble_eq_true rfl) rfl) ?_
         refine t_done ?_
         refine q_in_n ?_
         refine q_then_n ?_
         have ho9 : outG xx xy xz ks = (remK ks xy, keyK ks xy, remE ks xy, 0) := by unfold outG; rw [if_neg (fun q => q.elim h19 h20), if_neg h21, if_pos h22]
         rw [ho9] at hM43 ⊢
         dsimp only at hM43 ⊢
         refine t_f1 ?_
         exact t_weak (by exact ⟨rfl, rfl, rfl, rfl, rfl, rfl, rfl, rfl, rfl, rfl, rfl, rfl, rfl, rfl, rfl, trivial⟩) (hM43 0 ⟨trivial, trivial⟩)
       · -- no
        refine tp rfl (lv_eql rfl rfl (beq_eq_false_iff_ne.2 h22)) ?_
        refine tp rfl (lv_assign rfl) ?_
        refine t_done ?_
        refine q_then_n (hK48 _ _ ?_)
        refine c_false rfl ?_
        refine c_seq (fun K49 hK49 => ?_)
        refine c_region ?_
        by_cases h23 : xx = 5
        · -- yes
         refine tp rfl (lv_eql rfl rfl (beq_iff_eq.2 h23)) ?_
         refine tp rfl (lv_assign rfl) ?_
         refine t_done ?_
         refine q_then_n (hK49 _ _ ?_)
         refine c_true rfl ?_
         refine c_seq (fun K50 hK50 => ?_)
         refine c_region ?_
         refine tp rfl (lv_move rfl) ?_
         refine tp rfl (lv_indexArr_at (k' := 1) Try.underlying43 Try.sizeOf25 rfl rfl (by decide) (by decide) rfl) ?_
         refine tp rfl (lv_load Try.isAgg25 rfl (gives_blk (.tail _ (.tail _ (.head _))) rfl)) ?_
         refine t_f4 ?_
         refine tc rfl (en_fn Try.call14 rfl) (hpop_ok (n := m) (ks := ks) ) ?_
         rintro _ _ ⟨rfl, rfl⟩
         refine tp rfl (lv_move rfl) ?_
         refine tp rfl (lv_extract rfl rfl) ?_
         refine tp rfl (lv_extract rfl rfl) ?_
         refine tp rfl (lv_extract rfl rfl) ?_
         refine tp rfl (lv_assign rfl) ?_
         refine tp rfl (lv_assign rfl) ?_
         refine tp rfl (lv_assign rfl) ?_
         refine t_done ?_
         refine q_then_n (hK50 _ _ ?_)
         refine c_seq (fun K51 hK51 => ?_)
         refine c_region ?_
         refine tp rfl (lv_move rfl) ?_
         refine tp rfl (lv_move rfl) ?_
         refine tp rfl (lv_move rfl) ?_
         refine tp rfl (lv_buildArr (cs := [(.int .i64 (fstI ks)), (.int .i64 (fstV ks)), (.int .i64 0)]) Try.underlying44 Try.zeroValue44 Try.sizeOf3 rfl rfl) ?_
         refine tp rfl (lv_indexArr_at (k' := 3) Try.underlying45 Try.sizeOf44 rfl rfl (by decide) (by decide) rfl) ?_
         refine t_f2 ?_
         refine ts (sv_blkAgg (news := [(.int .i64 (fstI ks)), (.int .i64 (fstV ks)), (.int .i64 0)]) Try.sizeOf44 rfl rfl rfl rfl (Nat.le_of_ble_eq_true rfl) rfl) ?_
         refine t_done ?_
         refine q_then_n (hK51 _ _ ?_)
         refine c_seq (fun K52 hK52 => ?_)
         refine c_region ?_
         refine tp rfl (lv_move rfl) ?_
         refine t_done ?_
         refine q_then_n (hK52 _ _ ?_)
         refine c_split rfl (fun c24 => ?_) (fun c24 => ?_)
         · -- true
          refine c_region ?_
          refine tp rfl (lv_move rfl) ?_
          refine tp rfl (lv_indexArr_at (k' := 3) Try.underlying45 Try.sizeOf44 rfl rfl (by decide) (by decide) rfl) ?_
          refine tp rfl (lv_indexArr_at (k' := 5) Try.underlying44 Try.sizeOf3 rfl rfl (by decide) (by decide) rfl) ?_
          refine ts (sv_blk Try.sizeOf3 rfl rfl rfl (Nat.le_of_ble_eq_true rfl) rfl) ?_
          refine t_done ?_
          refine q_in_n ?_
          refine q_then_n ?_
          have ho9 : outG xx xy xz ks = (popK ks, fstI ks, fstV ks, 1) := by unfold outG; rw [if_neg (fun q => q.elim h19 h20), if_neg h21, if_neg h22, if_pos h23, if_pos c24]
          rw [ho9] at hM43 ⊢
          dsimp only at hM43 ⊢
          refine t_f1 ?_
          refine t_f4 ?_
          refine t_f4 ?_
          refine t_f3 ?_
          refine t_f4 ?_
          exact t_weak (by exact ⟨rfl, rfl, rfl, rfl, rfl, rfl, rfl, rfl, rfl, rfl, rfl, rfl, rfl, rfl, rfl, trivial⟩) (hM43 0 ⟨trivial, trivial⟩)
         · -- false
          refine c_skip ?_
          refine q_in_n ?_
          refine q_then_n ?_
          have ho9 : outG xx xy xz ks = (popK ks, fstI ks, fstV ks, 0) := by unfold outG; rw [if_neg (fun q => q.elim h19 h20), if_neg h21, if_neg h22, if_pos h23, if_neg (fun e => by rw [c24] at e; cases e)]
          rw [ho9] at hM43 ⊢
          dsimp only at hM43 ⊢
          refine t_f1 ?_
          refine t_f4 ?_
          refine t_f4 ?_
          refine t_f3 ?_
          refine t_f4 ?_
          exact t_weak (by exact ⟨rfl, rfl, rfl, rfl, rfl, rfl, rfl, rfl, rfl, rfl, rfl, rfl, rfl, rfl, rfl, trivial⟩) (hM43 0 ⟨trivial, trivial⟩)
        · -- no
         refine tp rfl (lv_eql rfl rfl (beq_eq_false_iff_ne.2 h23)) ?_
         refine tp rfl (lv_assign rfl) ?_
         refine t_done ?_
         refine q_then_n (hK49 _ _ ?_)
         refine c_false rfl ?_
         refine c_skip ?_
         refine q_in_n ?_
         refine q_then_n ?_
         have ho9 : outG xx xy xz ks = (ks, 0, 0, 0) := by unfold outG; rw [if_neg (fun q => q.elim h19 h20), if_neg h21, if_neg h22, if_neg h23]
         rw [ho9] at hM43 ⊢
         dsimp only at hM43 ⊢
         exact t_weak (by exact ⟨rfl, rfl, rfl, rfl, rfl, rfl, rfl, rfl, rfl, rfl, rfl, rfl, rfl, rfl, rfl, trivial⟩) (hM43 0 ⟨trivial, trivial⟩)
  refine c_seq (fun K38 hK38 => ?_)
  refine c_region ?_
  refine tp rfl (lv_fieldAddr (o' := 0) Try.underlying47 rfl Try.sizeOf3 rfl rfl) ?_
  refine tp rfl (lv_load Try.isAgg3 rfl (gives_blk (.head _) rfl)) ?_
  refine t_done ?_
  refine q_then_n (hK38 _ _ ?_)
  refine c_block ?_
  refine c_seq (fun K39 hK39 => ?_)
  refine c_seq (fun K40 hK40 => ?_)
  refine c_region ?_
  by_cases h25 : xx = 1
  · -- yes
   refine tp rfl (lv_eql rfl rfl (beq_iff_eq.2 h25)) ?_
   refine tp rfl (lv_assign rfl) ?_
   refine t_done ?_
   refine q_then_n (hK40 _ _ ?_)
   refine c_true rfl ?_
   refine c_skip ?_
   refine q_then_n (hK39 _ _ ?_)
   refine c_true rfl ?_
   refine c_draw (γ := Unit) (n := 12) Try.mixed rfl rfl (fun _ S => True) (fun _ => [(0, 58, (.int .i64 0)), (1, 59, (.int .i64 0)), (2, 60, (.pointer (some ⟨b1, 0, none⟩))), (3, 61, (.pointer (some ⟨p2, 0, none⟩))), (4, 62, (.pointer (some ⟨b7, 1, none⟩))), (5, 63, (.int .i64 xy)), (6, 64, (.pointer (some ⟨b7, 2, none⟩))), (7, 65, (.int .i64 xz)), (8, 66, (.int .i64 (pushE ks xy))), (9, 67, (.pointer (some ⟨b6, 0, none⟩))), (10, 68, (.pointer (some ⟨b6, 0, none⟩)))]) (fun _ S => (Blk b7 [(.int .i64 xx), (.int .i64 xy), (.int .i64 xz)] 47) :: (bif S 11 then (Blk b6 [(.int .i64 (pushE ks xy)), (.int .i64 0), (.int .i64 0), (.int .i64 0), (.int .i64 0), (.int .i64 0)] 45) else (Blk b6 [(.int .i64 0), (.int .i64 0), (.int .i64 0), (.int .i64 0), (.int .i64 0), (.int .i64 0)] 45)) :: (Blk b1 [(.pointer (some ⟨p2, 0, none⟩)), (.pointer (some ⟨p3, 0, none⟩)), (.pointer (some ⟨p4, 0, none⟩))] 43) :: (HeapO p4 m k3) :: (HeapO p3 m ks) :: (bif S 8 then (HeapO p2 m (pushK ks xy xz)) else (HeapO p2 m ks)) :: R) (()) trivial (fun _ h => h) (fun _ _ h => h) ?_ ?_
   · -- steps
    refine ⟨?_, ?_, ?_, ?_, ?_, ?_, ?_, ?_, ?_, ?_, ?_, ?_, trivial⟩
    · -- 0
     rintro _ S hF hS D hp K hK
     try dsimp only at hF ⊢
     refine d_need (small := [(12, (.int .i64 0))]) ⟨look_b rfl rfl, trivial⟩ ?_
     refine tp rfl (lv_move rfl) ?_
     exact d_closes ⟨look_b rfl rfl, trivial⟩ 0 rfl rfl rfl hS (AgreeR.refl _) (t_sat (fun _ h => h) (hK () trivial))
    · -- 1
     rintro _ S hF hS D hp K hK
     try dsimp only at hF ⊢
     refine d_need (small := [(12, (.int .i64 0))]) ⟨look_b rfl rfl, trivial⟩ ?_
     refine tp rfl (lv_move rfl) ?_
     exact d_closes ⟨look_b rfl rfl, trivial⟩ 1 rfl rfl rfl hS (AgreeR.refl _) (t_sat (fun _ h => h) (hK () trivial))
    · -- 2
     rintro _ S hF hS D hp K hK
     try dsimp only at hF ⊢
     have s1 := hp 1 rfl
     refine d_need (small := [(8, (.pointer (some ⟨b1, 0, none⟩))), (59, (.int .i64 0))]) ⟨look_b rfl rfl, look_row rfl 1 rfl s1, trivial⟩ ?_
     refine tp rfl (lv_indexArr_at (k' := 0) Try.underlying43 Try.sizeOf25 rfl rfl (by decide) (by decide) rfl) ?_
     exact d_closes ⟨look_b rfl rfl, look_row rfl 1 rfl s1, trivial⟩ 2 rfl rfl rfl hS (AgreeR.refl _) (t_sat (fun _ h => h) (hK () trivial))
    · -- 3
     rintro _ S hF hS D hp K hK
     try dsimp only at hF ⊢
     have s2 := hp 2 rfl
     refine d_need (small := [(60, (.pointer (some ⟨b1, 0, none⟩)))]) ⟨look_row rfl 2 rfl s2, trivial⟩ ?_
     refine tp rfl (lv_load Try.isAgg25 rfl (gives_blk (.tail _ (.tail _ (.head _))) rfl)) ?_
     exact d_closes ⟨look_row rfl 2 rfl s2, trivial⟩ 3 rfl rfl rfl hS (AgreeR.refl _) (t_sat (fun _ h => h) (hK () trivial))
    · -- 4
     rintro _ S hF hS D hp K hK
     try dsimp only at hF ⊢
     refine d_need (small := [(13, (.pointer (some ⟨b7, 0, none⟩)))]) ⟨look_b rfl rfl, trivial⟩ ?_
     refine tp rfl (lv_fieldAddr (o' := 1) Try.underlying47 rfl Try.sizeOf3 rfl rfl) ?_
     exact d_closes ⟨look_b rfl rfl, trivial⟩ 4 rfl rfl rfl hS (AgreeR.refl _) (t_sat (fun _ h => h) (hK () trivial))
    · -- 5
     rintro _ S hF hS D hp K hK
     try dsimp only at hF ⊢
     have s4 := hp 4 rfl
     refine d_need (small := [(62, (.pointer (some ⟨b7, 1, none⟩)))]) ⟨look_row rfl 4 rfl s4, trivial⟩ ?_
     refine tp rfl (lv_load Try.isAgg3 rfl (gives_blk (.head _) rfl)) ?_
     exact d_closes ⟨look_row rfl 4 rfl s4, trivial⟩ 5 rfl rfl rfl hS (AgreeR.refl _) (t_sat (fun _ h => h) (hK () trivial))
    · -- 6
     rintro _ S hF hS D hp K hK
     try dsimp only at hF ⊢
     refine d_need (small := [(13, (.pointer (some ⟨b7, 0, none⟩)))]) ⟨look_b rfl rfl, trivial⟩ ?_
     refine tp rfl (lv_fieldAddr (o' := 2) Try.underlying47 rfl Try.sizeOf3 rfl rfl) ?_
     exact d_closes ⟨look_b rfl rfl, trivial⟩ 6 rfl rfl rfl hS (AgreeR.refl _) (t_sat (fun _ h => h) (hK () trivial))
    · -- 7
     rintro _ S hF hS D hp K hK
     try dsimp only at hF ⊢
     have s6 := hp 6 rfl
     refine d_need (small := [(64, (.pointer (some ⟨b7, 2, none⟩)))]) ⟨look_row rfl 6 rfl s6, trivial⟩ ?_
     refine tp rfl (lv_load Try.isAgg3 rfl (gives_blk (.head _) rfl)) ?_
     exact d_closes ⟨look_row rfl 6 rfl s6, trivial⟩ 7 rfl rfl rfl hS (AgreeR.refl _) (t_sat (fun _ h => h) (hK () trivial))
    · -- 8
     rintro _ S hF hS D hp K hK
     try dsimp only at hF ⊢
     have s3 := hp 3 rfl
     have s5 := hp 5 rfl
     have s7 := hp 7 rfl
     refine d_need (small := [(61, (.pointer (some ⟨p2, 0, none⟩))), (63, (.int .i64 xy)), (65, (.int .i64 xz))]) ⟨look_row rfl 3 rfl s3, look_row rfl 5 rfl s5, look_row rfl 7 rfl s7, trivial⟩ ?_
     refine t_f5 ?_
     refine t_cF hS ?_
     refine tc rfl (en_fn Try.call13 rfl) (hpush_ok (n := m) (ks := ks) xy xz) ?_
     rintro _ _ ⟨rfl, rfl⟩
     refine t_f5 ?_
     refine t_f5 ?_
     refine t_f5 ?_
     refine t_f5 ?_
     refine t_f5 ?_
     exact d_closes ⟨look_row rfl 3 rfl s3, look_row rfl 5 rfl s5, look_row rfl 7 rfl s7, trivial⟩ 8 rfl rfl rfl hS (AgreeR.refl _) (t_sat (fun _ h => h) (hK () trivial))
    · -- 9
     rintro _ S hF hS D hp K hK
     try dsimp only at hF ⊢
     have s0 := hp 0 rfl
     refine d_need (small := [(11, (.pointer (some ⟨b6, 0, none⟩))), (58, (.int .i64 0))]) ⟨look_b rfl rfl, look_row rfl 0 rfl s0, trivial⟩ ?_
     refine tp rfl (lv_indexArr_at (k' := 0) Try.underlying45 Try.sizeOf44 rfl rfl (by decide) (by decide) rfl) ?_
     exact d_closes ⟨look_b rfl rfl, look_row rfl 0 rfl s0, trivial⟩ 9 rfl rfl rfl hS (AgreeR.refl _) (t_sat (fun _ h => h) (hK () trivial))
    · -- 10
     rintro _ S hF hS D hp K hK
     try dsimp only at hF ⊢
     have s9 := hp 9 rfl
     refine d_need (small := [(67, (.pointer (some ⟨b6, 0, none⟩)))]) ⟨look_row rfl 9 rfl s9, trivial⟩ ?_
     refine tp rfl (lv_indexArr_at (k' := 0) Try.underlying44 Try.sizeOf3 rfl rfl (by decide) (by decide) rfl) ?_
     exact d_closes ⟨look_row rfl 9 rfl s9, trivial⟩ 10 rfl rfl rfl hS (AgreeR.refl _) (t_sat (fun _ h => h) (hK () trivial))
    · -- 11
     rintro _ S hF hS D hp K hK
     try dsimp only at hF ⊢
     have s8 := hp 8 rfl
     have s10 := hp 10 rfl
     refine d_need (small := [(66, (.int .i64 (pushE ks xy))), (68, (.pointer (some ⟨b6, 0, none⟩)))]) ⟨look_row rfl 8 rfl s8, look_row rfl 10 rfl s10, trivial⟩ ?_
     refine t_f1 ?_
     refine t_cF hS ?_
     refine ts (sv_blk Try.sizeOf3 rfl rfl rfl (Nat.le_of_ble_eq_true rfl) rfl) ?_
     refine t_f1 ?_
     exact d_closes0 ⟨look_row rfl 8 rfl s8, look_row rfl 10 rfl s10, trivial⟩ rfl (t_sat (fun _ h => h) (hK () trivial))
   · -- behind
    rintro _ hF
    try dsimp only at hF ⊢
    refine t_weak (E' := [(0, (.int .i64 ((m : Nat) : Int))), (1, (.slice bsb xs.length csb)), (2, (.slice bsc ys.length csc)), (7, (.bool true)), (8, (.pointer (some ⟨b1, 0, none⟩))), (9, (.int .i64 3)), (10, (.int .i64 ((i : Nat) : Int))), (11, (.pointer (some ⟨b6, 0, none⟩))), (12, (.int .i64 0)), (13, (.pointer (some ⟨b7, 0, none⟩))), (24, (.bool false)), (34, (.bool false)), (42, (.bool true)), (46, (.bool true)), (54, (.int .i64 xx)), (55, (.bool true))]) ⟨rfl, rfl, rfl, rfl, rfl, rfl, rfl, rfl, rfl, rfl, rfl, rfl, rfl, rfl, rfl, rfl, trivial⟩ ?_
    refine q_in_n ?_
    refine q_then_n ?_
    have ho9 : outG xx xy xz ks = (pushK ks xy xz, pushE ks xy, 0, 0) := by unfold outG; rw [if_pos (.inl h25)]
    rw [ho9] at hM37
    dsimp only at hM37
    exact t_weak (by exact ⟨rfl, rfl, rfl, rfl, rfl, rfl, rfl, rfl, rfl, rfl, rfl, rfl, rfl, rfl, trivial⟩) (hM37 0 ⟨trivial, trivial⟩)
  · -- no
   refine tp rfl (lv_eql rfl rfl (beq_eq_false_iff_ne.2 h25)) ?_
   refine tp rfl (lv_assign rfl) ?_
   refine t_done ?_
   refine q_then_n (hK40 _ _ ?_)
   refine c_false rfl ?_
   refine c_region ?_
   by_cases h26 : xx = 2
   · -- yes
    refine tp rfl (lv_eql rfl rfl (beq_iff_eq.2 h26)) ?_
    refine tp rfl (lv_assign rfl) ?_
    refine t_done ?_
    refine q_then_n (hK39 _ _ ?_)
    refine c_true rfl ?_
    refine c_draw (γ := Unit) (n := 12) Try.mixed rfl rfl (fun _ S => True) (fun _ => [(0, 58, (.int .i64 0)), (1, 59, (.int .i64 0)), (2, 60, (.pointer (some ⟨b1, 0, none⟩))), (3, 61, (.pointer (some ⟨p2, 0, none⟩))), (4, 62, (.pointer (some ⟨b7, 1, none⟩))), (5, 63, (.int .i64 xy)), (6, 64, (.pointer (some ⟨b7, 2, none⟩))), (7, 65, (.int .i64 xz)), (8, 66, (.int .i64 (pushE ks xy))), (9, 67, (.pointer (some ⟨b6, 0, none⟩))), (10, 68, (.pointer (some ⟨b6, 0, none⟩)))]) (fun _ S => (Blk b7 [(.int .i64 xx), (.int .i64 xy), (.int .i64 xz)] 47) :: (bif S 11 then (Blk b6 [(.int .i64 (pushE ks xy)), (.int .i64 0), (.int .i64 0), (.int .i64 0), (.int .i64 0), (.int .i64 0)] 45) else (Blk b6 [(.int .i64 0), (.int .i64 0), (.int .i64 0), (.int .i64 0), (.int .i64 0), (.int .i64 0)] 45)) :: (Blk b1 [(.pointer (some ⟨p2, 0, none⟩)), (.pointer (some ⟨p3, 0, none⟩)), (.pointer (some ⟨p4, 0, none⟩))] 43) :: (HeapO p4 m k3) :: (HeapO p3 m ks) :: (bif S 8 then (HeapO p2 m (pushK ks xy xz)) else (HeapO p2 m ks)) :: R) (()) trivial (fun _ h => h) (fun _ _ h => h) ?_ ?_
    · -- steps
     refine ⟨?_, ?_, ?_, ?_, ?_, ?_, ?_, ?_, ?_, ?_, ?_, ?_, trivial⟩
     · -- 0
      rintro _ S hF hS D hp K hK
      try dsimp only at hF ⊢
      refine d_need (small := [(12, (.int .i64 0))]) ⟨look_b rfl rfl, trivial⟩ ?_
      refine tp rfl (lv_move rfl) ?_
      exact d_closes ⟨look_b rfl rfl, trivial⟩ 0 rfl rfl rfl hS (AgreeR.refl _) (t_sat (fun _ h => h) (hK () trivial))
     · -- 1
      rintro _ S hF hS D hp K hK
      try dsimp only at hF ⊢
      refine d_need (small := [(12, (.int .i64 0))]) ⟨look_b rfl rfl, trivial⟩ ?_
      refine tp rfl (lv_move rfl) ?_
      exact d_closes ⟨look_b rfl rfl, trivial⟩ 1 rfl rfl rfl hS (AgreeR.refl _) (t_sat (fun _ h => h) (hK () trivial))
     · -- 2
      rintro _ S hF hS D hp K hK
      try dsimp only at hF ⊢
      have s1 := hp 1 rfl
      refine d_need (small := [(8, (.pointer (some ⟨b1, 0, none⟩))), (59, (.int .i64 0))]) ⟨look_b rfl rfl, look_row rfl 1 rfl s1, trivial⟩ ?_
      refine tp rfl (lv_indexArr_at (k' := 0) Try.underlying43 Try.sizeOf25 rfl rfl (by decide) (by decide) rfl) ?_
      exact d_closes ⟨look_b rfl rfl, look_row rfl 1 rfl s1, trivial⟩ 2 rfl rfl rfl hS (AgreeR.refl _) (t_sat (fun _ h => h) (hK () trivial))
     · -- 3
      rintro _ S hF hS D hp K hK
      try dsimp only at hF ⊢
      have s2 := hp 2 rfl
      refine d_need (small := [(60, (.pointer (some ⟨b1, 0, none⟩)))]) ⟨look_row rfl 2 rfl s2, trivial⟩ ?_
      refine tp rfl (lv_load Try.isAgg25 rfl (gives_blk (.tail _ (.tail _ (.head _))) rfl)) ?_
      exact d_closes ⟨look_row rfl 2 rfl s2, trivial⟩ 3 rfl rfl rfl hS (AgreeR.refl _) (t_sat (fun _ h => h) (hK () trivial))
     · -- 4
      rintro _ S hF hS D hp K hK
      try dsimp only at hF ⊢
      refine d_need (small := [(13, (.pointer (some ⟨b7, 0, none⟩)))]) ⟨look_b rfl rfl, trivial⟩ ?_
      refine tp rfl (lv_fieldAddr (o' := 1) Try.underlying47 rfl Try.sizeOf3 rfl rfl) ?_
      exact d_closes ⟨look_b rfl rfl, trivial⟩ 4 rfl rfl rfl hS (AgreeR.refl _) (t_sat (fun _ h => h) (hK () trivial))
     · -- 5
      rintro _ S hF hS D hp K hK
      try dsimp only at hF ⊢
      have s4 := hp 4 rfl
      refine d_need (small := [(62, (.pointer (some ⟨b7, 1, none⟩)))]) ⟨look_row rfl 4 rfl s4, trivial⟩ ?_
      refine tp rfl (lv_load Try.isAgg3 rfl (gives_blk (.head _) rfl)) ?_
      exact d_closes ⟨look_row rfl 4 rfl s4, trivial⟩ 5 rfl rfl rfl hS (AgreeR.refl _) (t_sat (fun _ h => h) (hK () trivial))
     · -- 6
      rintro _ S hF hS D hp K hK
      try dsimp only at hF ⊢
      refine d_need (small := [(13, (.pointer (some ⟨b7, 0, none⟩)))]) ⟨look_b rfl rfl, trivial⟩ ?_
      refine tp rfl (lv_fieldAddr (o' := 2) Try.underlying47 rfl Try.sizeOf3 rfl rfl) ?_
      exact d_closes ⟨look_b rfl rfl, trivial⟩ 6 rfl rfl rfl hS (AgreeR.refl _) (t_sat (fun _ h => h) (hK () trivial))
     · -- 7
      rintro _ S hF hS D hp K hK
      try dsimp only at hF ⊢
      have s6 := hp 6 rfl
      refine d_need (small := [(64, (.pointer (some ⟨b7, 2, none⟩)))]) ⟨look_row rfl 6 rfl s6, trivial⟩ ?_
      refine tp rfl (lv_load Try.isAgg3 rfl (gives_blk (.head _) rfl)) ?_
      exact d_closes ⟨look_row rfl 6 rfl s6, trivial⟩ 7 rfl rfl rfl hS (AgreeR.refl _) (t_sat (fun _ h => h) (hK () trivial))
     · -- 8
      rintro _ S hF hS D hp K hK
      try dsimp only at hF ⊢
      have s3 := hp 3 rfl
      have s5 := hp 5 rfl
      have s7 := hp 7 rfl
      refine d_need (small := [(61, (.pointer (some ⟨p2, 0, none⟩))), (63, (.int .i64 xy)), (65, (.int .i64 xz))]) ⟨look_row rfl 3 rfl s3, look_row rfl 5 rfl s5, look_row rfl 7 rfl s7, trivial⟩ ?_
      refine t_f5 ?_
      refine t_cF hS ?_
      refine tc rfl (en_fn Try.call13 rfl) (hpush_ok (n := m) (ks := ks) xy xz) ?_
      rintro _ _ ⟨rfl, rfl⟩
      refine t_f5 ?_
      refine t_f5 ?_
      refine t_f5 ?_
      refine t_f5 ?_
      refine t_f5 ?_
      exact d_closes ⟨look_row rfl 3 rfl s3, look_row rfl 5 rfl s5, look_row rfl 7 rfl s7, trivial⟩ 8 rfl rfl rfl hS (AgreeR.refl _) (t_sat (fun _ h => h) (hK () trivial))
     · -- 9
      rintro _ S hF hS D hp K hK
      try dsimp only at hF ⊢
      have s0 := hp 0 rfl
      refine d_need (small := [(11, (.pointer (some ⟨b6, 0, none⟩))), (58, (.int .i64 0))]) ⟨look_b rfl rfl, look_row rfl 0 rfl s0, trivial⟩ ?_
      refine tp rfl (lv_indexArr_at (k' := 0) Try.underlying45 Try.sizeOf44 rfl rfl (by decide) (by decide) rfl) ?_
      exact d_closes ⟨look_b rfl rfl, look_row rfl 0 rfl s0, trivial⟩ 9 rfl rfl rfl hS (AgreeR.refl _) (t_sat (fun _ h => h) (hK () trivial))
     · -- 10
      rintro _ S hF hS D hp K hK
      try dsimp only at hF ⊢
      have s9 := hp 9 rfl
      refine d_need (small := [(67, (.pointer (some ⟨b6, 0, none⟩)))]) ⟨look_row rfl 9 rfl s9, trivial⟩ ?_
      refine tp rfl (lv_indexArr_at (k' := 0) Try.underlying44 Try.sizeOf3 rfl rfl (by decide) (by decide) rfl) ?_
      exact d_closes ⟨look_row rfl 9 rfl s9, trivial⟩ 10 rfl rfl rfl hS (AgreeR.refl _) (t_sat (fun _ h => h) (hK () trivial))
     · -- 11
      rintro _ S hF hS D hp K hK
      try dsimp only at hF ⊢
      have s8 := hp 8 rfl
      have s10 := hp 10 rfl
      refine d_need (small := [(66, (.int .i64 (pushE ks xy))), (68, (.pointer (some ⟨b6, 0, none⟩)))]) ⟨look_row rfl 8 rfl s8, look_row rfl 10 rfl s10, trivial⟩ ?_
      refine t_f1 ?_
      refine t_cF hS ?_
      refine ts (sv_blk Try.sizeOf3 rfl rfl rfl (Nat.le_of_ble_eq_true rfl) rfl) ?_
      refine t_f1 ?_
      exact d_closes0 ⟨look_row rfl 8 rfl s8, look_row rfl 10 rfl s10, trivial⟩ rfl (t_sat (fun _ h => h) (hK () trivial))
    · -- behind
     rintro _ hF
     try dsimp only at hF ⊢
     refine t_weak (E' := [(0, (.int .i64 ((m : Nat) : Int))), (1, (.slice bsb xs.length csb)), (2, (.slice bsc ys.length csc)), (7, (.bool true)), (8, (.pointer (some ⟨b1, 0, none⟩))), (9, (.int .i64 3)), (10, (.int .i64 ((i : Nat) : Int))), (11, (.pointer (some ⟨b6, 0, none⟩))), (12, (.int .i64 0)), (13, (.pointer (some ⟨b7, 0, none⟩))), (24, (.bool false)), (34, (.bool false)), (42, (.bool true)), (46, (.bool true)), (54, (.int .i64 xx)), (55, (.bool true))]) ⟨rfl, rfl, rfl, rfl, rfl, rfl, rfl, rfl, rfl, rfl, rfl, rfl, rfl, rfl, rfl, rfl, trivial⟩ ?_
     refine q_in_n ?_
     refine q_then_n ?_
     have ho9 : outG xx xy xz ks = (pushK ks xy xz, pushE ks xy, 0, 0) := by unfold outG; rw [if_pos (.inr h26)]
     rw [ho9] at hM37
     dsimp only at hM37
     exact t_weak (by exact ⟨rfl, rfl, rfl, rfl, rfl, rfl, rfl, rfl, rfl, rfl, rfl, rfl, rfl, rfl, trivial⟩) (hM37 0 ⟨trivial, trivial⟩)
   · -- no
    refine tp rfl (lv_eql rfl rfl (beq_eq_false_iff_ne.2 h26)) ?_
    refine tp rfl (lv_assign rfl) ?_
    refine t_done ?_
    refine q_then_n (hK39 _ _ ?_)
    refine c_false rfl ?_
    refine c_seq (fun K41 hK41 => ?_)
    refine c_region ?_
    by_cases h27 : xx = 3
    · -- yes
     refine tp rfl (lv_eql rfl rfl (beq_iff_eq.2 h27)) ?_
     refine tp rfl (lv_assign rfl) ?_
     refine t_done ?_
     refine q_then_n (hK41 _ _ ?_)
     refine c_true rfl ?_
     refine c_draw (γ := Unit) (n := 12) Try.mixed rfl rfl (fun _ S => True) (fun _ => [(0, 71, (.int .i64 0)), (1, 72, (.int .i64 0)), (2, 73, (.pointer (some ⟨b1, 0, none⟩))), (3, 74, (.pointer (some ⟨p2, 0, none⟩))), (4, 75, (.pointer (some ⟨b7, 1, none⟩))), (5, 76, (.int .i64 xy)), (6, 77, (.pointer (some ⟨b7, 2, none⟩))), (7, 78, (.int .i64 xz)), (8, 79, (.int .i64 (lowE ks xy xz))), (9, 80, (.pointer (some ⟨b6, 0, none⟩))), (10, 81, (.pointer (some ⟨b6, 0, none⟩)))]) (fun _ S => (Blk b7 [(.int .i64 xx), (.int .i64 xy), (.int .i64 xz)] 47) :: (bif S 11 then (Blk b6 [(.int .i64 (lowE ks xy xz)), (.int .i64 0), (.int .i64 0), (.int .i64 0), (.int .i64 0), (.int .i64 0)] 45) else (Blk b6 [(.int .i64 0), (.int .i64 0), (.int .i64 0), (.int .i64 0), (.int .i64 0), (.int .i64 0)] 45)) :: (Blk b1 [(.pointer (some ⟨p2, 0, none⟩)), (.pointer (some ⟨p3, 0, none⟩)), (.pointer (some ⟨p4, 0, none⟩))] 43) :: (HeapO p4 m k3) :: (HeapO p3 m ks) :: (bif S 8 then (HeapO p2 m (lowK ks xy xz)) else (HeapO p2 m ks)) :: R) (()) trivial (fun _ h => h) (fun _ _ h => h) ?_ ?_
     · -- steps
      refine ⟨?_, ?_, ?_, ?_, ?_, ?_, ?_, ?_, ?_, ?_, ?_, ?_, trivial⟩
      · -- 0
       rintro _ S hF hS D hp K hK
       try dsimp only at hF ⊢
       refine d_need (small := [(12, (.int .i64 0))]) ⟨look_b rfl rfl, trivial⟩ ?_
       refine tp rfl (lv_move rfl) ?_
       exact d_closes ⟨look_b rfl rfl, trivial⟩ 0 rfl rfl rfl hS (AgreeR.refl _) (t_sat (fun _ h => h) (hK () trivial))
      · -- 1
       rintro _ S hF hS D hp K hK
       try dsimp only at hF ⊢
       refine d_need (small := [(12, (.int .i64 0))]) ⟨look_b rfl rfl, trivial⟩ ?_
       refine tp rfl (lv_move rfl) ?_
       exact d_closes ⟨look_b rfl rfl, trivial⟩ 1 rfl rfl rfl hS (AgreeR.refl _) (t_sat (fun _ h => h) (hK () trivial))
      · -- 2
       rintro _ S hF hS D hp K hK
       try dsimp only at hF ⊢
       have s1 := hp 1 rfl
       refine d_need (small := [(8, (.pointer (some ⟨b1, 0, none⟩))), (72, (.int .i64 0))]) ⟨look_b rfl rfl, look_row rfl 1 rfl s1, trivial⟩ ?_
       refine tp rfl (lv_indexArr_at (k' := 0) Try.underlying43 Try.sizeOf25 rfl rfl (by decide) (by decide) rfl) ?_
       exact d_closes ⟨look_b rfl rfl, look_row rfl 1 rfl s1, trivial⟩ 2 rfl rfl rfl hS (AgreeR.refl _) (t_sat (fun _ h => h) (hK () trivial))
      · -- 3
       rintro _ S hF hS D hp K hK
       try dsimp only at hF ⊢
       have s2 := hp 2 rfl
       refine d_need (small := [(73, (.pointer (some ⟨b1, 0, none⟩)))]) ⟨look_row rfl 2 rfl s2, trivial⟩ ?_
       refine tp rfl (lv_load Try.isAgg25 rfl (gives_blk (.tail _ (.tail _ (.head _))) rfl)) ?_
       exact d_closes ⟨look_row rfl 2 rfl s2, trivial⟩ 3 rfl rfl rfl hS (AgreeR.refl _) (t_sat (fun _ h => h) (hK () trivial))
      · -- 4
       rintro _ S hF hS D hp K hK
       try dsimp only at hF ⊢
       refine d_need (small := [(13, (.pointer (some ⟨b7, 0, none⟩)))]) ⟨look_b rfl rfl, trivial⟩ ?_
       refine tp rfl (lv_fieldAddr (o' := 1) Try.underlying47 rfl Try.sizeOf3 rfl rfl) ?_
       exact d_closes ⟨look_b rfl rfl, trivial⟩ 4 rfl rfl rfl hS (AgreeR.refl _) (t_sat (fun _ h => h) (hK () trivial))
      · -- 5
       rintro _ S hF hS D hp K hK
       try dsimp only at hF ⊢
       have s4 := hp 4 rfl
       refine d_need (small := [(75, (.pointer (some ⟨b7, 1, none⟩)))]) ⟨look_row rfl 4 rfl s4, trivial⟩ ?_
       refine tp rfl (lv_load Try.isAgg3 rfl (gives_blk (.head _) rfl)) ?_
       exact d_closes ⟨look_row rfl 4 rfl s4, trivial⟩ 5 rfl rfl rfl hS (AgreeR.refl _) (t_sat (fun _ h => h) (hK () trivial))
      · -- 6
       rintro _ S hF hS D hp K hK
       try dsimp only at hF ⊢
       refine d_need (small := [(13, (.pointer (some ⟨b7, 0, none⟩)))]) ⟨look_b rfl rfl, trivial⟩ ?_
       refine tp rfl (lv_fieldAddr (o' := 2) Try.underlying47 rfl Try.sizeOf3 rfl rfl) ?_
       exact d_closes ⟨look_b rfl rfl, trivial⟩ 6 rfl rfl rfl hS (AgreeR.refl _) (t_sat (fun _ h => h) (hK () trivial))
      · -- 7
       rintro _ S hF hS D hp K hK
       try dsimp only at hF ⊢
       have s6 := hp 6 rfl
       refine d_need (small := [(77, (.pointer (some ⟨b7, 2, none⟩)))]) ⟨look_row rfl 6 rfl s6, trivial⟩ ?_
       refine tp rfl (lv_load Try.isAgg3 rfl (gives_blk (.head _) rfl)) ?_
       exact d_closes ⟨look_row rfl 6 rfl s6, trivial⟩ 7 rfl rfl rfl hS (AgreeR.refl _) (t_sat (fun _ h => h) (hK () trivial))
      · -- 8
       rintro _ S hF hS D hp K hK
       try dsimp only at hF ⊢
       have s3 := hp 3 rfl
       have s5 := hp 5 rfl
       have s7 := hp 7 rfl
       refine d_need (small := [(74, (.pointer (some ⟨p2, 0, none⟩))), (76, (.int .i64 xy)), (78, (.int .i64 xz))]) ⟨look_row rfl 3 rfl s3, look_row rfl 5 rfl s5, look_row rfl 7 rfl s7, trivial⟩ ?_
       refine t_f5 ?_
       refine t_cF hS ?_
       refine tc rfl (en_fn Try.call16 rfl) (hlow_ok (n := m) (ks := ks) xy xz) ?_
       rintro _ _ ⟨rfl, rfl⟩
       refine t_f5 ?_
       refine t_f5 ?_
       refine t_f5 ?_
       refine t_f5 ?_
       refine t_f5 ?_
       exact d_closes ⟨look_row rfl 3 rfl s3, look_row rfl 5 rfl s5, look_row rfl 7 rfl s7, trivial⟩ 8 rfl rfl rfl hS (AgreeR.refl _) (t_sat (fun _ h => h) (hK () trivial))
      · -- 9
       rintro _ S hF hS D hp K hK
       try dsimp only at hF ⊢
       have s0 := hp 0 rfl
       refine d_need (small := [(11, (.pointer (some ⟨b6, 0, none⟩))), (71, (.int .i64 0))]) ⟨look_b rfl rfl, look_row rfl 0 rfl s0, trivial⟩ ?_
       refine tp rfl (lv_indexArr_at (k' := 0) Try.underlying45 Try.sizeOf44 rfl rfl (by decide) (by decide) rfl) ?_
       exact d_closes ⟨look_b rfl rfl, look_row rfl 0 rfl s0, trivial⟩ 9 rfl rfl rfl hS (AgreeR.refl _) (t_sat (fun _ h => h) (hK () trivial))
      · -- 10
       rintro _ S hF hS D hp K hK
       try dsimp only at hF ⊢
       have s9 := hp 9 rfl
       refine d_need (small := [(80, (.pointer (some ⟨b6, 0, none⟩)))]) ⟨look_row rfl 9 rfl s9, trivial⟩ ?_
       refine tp rfl (lv_indexArr_at (k' := 0) Try.underlying44 Try.sizeOf3 rfl rfl (by decide) (by decide) rfl) ?_
       exact d_closes ⟨look_row rfl 9 rfl s9, trivial⟩ 10 rfl rfl rfl hS (AgreeR.refl _) (t_sat (fun _ h => h) (hK () trivial))
      · -- 11
       rintro _ S hF hS D hp K hK
       try dsimp only at hF ⊢
       have s8 := hp 8 rfl
       have s10 := hp 10 rfl
       refine d_need (small := [(79, (.int .i64 (lowE ks xy xz))), (81, (.pointer (some ⟨b6, 0, none⟩)))]) ⟨look_row rfl 8 rfl s8, look_row rfl 10 rfl s10, trivial⟩ ?_
       refine t_f1 ?_
       refine t_cF hS ?_
       refine ts (sv_blk Try.sizeOf3 rfl rfl rfl (Nat.le_of_ble_eq_true rfl) rfl) ?_
       refine t_f1 ?_
       exact d_closes0 ⟨look_row rfl 8 rfl s8, look_row rfl 10 rfl s10, trivial⟩ rfl (t_sat (fun _ h => h) (hK () trivial))
     · -- behind
      rintro _ hF
      try dsimp only at hF ⊢
      refine t_weak (E' := [(0, (.int .i64 ((m : Nat) : Int))), (1, (.slice bsb xs.length csb)), (2, (.slice bsc ys.length csc)), (7, (.bool true)), (8, (.pointer (some ⟨b1, 0, none⟩))), (9, (.int .i64 3)), (10, (.int .i64 ((i : Nat) : Int))), (11, (.pointer (some ⟨b6, 0, none⟩))), (12, (.int .i64 0)), (13, (.pointer (some ⟨b7, 0, none⟩))), (24, (.bool false)), (34, (.bool false)), (42, (.bool true)), (46, (.bool true)), (54, (.int .i64 xx)), (55, (.bool false)), (69, (.bool true))]) ⟨rfl, rfl, rfl, rfl, rfl, rfl, rfl, rfl, rfl, rfl, rfl, rfl, rfl, rfl, rfl, rfl, rfl, trivial⟩ ?_
      refine q_in_n ?_
      refine q_then_n ?_
      have ho9 : outG xx xy xz ks = (lowK ks xy xz, lowE ks xy xz, 0, 0) := by unfold outG; rw [if_neg (fun q => q.elim h25 h26), if_pos h27]
      rw [ho9] at hM37
      dsimp only at hM37
      exact t_weak (by exact ⟨rfl, rfl, rfl, rfl, rfl, rfl, rfl, rfl, rfl, rfl, rfl, rfl, rfl, rfl, trivial⟩) (hM37 0 ⟨trivial, trivial⟩)
    · -- no
     refine tp rfl (lv_eql rfl rfl (beq_eq_false_iff_ne.2 h27)) ?_
     refine tp rfl (lv_assign rfl) ?_
     refine t_done ?_
     refine q_then_n (hK41 _ _ ?_)
     refine c_false rfl ?_
     refine c_seq (fun K42 hK42 => ?_)
     refine c_region ?_
     by_cases h28 : xx = 4
     · -- yes
      refine tp rfl (lv_eql rfl rfl (beq_iff_eq.2 h28)) ?_
      refine tp rfl (lv_assign rfl) ?_
      refine t_done ?_
      refine q_then_n (hK42 _ _ ?_)
      refine c_true rfl ?_
      refine c_seq (fun K43 hK43 => ?_)
      refine c_draw (γ := Unit) (n := 11) Try.mixed rfl rfl (fun _ S => True) (fun _ => [(0, 85, (.int .i64 0)), (1, 86, (.pointer (some ⟨b1, 0, none⟩))), (2, 87, (.pointer (some ⟨p2, 0, none⟩))), (3, 88, (.pointer (some ⟨b7, 1, none⟩))), (4, 89, (.int .i64 xy)), (5, 90, (.tuple #[(.int .i64 (keyK ks xy)), (.int .i64 (remE ks xy))])), (6, 84, (.tuple #[(.int .i64 (keyK ks xy)), (.int .i64 (remE ks xy))])), (7, 91, (.int .i64 (keyK ks xy))), (8, 92, (.int .i64 (remE ks xy))), (9, 14, (.int .i64 (keyK ks xy))), (10, 15, (.int .i64 (remE ks xy)))]) (fun _ S => (Blk b7 [(.int .i64 xx), (.int .i64 xy), (.int .i64 xz)] 47) :: (Blk b6 [(.int .i64 0), (.int .i64 0), (.int .i64 0), (.int .i64 0), (.int .i64 0), (.int .i64 0)] 45) :: (Blk b1 [(.pointer (some ⟨p2, 0, none⟩)), (.pointer (some ⟨p3, 0, none⟩)), (.pointer (some ⟨p4, 0, none⟩))] 43) :: (HeapO p4 m k3) :: (HeapO p3 m ks) :: (bif S 5 then (HeapO p2 m (remK ks xy)) else (HeapO p2 m ks)) :: R) (()) trivial (fun _ h => h) (fun _ _ h => h) ?_ ?_
      · -- steps
       refine ⟨?_, ?_, ?_, ?_, ?_, ?_, ?_, ?_, ?_, ?_, ?_, trivial⟩
       · -- 0
        rintro _ S hF hS D hp K hK
        try dsimp only at hF ⊢
        refine d_need (small := [(12, (.int .i64 0))]) ⟨look_b rfl rfl, trivial⟩ ?_
        refine tp rfl (lv_move rfl) ?_
        exact d_closes ⟨look_b rfl rfl, trivial⟩ 0 rfl rfl rfl hS (AgreeR.refl _) (t_sat (fun _ h => h) (hK () trivial))
       · -- 1
        rintro _ S hF hS D hp K hK
        try dsimp only at hF ⊢
        have s0 := hp 0 rfl
        refine d_need (small := [(8, (.pointer (some ⟨b1, 0, none⟩))), (85, (.int .i64 0))]) ⟨look_b rfl rfl, look_row rfl 0 rfl s0, trivial⟩ ?_
        refine tp rfl (lv_indexArr_at (k' := 0) Try.underlying43 Try.sizeOf25 rfl rfl (by decide) (by decide) rfl) ?_
        exact d_closes ⟨look_b rfl rfl, look_row rfl 0 rfl s0, trivial⟩ 1 rfl rfl rfl hS (AgreeR.refl _) (t_sat (fun _ h => h) (hK () trivial))
       · -- 2
        rintro _ S hF hS D hp K hK
        try dsimp only at hF ⊢
        have s1 := hp 1 rfl
        refine d_need (small := [(86, (.pointer (some ⟨b1, 0, none⟩)))]) ⟨look_row rfl 1 rfl s1, trivial⟩ ?_
        refine tp rfl (lv_load Try.isAgg25 rfl (gives_blk (.tail _ (.tail _ (.head _))) rfl)) ?_
        exact d_closes ⟨look_row rfl 1 rfl s1, trivial⟩ 2 rfl rfl rfl hS (AgreeR.refl _) (t_sat (fun _ h => h) (hK () trivial))
       · -- 3
        rintro _ S hF hS D hp K hK
        try dsimp only at hF ⊢
        refine d_need (small := [(13, (.pointer (some ⟨b7, 0, none⟩)))]) ⟨look_b rfl rfl, trivial⟩ ?_
        refine tp rfl (lv_fieldAddr (o' := 1) Try.underlying47 rfl Try.sizeOf3 rfl rfl) ?_
        exact d_closes ⟨look_b rfl rfl, trivial⟩ 3 rfl rfl rfl hS (AgreeR.refl _) (t_sat (fun _ h => h) (hK () trivial))
       · -- 4
        rintro _ S hF hS D hp K hK
        try dsimp only at hF ⊢
        have s3 := hp 3 rfl
        refine d_need (small := [(88, (.pointer (some ⟨b7, 1, none⟩)))]) ⟨look_row rfl 3 rfl s3, trivial⟩ ?_
        refine tp rfl (lv_load Try.isAgg3 rfl (gives_blk (.head _) rfl)) ?_
        exact d_closes ⟨look_row rfl 3 rfl s3, trivial⟩ 4 rfl rfl rfl hS (AgreeR.refl _) (t_sat (fun _ h => h) (hK () trivial))
       · -- 5
        rintro _ S hF hS D hp K hK
        try dsimp only at hF ⊢
        have s2 := hp 2 rfl
        have s4 := hp 4 rfl
        refine d_need (small := [(87, (.pointer (some ⟨p2, 0, none⟩))), (89, (.int .i64 xy))]) ⟨look_row rfl 2 rfl s2, look_row rfl 4 rfl s4, trivial⟩ ?_
        refine t_f5 ?_
        refine t_cF hS ?_
        refine tc rfl (en_fn Try.call17 rfl) (hrem_ok (n := m) (ks := ks) xy) ?_
        rintro _ _ ⟨rfl, rfl⟩
        refine t_f5 ?_
        refine t_f5 ?_
        refine t_f5 ?_
        refine t_f5 ?_
        refine t_f5 ?_
        exact d_closes ⟨look_row rfl 2 rfl s2, look_row rfl 4 rfl s4, trivial⟩ 5 rfl rfl rfl hS (AgreeR.refl _) (t_sat (fun _ h => h) (hK () trivial))
       · -- 6
        rintro _ S hF hS D hp K hK
        try dsimp only at hF ⊢
        have s5 := hp 5 rfl
        refine d_need (small := [(90, (.tuple #[(.int .i64 (keyK ks xy)), (.int .i64 (remE ks xy))]))]) ⟨look_row rfl 5 rfl s5, trivial⟩ ?_
        refine tp rfl (lv_move rfl) ?_
        exact d_closes ⟨look_row rfl 5 rfl s5, trivial⟩ 6 rfl rfl rfl hS (AgreeR.refl _) (t_sat (fun _ h => h) (hK () trivial))
       · -- 7
        rintro _ S hF hS D hp K hK
        try dsimp only at hF ⊢
        have s6 := hp 6 rfl
        refine d_need (small := [(84, (.tuple #[(.int .i64 (keyK ks xy)), (.int .i64 (remE ks xy))]))]) ⟨look_row rfl 6 rfl s6, trivial⟩ ?_
        refine tp rfl (lv_extract rfl rfl) ?_
        exact d_closes ⟨look_row rfl 6 rfl s6, trivial⟩ 7 rfl rfl rfl hS (AgreeR.refl _) (t_sat (fun _ h => h) (hK () trivial))
       · -- 8
        rintro _ S hF hS D hp K hK
        try dsimp only at hF ⊢
        have s6 := hp 6 rfl
        refine d_need (small := [(84, (.tuple #[(.int .i64 (keyK ks xy)), (.int .i64 (remE ks xy))]))]) ⟨look_row rfl 6 rfl s6, trivial⟩ ?_
        refine tp rfl (lv_extract rfl rfl) ?_
        exact d_closes ⟨look_row rfl 6 rfl s6, trivial⟩ 8 rfl rfl rfl hS (AgreeR.refl _) (t_sat (fun _ h => h) (hK () trivial))
       · -- 9
        rintro _ S hF hS D hp K hK
        try dsimp only at hF ⊢
        have s7 := hp 7 rfl
        refine d_need (small := [(91, (.int .i64 (keyK ks xy)))]) ⟨look_row rfl 7 rfl s7, trivial⟩ ?_
        refine tp rfl (lv_assign rfl) ?_
        exact d_closes ⟨look_row rfl 7 rfl s7, trivial⟩ 9 rfl rfl rfl hS (AgreeR.refl _) (t_sat (fun _ h => h) (hK () trivial))
       · -- 10
        rintro _ S hF hS D hp K hK
        try dsimp only at hF ⊢
        have s8 := hp 8 rfl
        refine d_need (small := [(92, (.int .i64 (remE ks xy)))]) ⟨look_row rfl 8 rfl s8, trivial⟩ ?_
        refine tp rfl (lv_assign rfl) ?_
        exact d_closes ⟨look_row rfl 8 rfl s8, trivial⟩ 10 rfl rfl rfl hS (AgreeR.refl _) (t_sat (fun _ h => h) (hK () trivial))
      · -- behind
       rintro _ hF
       try dsimp only at hF ⊢
       refine t_weak (E' := [(0, (.int .i64 ((m : Nat) : Int))), (1, (.slice bsb xs.length csb)), (2, (.slice bsc ys.length csc)), (7, (.bool true)), (8, (.pointer (some ⟨b1, 0, none⟩))), (9, (.int .i64 3)), (10, (.int .i64 ((i : Nat) : Int))), (11, (.pointer (some ⟨b6, 0, none⟩))), (12, (.int .i64 0)), (13, (.pointer (some ⟨b7, 0, none⟩))), (14, (.int .i64 (keyK ks xy))), (15, (.int .i64 (remE ks xy))), (24, (.bool false)), (34, (.bool false)), (42, (.bool true)), (46, (.bool true)), (54, (.int .i64 xx)), (55, (.bool false)), (69, (.bool false)), (82, (.bool true))]) ⟨rfl, rfl, rfl, rfl, rfl, rfl, rfl, rfl, rfl, rfl, rfl, rfl, rfl, rfl, rfl, rfl, rfl, rfl, rfl, rfl, trivial⟩ ?_
       refine q_then_n (hK43 _ _ ?_)
       refine c_region ?_
       refine tp rfl (lv_move rfl) ?_
       refine tp rfl (lv_move rfl) ?_
       refine tp rfl (lv_move rfl) ?_
       refine tp rfl (lv_buildArr (cs := [(.int .i64 (keyK ks xy)), (.int .i64 (remE ks xy)), (.int .i64 0)]) Try.underlying44 Try.zeroValue44 Try.sizeOf3 rfl rfl) ?_
       refine tp rfl (lv_indexArr_at (k' := 0) Try.underlying45 Try.sizeOf44 rfl rfl (by decide) (by decide) rfl) ?_
       refine t_f1 ?_
       refine ts (sv_blkAgg (news := [(.int .i64 (keyK ks xy)), (.int .i64 (remE ks xy)), (.int .i64 0)]) Try.sizeOf44 rfl rfl rfl rfl (Nat.le_of_ble_eq_true rfl) rfl) ?_
       refine t_done ?_
       refine q_in_n ?_
       refine q_then_n ?_
       have ho9 : outG xx xy xz ks = (remK ks xy, keyK ks xy, remE ks xy, 0) := by unfold outG; rw [if_neg (fun q => q.elim h25 h26), if_neg h27, if_pos h28]
       rw [ho9] at hM37
       dsimp only at hM37
       refine t_f1 ?_
       exact t_weak (by exact ⟨rfl, rfl, rfl, rfl, rfl, rfl, rfl, rfl, rfl, rfl, rfl, rfl, rfl, rfl, trivial⟩) (hM37 0 ⟨trivial, trivial⟩)
     · -- no
      refine tp rfl (lv_eql rfl rfl (beq_eq_false_iff_ne.2 h28)) ?_
      refine tp rfl (lv_assign rfl) ?_
      refine t_done ?_
      refine q_then_n (hK42 _ _ ?_)
      refine c_false rfl ?_
      refine c_seq (fun K43 hK43 => ?_)
      refine c_region ?_
      by_cases h29 : xx = 5
      · -- yes
       refine tp rfl (lv_eql rfl rfl (beq_iff_eq.2 h29)) ?_
       refine tp rfl (lv_assign rfl) ?_
       refine t_done ?_
       refine q_then_n (hK43 _ _ ?_)
       refine c_true rfl ?_
       refine c_seq (fun K44 hK44 => ?_)
       refine c_region ?_
       refine tp rfl (lv_move rfl) ?_
       refine tp rfl (lv_indexArr_at (k' := 0) Try.underlying43 Try.sizeOf25 rfl rfl (by decide) (by decide) rfl) ?_
       refine tp rfl (lv_load Try.isAgg25 rfl (gives_blk (.tail _ (.tail _ (.head _))) rfl)) ?_
       refine t_f5 ?_
       refine tc rfl (en_fn Try.call14 rfl) (hpop_ok (n := m) (ks := ks) ) ?_
       rintro _ _ ⟨rfl, rfl⟩
       refine tp rfl (lv_move rfl) ?_
       refine tp rfl (lv_extract rfl rfl) ?_
       refine tp rfl (lv_extract rfl rfl) ?_
       refine tp rfl (lv_extract rfl rfl) ?_
       refine tp rfl (lv_assign rfl) ?_
       refine tp rfl (lv_assign rfl) ?_
       refine tp rfl (lv_assign rfl) ?_
       refine t_done ?_
       refine q_then_n (hK44 _ _ ?_)
       refine c_seq (fun K45 hK45 => ?_)
       refine c_region ?_
       refine tp rfl (lv_move rfl) ?_
       refine tp rfl (lv_move rfl) ?_
       refine tp rfl (lv_move rfl) ?_
       refine tp rfl (lv_buildArr (cs := [(.int .i64 (fstI ks)), (.int .i64 (fstV ks)), (.int .i64 0)]) Try.underlying44 Try.zeroValue44 Try.sizeOf3 rfl rfl) ?_
       refine tp rfl (lv_indexArr_at (k' := 0) Try.underlying45 Try.sizeOf44 rfl rfl (by decide) (by decide) rfl) ?_
       refine t_f2 ?_
       refine ts (sv_blkAgg (news := [(.int .i64 (fstI ks)), (.int .i64 (fstV ks)), (.int .i64 0)]) Try.sizeOf44 rfl rfl rfl rfl (Nat.le_of_ble_eq_true rfl) rfl) ?_
       refine t_done ?_
       refine q_then_n (hK45 _ _ ?_)
       refine c_seq (fun K46 hK46 => ?_)
       refine c_region ?_
       refine tp rfl (lv_move rfl) ?_
       refine t_done ?_
       refine q_then_n (hK46 _ _ ?_)
       refine c_split rfl (fun c30 => ?_) (fun c30 => ?_)
       · -- true
        refine c_region ?_
        refine tp rfl (lv_move rfl) ?_
        refine tp rfl (lv_indexArr_at (k' := 0) Try.underlying45 Try.sizeOf44 rfl rfl (by decide) (by decide) rfl) ?_
        refine tp rfl (lv_indexArr_at (k' := 2) Try.underlying44 Try.sizeOf3 rfl rfl (by decide) (by decide) rfl) ?_
        refine ts (sv_blk Try.sizeOf3 rfl rfl rfl (Nat.le_of_ble_eq_true rfl) rfl) ?_
        refine t_done ?_
        refine q_in_n ?_
        refine q_then_n ?_
        have ho9 : outG xx xy xz ks = (popK ks, fstI ks, fstV ks, 1) := by unfold outG; rw [if_neg (fun q => q.elim h25 h26), if_neg h27, if_neg h28, if_pos h29, if_pos c30]
        rw [ho9] at hM37
        dsimp only at hM37
        refine t_f1 ?_
        refine t_f5 ?_
        refine t_f5 ?_
        refine t_f5 ?_
        refine t_f4 ?_
        refine t_f5 ?_
        exact t_weak (by exact ⟨rfl, rfl, rfl, rfl, rfl, rfl, rfl, rfl, rfl, rfl, rfl, rfl, rfl, rfl, trivial⟩) (hM37 0 ⟨trivial, trivial⟩)
       · -- false
        refine c_skip ?_
        refine q_in_n ?_
        refine q_then_n ?_
        have ho9 : outG xx xy xz ks = (popK ks, fstI ks, fstV ks, 0) := by unfold outG; rw [if_neg (fun q => q.elim h25 h26), if_neg h27, if_neg h28, if_pos h29, if_neg (fun e => by rw [c30] at e; cases e)]
        rw [ho9] at hM37
        dsimp only at hM37
        refine t_f1 ?_
        refine t_f5 ?_
        refine t_f5 ?_
        refine t_f5 ?_
        refine t_f4 ?_
        refine t_f5 ?_
        exact t_weak (by exact ⟨rfl, rfl, rfl, rfl, rfl, rfl, rfl, rfl, rfl, rfl, rfl, rfl, rfl, rfl, trivial⟩) (hM37 0 ⟨trivial, trivial⟩)
      · -- no
       refine tp rfl (lv_eql rfl rfl (beq_eq_false_iff_ne.2 h29)) ?_
       refine tp rfl (lv_assign rfl) ?_
       refine t_done ?_
       refine q_then_n (hK43 _ _ ?_)
       refine c_false rfl ?_
       refine c_skip ?_
       refine q_in_n ?_
       refine q_then_n ?_
       have ho9 : outG xx xy xz ks = (ks, 0, 0, 0) := by unfold outG; rw [if_neg (fun q => q.elim h25 h26), if_neg h27, if_neg h28, if_neg h29]
       rw [ho9] at hM37
       dsimp only at hM37
       exact t_weak (by exact ⟨rfl, rfl, rfl, rfl, rfl, rfl, rfl, rfl, rfl, rfl, rfl, rfl, rfl, rfl, trivial⟩) (hM37 0 ⟨trivial, trivial⟩)
 · -- not both
  refine t_cut0 (E' := [(0, (.int .i64 ((m : Nat) : Int))), (1, (.slice bsb xs.length csb)), (2, (.slice bsc ys.length csc)), (7, (.bool true)), (8, (.pointer (some ⟨b1, 0, none⟩))), (9, (.int .i64 3)), (10, (.int .i64 ((i : Nat) : Int))), (24, (.bool false)), (34, (.bool false)), (42, (.bool false))]) ?_ (fun KK hKK => ?_)
  ·
   refine q_then_n (hK28 _ _ ?_)
   refine c_false rfl ?_
   refine c_exit ?_
   refine q_then_x ?_
   refine q_then_x ?_
   refine q_in_x ?_
   refine q_then_n (hK24 _ _ ?_)
   refine c_seq (fun K29 hK29 => ?_)
   refine c_region ?_
   refine tp rfl (lv_move rfl) ?_
   refine tp rfl (lv_assign rfl) ?_
   refine t_done ?_
   refine q_then_n (hK29 _ _ ?_)
   refine c_ret ?_
   refine t_drop ?_
   refine t_drop ?_
   refine t_drop ?_
   refine t_drop ?_
   refine q_ret rfl rfl ?_
   exact ⟨rfl, rfl⟩
  · -- which
   by_cases hc5A : ((i : Nat) : Int) < ((xs.length : Nat) : Int)
   ·
    have hc5B : ¬ (((i : Nat) : Int) < 100) := fun hh => hc5 ⟨hc5A, hh⟩
    refine tp rfl (lv_move rfl) ?_
    refine tp rfl (lv_move rfl) ?_
    refine tp rfl (lv_len Try.underlying42 rfl rfl) ?_
    refine tp rfl (lv_lss rfl rfl (decide_eq_true hc5A)) ?_
    refine tp rfl (lv_move rfl) ?_
    refine t_guard rfl rfl ?_
    refine tp rfl (lv_move rfl) ?_
    refine t_guard rfl rfl ?_
    refine tp rfl (lv_lss rfl rfl (decide_eq_false hc5B)) ?_
    refine tp rfl (lv_pick_t rfl rfl) ?_
    exact t_done (t_weak (by exact ⟨rfl, rfl, rfl, rfl, rfl, rfl, rfl, rfl, rfl, rfl, trivial⟩) hKK)
   ·
    refine tp rfl (lv_move rfl) ?_
    refine tp rfl (lv_move rfl) ?_
    refine tp rfl (lv_len Try.underlying42 rfl rfl) ?_
    refine tp rfl (lv_lss rfl rfl (decide_eq_false hc5A)) ?_
    refine tp rfl (lv_move rfl) ?_
    refine t_skip rfl rfl rfl ?_
    refine t_skip rfl rfl rfl ?_
    refine tp rfl (lv_pick_f rfl rfl) ?_
    exact t_done (t_weak (by exact ⟨rfl, rfl, rfl, rfl, rfl, rfl, rfl, rfl, rfl, rfl, trivial⟩) hKK)
end Go.Proofs.Ytchnphachgcjmaa
