/- The document's turns: Take. -/
import Derived.Test.YtkhceihokoheaaaRa
set_option maxRecDepth 100000
set_option linter.unusedVariables false
set_option linter.unusedSimpArgs false
namespace Go.Proofs.Ytkhceihokoheaaa
open Go Go.Proofs Sp
theorem rtake_no {R : List HP} {p a nw cl : Nat} {q : Int} {ms : List M3} {bl : Option Addr} (ws : List (Int × Int)) (hwl : ws.length = nw) (hw : Rd R bl (pairs ws)) (okl : SlOk bl nw) (lw : nw ≤ 1000000) (hb : ms.length ≤ 50000) (hany : anyPos (costsL ms ws) = false) :
    Ok Try.prog 21 [(.pointer (some ⟨p, 0, none⟩)), (.slice bl nw cl)] ((RTurnsO p q ms a) :: R)
      (fun v M => v = .tuple #[.int .i64 0, .bool false] ∧ M = RTurnsO p q ms a :: R) := by
  refine ok_of (N := 135) Try.func21 rfl rfl rfl (fun W => ?_)
  refine t_openRT (fun bs1 cp2 hok3 hle4 => ?_)
  refine c_seq (fun K1 hK1 => ?_)
  refine c_region ?_
  refine tp rfl (lv_assign rfl) ?_
  refine tp rfl (lv_assign rfl) ?_
  refine t_done ?_
  refine q_then_n (hK1 _ _ ?_)
  refine c_seq (fun K2 hK2 => ?_)
  refine c_region ?_
  refine tp rfl (lv_assign rfl) ?_
  refine t_done ?_
  refine q_then_n (hK2 _ _ ?_)
  refine c_seq (fun K3 hK3 => ?_)
  refine c_seq (fun K4 hK4 => ?_)
  refine c_region ?_
  refine tp rfl (lv_assign rfl) ?_
  refine t_done ?_
  refine q_then_n (hK4 _ _ ?_)
  refine c_block ?_
  refine c_loop (γ := (Nat)) (fun (k : Nat) => k ≤ ms.length) (fun (k : Nat) => [(0, (.pointer (some ⟨p, 0, none⟩))), (1, (.slice bl nw cl)), (4, (.int .i64 0)), (5, (.bool false)), (6, (.bool (anyPos (costsL (ms.take k) ws)))), (7, (.int .i64 ((k : Nat) : Int)))]) (fun (k : Nat) => (Blk p [(.int .i64 q), (.slice bs1 ms.length cp2), (.int .i64 ((a : Nat) : Int))] 57) :: (SlV 59 3 (.slice bs1 ms.length cp2) ms.length (recs m3F ms)) :: R) (fun (k : Nat) => ms.length - k) (0) (by omega) ⟨rfl, rfl, rfl, rfl, rfl, rfl, trivial⟩ (fun _ h => h) ?_
  rintro k K5 hF hK5
  try dsimp only at hF hK5 ⊢
  refine c_seq (fun K6 hK6 => ?_)
  refine c_seq (fun K7 hK7 => ?_)
  refine c_region ?_
  refine tp rfl (lv_move rfl) ?_
  refine tp rfl (lv_move rfl) ?_
  refine tp rfl (lv_nilCheck rfl) ?_
  refine tp rfl (lv_fieldAddr (o' := 1) Try.underlying57 rfl Try.sizeOf55 rfl rfl) ?_
  refine tp rfl (lv_load Try.isAgg55 rfl (gives_blk (.head _) rfl)) ?_
  refine tp rfl (lv_len Try.underlying55 rfl rfl) ?_
  by_cases h5 : ((k : Nat) : Int) < ((ms.length : Nat) : Int)
  · -- yes
    refine tp rfl (lv_lss rfl rfl (decide_eq_true h5)) ?_
    refine t_done ?_
    refine q_then_n (hK7 _ _ ?_)
    refine c_true rfl ?_
    refine c_skip ?_
    refine q_then_n (hK6 _ _ ?_)
    refine c_seq (fun K8 hK8 => ?_)
    refine c_block ?_
    refine c_region ?_
    refine tp rfl (lv_move rfl) ?_
    refine tp rfl (lv_move rfl) ?_
    rcases hb6 : anyPos (costsL (ms.take k) ws) with _ | _
    · -- false
      refine t_guard rfl rfl ?_
      refine tp rfl (lv_move rfl) ?_
      refine t_guard rfl rfl ?_
      refine tp rfl (lv_move rfl) ?_
      refine t_guard rfl rfl ?_
      refine tp rfl (lv_nilCheck rfl) ?_
      refine t_guard rfl rfl ?_
      refine tp rfl (lv_fieldAddr (o' := 1) Try.underlying57 rfl Try.sizeOf55 rfl rfl) ?_
      refine t_guard rfl rfl ?_
      refine tp rfl (lv_load Try.isAgg55 rfl (gives_blk (.head _) rfl)) ?_
      refine t_guard rfl rfl ?_
      refine tp rfl (lv_move rfl) ?_
      refine t_guard rfl rfl ?_
      refine tp rfl (lv_indexAddr (k' := k * 3) Try.underlying55 Try.sizeOf59 rfl rfl hok3 (by omega) (by omega) (by omega)) ?_
      refine t_guard rfl rfl ?_
      refine tp rfl (lv_fieldAddr_ad (o' := k * 3) Try.underlying59 rfl Try.sizeOf3 rfl rfl) ?_
      refine t_guard rfl rfl ?_
      refine tp rfl (lv_load Try.isAgg3 rfl (gives_sl (.tail _ (.head _)) ((recs_get (k := k) (j := 0) m3F_len (d := M3.z) (by omega) (Nat.le_of_ble_eq_true rfl)).trans rfl))) ?_
      refine t_guard rfl rfl ?_
      refine tc rfl (en_fn Try.call29 rfl) (rcost_ok ws hwl ((ms.getD k M3.z).id) (Rd.cons (Rd.cons hw)) okl (by omega)) ?_
      rintro _ _ ⟨rfl, rfl⟩
      refine t_guard rfl rfl ?_
      refine tp rfl (lv_gtr rfl rfl rfl) ?_
      refine tp rfl (lv_pick_f rfl rfl) ?_
      refine tp rfl (lv_assign rfl) ?_
      refine t_done ?_
      refine q_in_n ?_
      refine q_then_n (hK8 _ _ ?_)
      refine c_region ?_
      refine tp rfl (lv_move rfl) ?_
      refine tp rfl (lv_add (c := ((k + 1 : Nat) : Int)) rfl rfl (wr_i64_succ (by omega))) ?_
      refine tp rfl (lv_assign rfl) ?_
      refine t_done ?_
      refine q_then_n ?_
      exact t_weak (by exact ⟨rfl, rfl, rfl, rfl, (by rw [anyT_succ (by omega), hb6, Bool.false_or]; rfl), rfl, trivial⟩) ((hK5 (k + 1) (by omega) (by omega)))
    · -- true
      refine t_skip rfl rfl rfl ?_
      refine t_skip rfl rfl rfl ?_
      refine t_skip rfl rfl rfl ?_
      refine t_skip rfl rfl rfl ?_
      refine t_skip rfl rfl rfl ?_
      refine t_skip rfl rfl rfl ?_
      refine t_skip rfl rfl rfl ?_
      refine t_skip rfl rfl rfl ?_
      refine t_skip rfl rfl rfl ?_
      refine t_skip rfl rfl rfl ?_
      refine t_skip rfl rfl rfl ?_
      refine tp rfl (lv_pick_t rfl rfl) ?_
      refine tp rfl (lv_assign rfl) ?_
      refine t_done ?_
      refine q_in_n ?_
      refine q_then_n (hK8 _ _ ?_)
      refine c_region ?_
      refine tp rfl (lv_move rfl) ?_
      refine tp rfl (lv_add (c := ((k + 1 : Nat) : Int)) rfl rfl (wr_i64_succ (by omega))) ?_
      refine tp rfl (lv_assign rfl) ?_
      refine t_done ?_
      refine q_then_n ?_
      exact t_weak (by exact ⟨rfl, rfl, rfl, rfl, (by rw [anyT_succ (by omega), hb6, Bool.true_or]; rfl), rfl, trivial⟩) ((hK5 (k + 1) (by omega) (by omega)))
  · -- no
    refine tp rfl (lv_lss rfl rfl (decide_eq_false h5)) ?_
    refine t_done ?_
    refine q_then_n (hK7 _ _ ?_)
    refine c_false rfl ?_
    refine c_exit ?_
    refine q_then_x ?_
    refine q_then_x ?_
    refine q_in_x ?_
    refine q_then_n (hK3 _ _ ?_)
    refine c_seq (fun K8 hK8 => ?_)
    refine c_seq (fun K9 hK9 => ?_)
    refine c_region ?_
    rw [show anyPos (costsL (ms.take k) ws) = false from by rw [List.take_of_length_le (by omega)]; exact hany]
    refine tp rfl (lv_move rfl) ?_
    refine tp rfl (lv_not (c := true) rfl rfl) ?_
    refine t_done ?_
    refine q_then_n (hK9 _ _ ?_)
    refine c_true rfl ?_
    refine c_seq (fun K10 hK10 => ?_)
    refine c_region ?_
    refine tp rfl (lv_assign rfl) ?_
    refine tp rfl (lv_assign rfl) ?_
    refine t_done ?_
    refine q_then_n (hK10 _ _ ?_)
    refine c_ret ?_
    refine q_then_r ?_
    refine t_f1 ?_
    refine t_f1 ?_
    refine t_shutRT rfl rfl hok3 hle4 ?_
    refine q_ret2 rfl rfl rfl ?_
    exact ⟨rfl, rfl⟩

set_option maxHeartbeats 4000000 in
theorem rtake_ok {R : List HP} {p a nw cl : Nat} {q : Int} {ms : List M3} {bl : Option Addr} (ws : List (Int × Int)) (hwl : ws.length = nw) (hw : Rd R bl (pairs ws)) (okl : SlOk bl nw) (lw : nw ≤ 1000000) (hb : ms.length ≤ 50000) (hany : anyPos (costsL ms ws) = true ∧ TB q ms a ∧ a < ms.length ∧ (0 ≤ q ∧ q ≤ 1048576)) {mt : List M3} {ta : Nat} (ht : TakeR q (costsL ms ws) (ms, a) (mt, ta)) :
    Ok Try.prog 21 [(.pointer (some ⟨p, 0, none⟩)), (.slice bl nw cl)] ((RTurnsO p q ms a) :: R)
      (fun v M => v = .tuple #[.int .i64 (mt.getD ta M3.z).id, .bool true] ∧ M = RTurnsO p q (setC mt ta ((mt.getD ta M3.z).c - (costsL ms ws).getD ta 0)) ta :: R) := by
  refine ok_of (N := 135) Try.func21 rfl rfl rfl (fun W => ?_)
  obtain ⟨hany, htb0, ha0, hq⟩ := hany
  have hcb := costsL_bd ms ws
  refine t_openRT (fun bs1 cp2 hok3 hle4 => ?_)
  refine c_seq (fun K1 hK1 => ?_)
  refine c_region ?_
  refine tp rfl (lv_assign rfl) ?_
  refine tp rfl (lv_assign rfl) ?_
  refine t_done ?_
  refine q_then_n (hK1 _ _ ?_)
  refine c_seq (fun K2 hK2 => ?_)
  refine c_region ?_
  refine tp rfl (lv_assign rfl) ?_
  refine t_done ?_
  refine q_then_n (hK2 _ _ ?_)
  refine c_seq (fun K3 hK3 => ?_)
  refine c_seq (fun K4 hK4 => ?_)
  refine c_region ?_
  refine tp rfl (lv_assign rfl) ?_
  refine t_done ?_
  refine q_then_n (hK4 _ _ ?_)
  refine c_block ?_
  refine c_loop (γ := (Nat)) (fun (k : Nat) => k ≤ ms.length) (fun (k : Nat) => [(0, (.pointer (some ⟨p, 0, none⟩))), (1, (.slice bl nw cl)), (4, (.int .i64 0)), (5, (.bool false)), (6, (.bool (anyPos (costsL (ms.take k) ws)))), (7, (.int .i64 ((k : Nat) : Int)))]) (fun (k : Nat) => (Blk p [(.int .i64 q), (.slice bs1 ms.length cp2), (.int .i64 ((a : Nat) : Int))] 57) :: (SlV 59 3 (.slice bs1 ms.length cp2) ms.length (recs m3F ms)) :: R) (fun (k : Nat) => ms.length - k) (0) (by omega) ⟨rfl, rfl, rfl, rfl, rfl, rfl, trivial⟩ (fun _ h => h) ?_
  rintro k K5 hF hK5
  try dsimp only at hF hK5 ⊢
  refine c_seq (fun K6 hK6 => ?_)
  refine c_seq (fun K7 hK7 => ?_)
  refine c_region ?_
  refine tp rfl (lv_move rfl) ?_
  refine tp rfl (lv_move rfl) ?_
  refine tp rfl (lv_nilCheck rfl) ?_
  refine tp rfl (lv_fieldAddr (o' := 1) Try.underlying57 rfl Try.sizeOf55 rfl rfl) ?_
  refine tp rfl (lv_load Try.isAgg55 rfl (gives_blk (.head _) rfl)) ?_
  refine tp rfl (lv_len Try.underlying55 rfl rfl) ?_
  by_cases h5 : ((k : Nat) : Int) < ((ms.length : Nat) : Int)
  · -- yes
    refine tp rfl (lv_lss rfl rfl (decide_eq_true h5)) ?_
    refine t_done ?_
    refine q_then_n (hK7 _ _ ?_)
    refine c_true rfl ?_
    refine c_skip ?_
    refine q_then_n (hK6 _ _ ?_)
    refine c_seq (fun K8 hK8 => ?_)
    refine c_block ?_
    refine c_region ?_
    refine tp rfl (lv_move rfl) ?_
    refine tp rfl (lv_move rfl) ?_
    rcases hb6 : anyPos (costsL (ms.take k) ws) with _ | _
    · -- false
      refine t_guard rfl rfl ?_
      refine tp rfl (lv_move rfl) ?_
      refine t_guard rfl rfl ?_
      refine tp rfl (lv_move rfl) ?_
      refine t_guard rfl rfl ?_
      refine tp rfl (lv_nilCheck rfl) ?_
      refine t_guard rfl rfl ?_
      refine tp rfl (lv_fieldAddr (o' := 1) Try.underlying57 rfl Try.sizeOf55 rfl rfl) ?_
      refine t_guard rfl rfl ?_
      refine tp rfl (lv_load Try.isAgg55 rfl (gives_blk (.head _) rfl)) ?_
      refine t_guard rfl rfl ?_
      refine tp rfl (lv_move rfl) ?_
      refine t_guard rfl rfl ?_
      refine tp rfl (lv_indexAddr (k' := k * 3) Try.underlying55 Try.sizeOf59 rfl rfl hok3 (by omega) (by omega) (by omega)) ?_
      refine t_guard rfl rfl ?_
      refine tp rfl (lv_fieldAddr_ad (o' := k * 3) Try.underlying59 rfl Try.sizeOf3 rfl rfl) ?_
      refine t_guard rfl rfl ?_
      refine tp rfl (lv_load Try.isAgg3 rfl (gives_sl (.tail _ (.head _)) ((recs_get (k := k) (j := 0) m3F_len (d := M3.z) (by omega) (Nat.le_of_ble_eq_true rfl)).trans rfl))) ?_
      refine t_guard rfl rfl ?_
      refine tc rfl (en_fn Try.call29 rfl) (rcost_ok ws hwl ((ms.getD k M3.z).id) (Rd.cons (Rd.cons hw)) okl (by omega)) ?_
      rintro _ _ ⟨rfl, rfl⟩
      refine t_guard rfl rfl ?_
      refine tp rfl (lv_gtr rfl rfl rfl) ?_
      refine tp rfl (lv_pick_f rfl rfl) ?_
      refine tp rfl (lv_assign rfl) ?_
      refine t_done ?_
      refine q_in_n ?_
      refine q_then_n (hK8 _ _ ?_)
      refine c_region ?_
      refine tp rfl (lv_move rfl) ?_
      refine tp rfl (lv_add (c := ((k + 1 : Nat) : Int)) rfl rfl (wr_i64_succ (by omega))) ?_
      refine tp rfl (lv_assign rfl) ?_
      refine t_done ?_
      refine q_then_n ?_
      exact t_weak (by exact ⟨rfl, rfl, rfl, rfl, (by rw [anyT_succ (by omega), hb6, Bool.false_or]; rfl), rfl, trivial⟩) ((hK5 (k + 1) (by omega) (by omega)))
    · -- true
      refine t_skip rfl rfl rfl ?_
      refine t_skip rfl rfl rfl ?_
      refine t_skip rfl rfl rfl ?_
      refine t_skip rfl rfl rfl ?_
      refine t_skip rfl rfl rfl ?_
      refine t_skip rfl rfl rfl ?_
      refine t_skip rfl rfl rfl ?_
      refine t_skip rfl rfl rfl ?_
      refine t_skip rfl rfl rfl ?_
      refine t_skip rfl rfl rfl ?_
      refine t_skip rfl rfl rfl ?_
      refine tp rfl (lv_pick_t rfl rfl) ?_
      refine tp rfl (lv_assign rfl) ?_
      refine t_done ?_
      refine q_in_n ?_
      refine q_then_n (hK8 _ _ ?_)
      refine c_region ?_
      refine tp rfl (lv_move rfl) ?_
      refine tp rfl (lv_add (c := ((k + 1 : Nat) : Int)) rfl rfl (wr_i64_succ (by omega))) ?_
      refine tp rfl (lv_assign rfl) ?_
      refine t_done ?_
      refine q_then_n ?_
      exact t_weak (by exact ⟨rfl, rfl, rfl, rfl, (by rw [anyT_succ (by omega), hb6, Bool.true_or]; rfl), rfl, trivial⟩) ((hK5 (k + 1) (by omega) (by omega)))
  · -- no
    refine tp rfl (lv_lss rfl rfl (decide_eq_false h5)) ?_
    refine t_done ?_
    refine q_then_n (hK7 _ _ ?_)
    refine c_false rfl ?_
    refine c_exit ?_
    refine q_then_x ?_
    refine q_then_x ?_
    refine q_in_x ?_
    refine q_then_n (hK3 _ _ ?_)
    refine c_seq (fun K8 hK8 => ?_)
    refine c_seq (fun K9 hK9 => ?_)
    refine c_region ?_
    rw [show anyPos (costsL (ms.take k) ws) = true from by rw [List.take_of_length_le (by omega)]; exact hany]
    refine tp rfl (lv_move rfl) ?_
    refine tp rfl (lv_not (c := false) rfl rfl) ?_
    refine t_done ?_
    refine q_then_n (hK9 _ _ ?_)
    refine c_false rfl ?_
    refine c_skip ?_
    refine q_then_n (hK8 _ _ ?_)
    refine c_block ?_
    obtain ⟨k0, hk0⟩ := id ht
    refine c_loop (γ := (Nat) × (List M3) × (Nat)) (fun (kk, mx, ax) => Sp.runN q (costsL ms ws) kk (mx, ax) = some (mt, ta) ∧ TB q mx ax ∧ SameN ms mx ∧ ax < ms.length) (fun (kk, mx, ax) => [(0, (.pointer (some ⟨p, 0, none⟩))), (1, (.slice bl nw cl)), (6, (.bool true)), (7, (.int .i64 ((k : Nat) : Int))), (17, (.bool false)), (35, (.bool false))]) (fun (kk, mx, ax) => (Blk p [(.int .i64 q), (.slice bs1 ms.length cp2), (.int .i64 ((ax : Nat) : Int))] 57) :: (SlV 59 3 (.slice bs1 ms.length cp2) ms.length (recs m3F mx)) :: R) (fun (kk, mx, ax) => kk) (k0, ms, a) ⟨hk0, htb0, SameN.refl _, ha0⟩ ⟨rfl, rfl, rfl, rfl, rfl, rfl, trivial⟩ (fun _ h => h) ?_
    rintro ⟨kk, mx, ax⟩ K10 hF hK10
    try dsimp only at hF hK10 ⊢
    obtain ⟨hk, htb, hsn, hal0⟩ := hF
    have hlx := hsn.len
    have hal : ax < mx.length := by omega
    have hcr := htb.cr ax hal
    rw [if_pos rfl] at hcr
    have hga := htb.gn hq hal
    have hca := hcb ax
    have hco : costOf ws (mx.getD ax M3.z).id = (costsL ms ws).getD ax 0 := hsn.cost hal0
    refine c_block ?_
    refine c_seq (fun K11 hK11 => ?_)
    refine c_draw (γ := Nat) (n := 12) Try.mixed rfl rfl (fun (b7 : Nat) S => True) (fun (b7 : Nat) => [(0, 36, (.pointer (some ⟨p, 0, none⟩))), (1, 37, (.pointer (some ⟨p, 0, none⟩))), (2, 38, (.pointer (some ⟨p, 1, none⟩))), (3, 39, (.slice bs1 ms.length cp2)), (4, 40, (.pointer (some ⟨p, 0, none⟩))), (5, 41, (.pointer (some ⟨p, 0, none⟩))), (6, 42, (.pointer (some ⟨p, 2, none⟩))), (7, 43, (.int .i64 ((ax : Nat) : Int))), (8, 44, (.pointer (some (ad bs1 (ax * 3))))), (9, 45, (.agg #[(.int .i64 ((mx.getD ax M3.z).id)), (.int .i64 ((mx.getD ax M3.z).w)), (.int .i64 ((mx.getD ax M3.z).c))])), (10, 8, (.pointer (some ⟨b7, 0, none⟩)))]) (fun (b7 : Nat) S => (Blk p [(.int .i64 q), (.slice bs1 ms.length cp2), (.int .i64 ((ax : Nat) : Int))] 57) :: (SlV 59 3 (.slice bs1 ms.length cp2) ms.length (recs m3F mx)) :: (bif S 11 then (Blk b7 [(.int .i64 ((mx.getD ax M3.z).id)), (.int .i64 ((mx.getD ax M3.z).w)), (.int .i64 ((mx.getD ax M3.z).c))] 59) else (bif S 10 then (Blk b7 [(.int .i64 0), (.int .i64 0), (.int .i64 0)] 59) else Emp)) :: R) (0) trivial (fun _ h => sat_emps [_, _] 1 h) (fun _ _ h => h) ?_ ?_
    · -- steps
      refine ⟨?_, ?_, ?_, ?_, ?_, ?_, ?_, ?_, ?_, ?_, ?_, ?_, trivial⟩
      · -- 0
        rintro b7 S hF hS D hp K hK
        try dsimp only at hF ⊢
        refine d_need (small := [(0, (.pointer (some ⟨p, 0, none⟩)))]) ⟨look_b rfl rfl, trivial⟩ ?_
        refine tp rfl (lv_move rfl) ?_
        exact d_closes ⟨look_b rfl rfl, trivial⟩ 0 rfl rfl rfl hS (AgreeR.refl _) (t_sat (fun _ h => h) (hK b7 trivial))
      · -- 1
        rintro b7 S hF hS D hp K hK
        try dsimp only at hF ⊢
        have s0 := hp 0 rfl
        refine d_need (small := [(36, (.pointer (some ⟨p, 0, none⟩)))]) ⟨look_row rfl 0 rfl s0, trivial⟩ ?_
        refine tp rfl (lv_nilCheck rfl) ?_
        exact d_closes ⟨look_row rfl 0 rfl s0, trivial⟩ 1 rfl rfl rfl hS (AgreeR.refl _) (t_sat (fun _ h => h) (hK b7 trivial))
      · -- 2
        rintro b7 S hF hS D hp K hK
        try dsimp only at hF ⊢
        have s1 := hp 1 rfl
        refine d_need (small := [(37, (.pointer (some ⟨p, 0, none⟩)))]) ⟨look_row rfl 1 rfl s1, trivial⟩ ?_
        refine tp rfl (lv_fieldAddr (o' := 1) Try.underlying57 rfl Try.sizeOf55 rfl rfl) ?_
        exact d_closes ⟨look_row rfl 1 rfl s1, trivial⟩ 2 rfl rfl rfl hS (AgreeR.refl _) (t_sat (fun _ h => h) (hK b7 trivial))
      · -- 3
        rintro b7 S hF hS D hp K hK
        try dsimp only at hF ⊢
        have s2 := hp 2 rfl
        refine d_need (small := [(38, (.pointer (some ⟨p, 1, none⟩)))]) ⟨look_row rfl 2 rfl s2, trivial⟩ ?_
        refine tp rfl (lv_load Try.isAgg55 rfl (gives_blk (.head _) rfl)) ?_
        exact d_closes ⟨look_row rfl 2 rfl s2, trivial⟩ 3 rfl rfl rfl hS (AgreeR.refl _) (t_sat (fun _ h => h) (hK b7 trivial))
      · -- 4
        rintro b7 S hF hS D hp K hK
        try dsimp only at hF ⊢
        refine d_need (small := [(0, (.pointer (some ⟨p, 0, none⟩)))]) ⟨look_b rfl rfl, trivial⟩ ?_
        refine tp rfl (lv_move rfl) ?_
        exact d_closes ⟨look_b rfl rfl, trivial⟩ 4 rfl rfl rfl hS (AgreeR.refl _) (t_sat (fun _ h => h) (hK b7 trivial))
      · -- 5
        rintro b7 S hF hS D hp K hK
        try dsimp only at hF ⊢
        have s4 := hp 4 rfl
        refine d_need (small := [(40, (.pointer (some ⟨p, 0, none⟩)))]) ⟨look_row rfl 4 rfl s4, trivial⟩ ?_
        refine tp rfl (lv_nilCheck rfl) ?_
        exact d_closes ⟨look_row rfl 4 rfl s4, trivial⟩ 5 rfl rfl rfl hS (AgreeR.refl _) (t_sat (fun _ h => h) (hK b7 trivial))
      · -- 6
        rintro b7 S hF hS D hp K hK
        try dsimp only at hF ⊢
        have s5 := hp 5 rfl
        refine d_need (small := [(41, (.pointer (some ⟨p, 0, none⟩)))]) ⟨look_row rfl 5 rfl s5, trivial⟩ ?_
        refine tp rfl (lv_fieldAddr (o' := 2) Try.underlying57 rfl Try.sizeOf3 rfl rfl) ?_
        exact d_closes ⟨look_row rfl 5 rfl s5, trivial⟩ 6 rfl rfl rfl hS (AgreeR.refl _) (t_sat (fun _ h => h) (hK b7 trivial))
      · -- 7
        rintro b7 S hF hS D hp K hK
        try dsimp only at hF ⊢
        have s6 := hp 6 rfl
        refine d_need (small := [(42, (.pointer (some ⟨p, 2, none⟩)))]) ⟨look_row rfl 6 rfl s6, trivial⟩ ?_
        refine tp rfl (lv_load Try.isAgg3 rfl (gives_blk (.head _) rfl)) ?_
        exact d_closes ⟨look_row rfl 6 rfl s6, trivial⟩ 7 rfl rfl rfl hS (AgreeR.refl _) (t_sat (fun _ h => h) (hK b7 trivial))
      · -- 8
        rintro b7 S hF hS D hp K hK
        try dsimp only at hF ⊢
        have s3 := hp 3 rfl
        have s7 := hp 7 rfl
        refine d_need (small := [(39, (.slice bs1 ms.length cp2)), (43, (.int .i64 ((ax : Nat) : Int)))]) ⟨look_row rfl 3 rfl s3, look_row rfl 7 rfl s7, trivial⟩ ?_
        refine tp rfl (lv_indexAddr (k' := ax * 3) Try.underlying55 Try.sizeOf59 rfl rfl hok3 (by omega) (by omega) (by omega)) ?_
        exact d_closes ⟨look_row rfl 3 rfl s3, look_row rfl 7 rfl s7, trivial⟩ 8 rfl rfl rfl hS (AgreeR.refl _) (t_sat (fun _ h => h) (hK b7 trivial))
      · -- 9
        rintro b7 S hF hS D hp K hK
        try dsimp only at hF ⊢
        have s8 := hp 8 rfl
        refine d_need (small := [(44, (.pointer (some (ad bs1 (ax * 3)))))]) ⟨look_row rfl 8 rfl s8, trivial⟩ ?_
        refine tp rfl (lv_loadAgg_ad (cs := [(.int .i64 ((mx.getD ax M3.z).id)), (.int .i64 ((mx.getD ax M3.z).w)), (.int .i64 ((mx.getD ax M3.z).c))]) Try.isAgg59 Try.sizeOf59 rfl (gives_all3 (gives_sl (.tail _ (.head _)) ((recs_get (k := ax) (j := 0) m3F_len (d := M3.z) (by omega) (Nat.le_of_ble_eq_true rfl)).trans rfl)) (gives_sl (.tail _ (.head _)) ((recs_get (k := ax) (j := 1) m3F_len (d := M3.z) (by omega) (Nat.le_of_ble_eq_true rfl)).trans rfl)) (gives_sl (.tail _ (.head _)) ((recs_get (k := ax) (j := 2) m3F_len (d := M3.z) (by omega) (Nat.le_of_ble_eq_true rfl)).trans rfl)))) ?_
        exact d_closes ⟨look_row rfl 8 rfl s8, trivial⟩ 9 rfl rfl rfl hS (AgreeR.refl _) (t_sat (fun _ h => h) (hK b7 trivial))
      · -- 10
        rintro b7 S hF hS D hp K hK
        try dsimp only at hF ⊢
        refine d_need (small := []) trivial ?_
        refine t_f2 ?_
        refine t_cF (nf hS D (k := 11) (i := 10) rfl) ?_
        refine t_cF hS ?_
        refine tm rfl (mv_alloc Try.zeroValue59 rfl) ?_
        rintro _ _ ⟨b7, rfl, rfl⟩
        refine t_f1 ?_
        refine t_wF (A := (Blk b7 [(.int .i64 0), (.int .i64 0), (.int .i64 0)] 59)) hS ?_
        refine t_wF (A := (Blk b7 [(.int .i64 ((mx.getD ax M3.z).id)), (.int .i64 ((mx.getD ax M3.z).w)), (.int .i64 ((mx.getD ax M3.z).c))] 59)) (nf hS D (k := 11) (i := 10) rfl) ?_
        refine t_f1 ?_
        refine t_wF (A := (Blk b7 [(.int .i64 ((mx.getD ax M3.z).id)), (.int .i64 ((mx.getD ax M3.z).w)), (.int .i64 ((mx.getD ax M3.z).c))] 59)) (nf hS D (k := 11) (i := 10) rfl) ?_
        refine t_f1 ?_
        refine t_f3 ?_
        refine t_f3 ?_
        refine t_f3 ?_
        refine t_sat (fun _ h => sat_put [_, _] h) ?_
        exact d_closes trivial 10 rfl rfl rfl hS (by exact ⟨.inl rfl, .inl rfl, .inl rfl, .inl rfl, .inl rfl, .inl rfl, .inl rfl, .inl rfl, .inl rfl, .inl rfl, .inr ⟨rfl, rfl, hS⟩, trivial⟩) (t_sat (fun _ h => h) (hK b7 trivial))
      · -- 11
        rintro b7 S hF hS D hp K hK
        try dsimp only at hF ⊢
        have s10 := hp 10 rfl
        have s9 := hp 9 rfl
        refine d_need (small := [(8, (.pointer (some ⟨b7, 0, none⟩))), (45, (.agg #[(.int .i64 ((mx.getD ax M3.z).id)), (.int .i64 ((mx.getD ax M3.z).w)), (.int .i64 ((mx.getD ax M3.z).c))]))]) ⟨look_row rfl 10 rfl s10, look_row rfl 9 rfl s9, trivial⟩ ?_
        refine t_f2 ?_
        refine t_cF hS ?_
        refine t_cT s10 ?_
        refine ts (sv_blkAgg (news := [(.int .i64 ((mx.getD ax M3.z).id)), (.int .i64 ((mx.getD ax M3.z).w)), (.int .i64 ((mx.getD ax M3.z).c))]) Try.sizeOf59 rfl rfl rfl rfl (Nat.le_of_ble_eq_true rfl) rfl) ?_
        refine t_f2 ?_
        refine t_f2 ?_
        exact d_closes0 ⟨look_row rfl 10 rfl s10, look_row rfl 9 rfl s9, trivial⟩ rfl (t_sat (fun _ h => h) (hK b7 trivial))
    · -- behind
      rintro b7 hF
      try dsimp only at hF ⊢
      refine t_weak (E' := [(0, (.pointer (some ⟨p, 0, none⟩))), (1, (.slice bl nw cl)), (6, (.bool true)), (7, (.int .i64 ((k : Nat) : Int))), (8, (.pointer (some ⟨b7, 0, none⟩))), (17, (.bool false)), (35, (.bool false))]) ⟨rfl, rfl, rfl, rfl, rfl, rfl, rfl, trivial⟩ ?_
      refine q_then_n (hK11 _ _ ?_)
      refine c_seq (fun K12 hK12 => ?_)
      refine c_region ?_
      refine tp rfl (lv_move rfl) ?_
      refine tp rfl (lv_fieldAddr (o' := 0) Try.underlying59 rfl Try.sizeOf3 rfl rfl) ?_
      refine tp rfl (lv_load Try.isAgg3 rfl (gives_blk (.tail _ (.tail _ (.head _))) rfl)) ?_
      refine tc rfl (en_fn Try.call29 rfl) (rcost_ok ws hwl ((mx.getD ax M3.z).id) (Rd.cons (Rd.cons (Rd.cons hw))) okl (by omega)) ?_
      rintro _ _ ⟨rfl, rfl⟩
      rw [show costOf ws ((mx.getD ax M3.z).id) = (costsL ms ws).getD ax 0 from hco]
      refine tp rfl (lv_assign rfl) ?_
      refine t_done ?_
      refine q_then_n (hK12 _ _ ?_)
      refine c_seq (fun K13 hK13 => ?_)
      refine c_seq (fun K14 hK14 => ?_)
      refine c_region ?_
      by_cases hc7 : ((costsL ms ws).getD ax 0) > 0 ∧ ((mx.getD ax M3.z).c) ≥ ((costsL ms ws).getD ax 0)
      · -- both
        have hc7a := hc7.1
        have hc7b := hc7.2
        refine tp rfl (lv_move rfl) ?_
        refine tp rfl (lv_gtr rfl rfl (decide_eq_true hc7.1)) ?_
        refine tp rfl (lv_move rfl) ?_
        refine t_guard rfl rfl ?_
        refine tp rfl (lv_fieldAddr (o' := 2) Try.underlying59 rfl Try.sizeOf3 rfl rfl) ?_
        refine t_guard rfl rfl ?_
        refine tp rfl (lv_load Try.isAgg3 rfl (gives_blk (.tail _ (.tail _ (.head _))) rfl)) ?_
        refine t_guard rfl rfl ?_
        refine tp rfl (lv_move rfl) ?_
        refine t_guard rfl rfl ?_
        refine tp rfl (lv_geq rfl rfl (decide_eq_true hc7.2)) ?_
        refine tp rfl (lv_pick_t rfl rfl) ?_
        refine t_done ?_
        refine q_then_n (hK14 _ _ ?_)
        refine c_true rfl ?_
        refine c_seq (fun K15 hK15 => ?_)
        refine c_draw (γ := Unit) (n := 15) Try.mixed rfl rfl (fun _ S => True) (fun _ => [(0, 58, (.pointer (some ⟨p, 0, none⟩))), (1, 59, (.pointer (some ⟨p, 0, none⟩))), (2, 60, (.pointer (some ⟨p, 1, none⟩))), (3, 61, (.slice bs1 ms.length cp2)), (4, 62, (.pointer (some ⟨p, 0, none⟩))), (5, 63, (.pointer (some ⟨p, 0, none⟩))), (6, 64, (.pointer (some ⟨p, 2, none⟩))), (7, 65, (.int .i64 ((ax : Nat) : Int))), (8, 66, (.pointer (some ⟨b7, 2, none⟩))), (9, 67, (.int .i64 ((mx.getD ax M3.z).c))), (10, 68, (.int .i64 ((costsL ms ws).getD ax 0))), (11, 69, (.int .i64 (((mx.getD ax M3.z).c) - ((costsL ms ws).getD ax 0)))), (12, 70, (.pointer (some (ad bs1 (ax * 3))))), (13, 71, (.pointer (some (ad bs1 (ax * 3 + 2)))))]) (fun _ S => (Blk p [(.int .i64 q), (.slice bs1 ms.length cp2), (.int .i64 ((ax : Nat) : Int))] 57) :: (bif S 14 then (SlV 59 3 (.slice bs1 ms.length cp2) ms.length (recs m3F (mx.set ax ⟨(mx.getD ax M3.z).id, (mx.getD ax M3.z).w, ((mx.getD ax M3.z).c) - ((costsL ms ws).getD ax 0)⟩))) else (SlV 59 3 (.slice bs1 ms.length cp2) ms.length (recs m3F mx))) :: (Blk b7 [(.int .i64 ((mx.getD ax M3.z).id)), (.int .i64 ((mx.getD ax M3.z).w)), (.int .i64 ((mx.getD ax M3.z).c))] 59) :: R) (()) trivial (fun _ h => h) (fun _ _ h => h) ?_ ?_
        · -- steps
         refine ⟨?_, ?_, ?_, ?_, ?_, ?_, ?_, ?_, ?_, ?_, ?_, ?_, ?_, ?_, ?_, trivial⟩
         · -- 0
          rintro _ S hF hS D hp K hK
          try dsimp only at hF ⊢
          refine d_need (small := [(0, (.pointer (some ⟨p, 0, none⟩)))]) ⟨look_b rfl rfl, trivial⟩ ?_
          refine tp rfl (lv_move rfl) ?_
          exact d_closes ⟨look_b rfl rfl, trivial⟩ 0 rfl rfl rfl hS (AgreeR.refl _) (t_sat (fun _ h => h) (hK () trivial))
         · -- 1
          rintro _ S hF hS D hp K hK
          try dsimp only at hF ⊢
          have s0 := hp 0 rfl
          refine d_need (small := [(58, (.pointer (some ⟨p, 0, none⟩)))]) ⟨look_row rfl 0 rfl s0, trivial⟩ ?_
          refine tp rfl (lv_nilCheck rfl) ?_
          exact d_closes ⟨look_row rfl 0 rfl s0, trivial⟩ 1 rfl rfl rfl hS (AgreeR.refl _) (t_sat (fun _ h => h) (hK () trivial))
         · -- 2
          rintro _ S hF hS D hp K hK
          try dsimp only at hF ⊢
          have s1 := hp 1 rfl
          refine d_need (small := [(59, (.pointer (some ⟨p, 0, none⟩)))]) ⟨look_row rfl 1 rfl s1, trivial⟩ ?_
          refine tp rfl (lv_fieldAddr (o' := 1) Try.underlying57 rfl Try.sizeOf55 rfl rfl) ?_
          exact d_closes ⟨look_row rfl 1 rfl s1, trivial⟩ 2 rfl rfl rfl hS (AgreeR.refl _) (t_sat (fun _ h => h) (hK () trivial))
         · -- 3
          rintro _ S hF hS D hp K hK
          try dsimp only at hF ⊢
          have s2 := hp 2 rfl
          refine d_need (small := [(60, (.pointer (some ⟨p, 1, none⟩)))]) ⟨look_row rfl 2 rfl s2, trivial⟩ ?_
          refine tp rfl (lv_load Try.isAgg55 rfl (gives_blk (.head _) rfl)) ?_
          exact d_closes ⟨look_row rfl 2 rfl s2, trivial⟩ 3 rfl rfl rfl hS (AgreeR.refl _) (t_sat (fun _ h => h) (hK () trivial))
         · -- 4
          rintro _ S hF hS D hp K hK
          try dsimp only at hF ⊢
          refine d_need (small := [(0, (.pointer (some ⟨p, 0, none⟩)))]) ⟨look_b rfl rfl, trivial⟩ ?_
          refine tp rfl (lv_move rfl) ?_
          exact d_closes ⟨look_b rfl rfl, trivial⟩ 4 rfl rfl rfl hS (AgreeR.refl _) (t_sat (fun _ h => h) (hK () trivial))
         · -- 5
          rintro _ S hF hS D hp K hK
          try dsimp only at hF ⊢
          have s4 := hp 4 rfl
          refine d_need (small := [(62, (.pointer (some ⟨p, 0, none⟩)))]) ⟨look_row rfl 4 rfl s4, trivial⟩ ?_
          refine tp rfl (lv_nilCheck rfl) ?_
          exact d_closes ⟨look_row rfl 4 rfl s4, trivial⟩ 5 rfl rfl rfl hS (AgreeR.refl _) (t_sat (fun _ h => h) (hK () trivial))
         · -- 6
          rintro _ S hF hS D hp K hK
          try dsimp only at hF ⊢
          have s5 := hp 5 rfl
          refine d_need (small := [(63, (.pointer (some ⟨p, 0, none⟩)))]) ⟨look_row rfl 5 rfl s5, trivial⟩ ?_
          refine tp rfl (lv_fieldAddr (o' := 2) Try.underlying57 rfl Try.sizeOf3 rfl rfl) ?_
          exact d_closes ⟨look_row rfl 5 rfl s5, trivial⟩ 6 rfl rfl rfl hS (AgreeR.refl _) (t_sat (fun _ h => h) (hK () trivial))
         · -- 7
          rintro _ S hF hS D hp K hK
          try dsimp only at hF ⊢
          have s6 := hp 6 rfl
          refine d_need (small := [(64, (.pointer (some ⟨p, 2, none⟩)))]) ⟨look_row rfl 6 rfl s6, trivial⟩ ?_
          refine tp rfl (lv_load Try.isAgg3 rfl (gives_blk (.head _) rfl)) ?_
          exact d_closes ⟨look_row rfl 6 rfl s6, trivial⟩ 7 rfl rfl rfl hS (AgreeR.refl _) (t_sat (fun _ h => h) (hK () trivial))
         · -- 8
          rintro _ S hF hS D hp K hK
          try dsimp only at hF ⊢
          refine d_need (small := [(8, (.pointer (some ⟨b7, 0, none⟩)))]) ⟨look_b rfl rfl, trivial⟩ ?_
          refine tp rfl (lv_fieldAddr (o' := 2) Try.underlying59 rfl Try.sizeOf3 rfl rfl) ?_
          exact d_closes ⟨look_b rfl rfl, trivial⟩ 8 rfl rfl rfl hS (AgreeR.refl _) (t_sat (fun _ h => h) (hK () trivial))
         · -- 9
          rintro _ S hF hS D hp K hK
          try dsimp only at hF ⊢
          have s8 := hp 8 rfl
          refine d_need (small := [(66, (.pointer (some ⟨b7, 2, none⟩)))]) ⟨look_row rfl 8 rfl s8, trivial⟩ ?_
          refine tp rfl (lv_load Try.isAgg3 rfl (gives_blk (.tail _ (.tail _ (.head _))) rfl)) ?_
          exact d_closes ⟨look_row rfl 8 rfl s8, trivial⟩ 9 rfl rfl rfl hS (AgreeR.refl _) (t_sat (fun _ h => h) (hK () trivial))
         · -- 10
          rintro _ S hF hS D hp K hK
          try dsimp only at hF ⊢
          refine d_need (small := [(9, (.int .i64 ((costsL ms ws).getD ax 0)))]) ⟨look_b rfl rfl, trivial⟩ ?_
          refine tp rfl (lv_move rfl) ?_
          exact d_closes ⟨look_b rfl rfl, trivial⟩ 10 rfl rfl rfl hS (AgreeR.refl _) (t_sat (fun _ h => h) (hK () trivial))
         · -- 11
          rintro _ S hF hS D hp K hK
          try dsimp only at hF ⊢
          have s9 := hp 9 rfl
          have s10 := hp 10 rfl
          refine d_need (small := [(67, (.int .i64 ((mx.getD ax M3.z).c))), (68, (.int .i64 ((costsL ms ws).getD ax 0)))]) ⟨look_row rfl 9 rfl s9, look_row rfl 10 rfl s10, trivial⟩ ?_
          refine tp rfl (lv_sub (c := ((mx.getD ax M3.z).c) - ((costsL ms ws).getD ax 0)) rfl rfl (wr_i64 (by omega) (by omega))) ?_
          exact d_closes ⟨look_row rfl 9 rfl s9, look_row rfl 10 rfl s10, trivial⟩ 11 rfl rfl rfl hS (AgreeR.refl _) (t_sat (fun _ h => h) (hK () trivial))
         · -- 12
          rintro _ S hF hS D hp K hK
          try dsimp only at hF ⊢
          have s3 := hp 3 rfl
          have s7 := hp 7 rfl
          refine d_need (small := [(61, (.slice bs1 ms.length cp2)), (65, (.int .i64 ((ax : Nat) : Int)))]) ⟨look_row rfl 3 rfl s3, look_row rfl 7 rfl s7, trivial⟩ ?_
          refine tp rfl (lv_indexAddr (k' := ax * 3) Try.underlying55 Try.sizeOf59 rfl rfl hok3 (by omega) (by omega) (by omega)) ?_
          exact d_closes ⟨look_row rfl 3 rfl s3, look_row rfl 7 rfl s7, trivial⟩ 12 rfl rfl rfl hS (AgreeR.refl _) (t_sat (fun _ h => h) (hK () trivial))
         · -- 13
          rintro _ S hF hS D hp K hK
          try dsimp only at hF ⊢
          have s12 := hp 12 rfl
          refine d_need (small := [(70, (.pointer (some (ad bs1 (ax * 3)))))]) ⟨look_row rfl 12 rfl s12, trivial⟩ ?_
          refine tp rfl (lv_fieldAddr_ad (o' := ax * 3 + 2) Try.underlying59 rfl Try.sizeOf3 rfl rfl) ?_
          exact d_closes ⟨look_row rfl 12 rfl s12, trivial⟩ 13 rfl rfl rfl hS (AgreeR.refl _) (t_sat (fun _ h => h) (hK () trivial))
         · -- 14
          rintro _ S hF hS D hp K hK
          try dsimp only at hF ⊢
          have s11 := hp 11 rfl
          have s13 := hp 13 rfl
          refine d_need (small := [(69, (.int .i64 (((mx.getD ax M3.z).c) - ((costsL ms ws).getD ax 0)))), (71, (.pointer (some (ad bs1 (ax * 3 + 2)))))]) ⟨look_row rfl 11 rfl s11, look_row rfl 13 rfl s13, trivial⟩ ?_
          refine t_f1 ?_
          refine t_cF hS ?_
          refine ts (sv_sl Try.sizeOf3 rfl rfl rfl (by rw [recs_len m3F_len]; omega) (recs_set (k := ax) (j := 2) m3F_len (d := M3.z) (x' := ⟨(mx.getD ax M3.z).id, (mx.getD ax M3.z).w, ((mx.getD ax M3.z).c) - ((costsL ms ws).getD ax 0)⟩) (by omega) (Nat.le_of_ble_eq_true rfl) rfl)) ?_
          refine t_f1 ?_
          exact d_closes0 ⟨look_row rfl 11 rfl s11, look_row rfl 13 rfl s13, trivial⟩ rfl (t_sat (fun _ h => h) (hK () trivial))
        · -- behind
         rintro _ hF
         try dsimp only at hF ⊢
         refine t_weak (E' := [(0, (.pointer (some ⟨p, 0, none⟩))), (1, (.slice bl nw cl)), (6, (.bool true)), (7, (.int .i64 ((k : Nat) : Int))), (8, (.pointer (some ⟨b7, 0, none⟩))), (9, (.int .i64 ((costsL ms ws).getD ax 0))), (17, (.bool false)), (35, (.bool false)), (57, (.bool true))]) ⟨rfl, rfl, rfl, rfl, rfl, rfl, rfl, rfl, rfl, trivial⟩ ?_
         refine q_then_n (hK15 _ _ ?_)
         refine c_seq (fun K16 hK16 => ?_)
         refine c_region ?_
         refine tp rfl (lv_fieldAddr (o' := 0) Try.underlying59 rfl Try.sizeOf3 rfl rfl) ?_
         refine tp rfl (lv_load Try.isAgg3 rfl (gives_blk (.tail _ (.tail _ (.head _))) rfl)) ?_
         refine tp rfl (lv_assign rfl) ?_
         refine tp rfl (lv_assign rfl) ?_
         refine t_done ?_
         refine q_then_n (hK16 _ _ ?_)
         refine c_ret ?_
         refine q_then_r ?_
         refine q_in_r ?_
         refine q_then_r ?_
         refine q_in_r ?_
         have hr : rdyT (costsL ms ws) (mx, ax) = true := rdyT_true.2 ⟨by show 0 < (costsL ms ws).getD ax 0; omega, by show (costsL ms ws).getD ax 0 ≤ (mx.getD ax M3.z).c; omega⟩
         obtain ⟨e1, e2⟩ := Prod.mk.inj (runN_here hk hr)
         subst e1; obtain rfl : ax = ta := e2.symm
         rw [show recs m3F (mt.set ax ⟨(mt.getD ax M3.z).id, (mt.getD ax M3.z).w, ((mt.getD ax M3.z).c) - ((costsL ms ws).getD ax 0)⟩) = recs m3F (setC mt ax ((mt.getD ax M3.z).c - (costsL ms ws).getD ax 0)) from rfl]
         refine t_f1 ?_
         refine t_f1 ?_
         refine t_shutRT rfl (by rw [setC_len]; exact hlx) hok3 hle4 ?_
         refine t_f1 ?_
         refine t_drop ?_
         refine q_ret2 rfl rfl rfl ?_
         exact ⟨rfl, rfl⟩
      · -- not both
        refine t_cut0 (E' := [(0, (.pointer (some ⟨p, 0, none⟩))), (1, (.slice bl nw cl)), (6, (.bool true)), (7, (.int .i64 ((k : Nat) : Int))), (8, (.pointer (some ⟨b7, 0, none⟩))), (9, (.int .i64 ((costsL ms ws).getD ax 0))), (17, (.bool false)), (35, (.bool false)), (57, (.bool false))]) ?_ (fun KK hKK => ?_)
        ·
         refine q_then_n (hK14 _ _ ?_)
         refine c_false rfl ?_
         refine c_skip ?_
         refine q_then_n (hK13 _ _ ?_)
         refine c_seq (fun K15 hK15 => ?_)
         refine c_seq (fun K16 hK16 => ?_)
         refine c_region ?_
         have hr : rdyT (costsL ms ws) (mx, ax) = false := rdyT_false.2 (fun hw => by have hw2 : 0 < (costsL ms ws).getD ax 0 := hw; show (mx.getD ax M3.z).c < (costsL ms ws).getD ax 0; omega)
         obtain ⟨k2, hk2, hk3⟩ := runN_next hk hr
         unfold Sp.stepT at hk3; simp only [hlx] at hk3
         refine tp rfl (lv_move rfl) ?_
         by_cases h8 : ((costsL ms ws).getD ax 0) = 0
         · -- yes
          refine tp rfl (lv_eql rfl rfl (beq_iff_eq.2 h8)) ?_
          refine t_done ?_
          refine q_then_n (hK16 _ _ ?_)
          refine c_true rfl ?_
          refine c_draw (γ := Unit) (n := 11) Try.mixed rfl rfl (fun _ S => True) (fun _ => [(0, 76, (.pointer (some ⟨p, 0, none⟩))), (1, 77, (.pointer (some ⟨p, 0, none⟩))), (2, 78, (.pointer (some ⟨p, 1, none⟩))), (3, 79, (.slice bs1 ms.length cp2)), (4, 80, (.pointer (some ⟨p, 0, none⟩))), (5, 81, (.pointer (some ⟨p, 0, none⟩))), (6, 82, (.pointer (some ⟨p, 2, none⟩))), (7, 83, (.int .i64 ((ax : Nat) : Int))), (8, 84, (.pointer (some (ad bs1 (ax * 3))))), (9, 85, (.pointer (some (ad bs1 (ax * 3 + 2)))))]) (fun _ S => (Blk p [(.int .i64 q), (.slice bs1 ms.length cp2), (.int .i64 ((ax : Nat) : Int))] 57) :: (bif S 10 then (SlV 59 3 (.slice bs1 ms.length cp2) ms.length (recs m3F (mx.set ax ⟨(mx.getD ax M3.z).id, (mx.getD ax M3.z).w, 0⟩))) else (SlV 59 3 (.slice bs1 ms.length cp2) ms.length (recs m3F mx))) :: (Blk b7 [(.int .i64 ((mx.getD ax M3.z).id)), (.int .i64 ((mx.getD ax M3.z).w)), (.int .i64 ((mx.getD ax M3.z).c))] 59) :: R) (()) trivial (fun _ h => h) (fun _ _ h => h) ?_ ?_
          · -- steps
           refine ⟨?_, ?_, ?_, ?_, ?_, ?_, ?_, ?_, ?_, ?_, ?_, trivial⟩
           · -- 0
            rintro _ S hF hS D hp K hK
            try dsimp only at hF ⊢
            refine d_need (small := [(0, (.pointer (some ⟨p, 0, none⟩)))]) ⟨look_b rfl rfl, trivial⟩ ?_
            refine tp rfl (lv_move rfl) ?_
            exact d_closes ⟨look_b rfl rfl, trivial⟩ 0 rfl rfl rfl hS (AgreeR.refl _) (t_sat (fun _ h => h) (hK () trivial))
           · -- 1
            rintro _ S hF hS D hp K hK
            try dsimp only at hF ⊢
            have s0 := hp 0 rfl
            refine d_need (small := [(76, (.pointer (some ⟨p, 0, none⟩)))]) ⟨look_row rfl 0 rfl s0, trivial⟩ ?_
            refine tp rfl (lv_nilCheck rfl) ?_
            exact d_closes ⟨look_row rfl 0 rfl s0, trivial⟩ 1 rfl rfl rfl hS (AgreeR.refl _) (t_sat (fun _ h => h) (hK () trivial))
           · -- 2
            rintro _ S hF hS D hp K hK
            try dsimp only at hF ⊢
            have s1 := hp 1 rfl
            refine d_need (small := [(77, (.pointer (some ⟨p, 0, none⟩)))]) ⟨look_row rfl 1 rfl s1, trivial⟩ ?_
            refine tp rfl (lv_fieldAddr (o' := 1) Try.underlying57 rfl Try.sizeOf55 rfl rfl) ?_
            exact d_closes ⟨look_row rfl 1 rfl s1, trivial⟩ 2 rfl rfl rfl hS (AgreeR.refl _) (t_sat (fun _ h => h) (hK () trivial))
           · -- 3
            rintro _ S hF hS D hp K hK
            try dsimp only at hF ⊢
            have s2 := hp 2 rfl
            refine d_need (small := [(78, (.pointer (some ⟨p, 1, none⟩)))]) ⟨look_row rfl 2 rfl s2, trivial⟩ ?_
            refine tp rfl (lv_load Try.isAgg55 rfl (gives_blk (.head _) rfl)) ?_
            exact d_closes ⟨look_row rfl 2 rfl s2, trivial⟩ 3 rfl rfl rfl hS (AgreeR.refl _) (t_sat (fun _ h => h) (hK () trivial))
           · -- 4
            rintro _ S hF hS D hp K hK
            try dsimp only at hF ⊢
            refine d_need (small := [(0, (.pointer (some ⟨p, 0, none⟩)))]) ⟨look_b rfl rfl, trivial⟩ ?_
            refine tp rfl (lv_move rfl) ?_
            exact d_closes ⟨look_b rfl rfl, trivial⟩ 4 rfl rfl rfl hS (AgreeR.refl _) (t_sat (fun _ h => h) (hK () trivial))
           · -- 5
            rintro _ S hF hS D hp K hK
            try dsimp only at hF ⊢
            have s4 := hp 4 rfl
            refine d_need (small := [(80, (.pointer (some ⟨p, 0, none⟩)))]) ⟨look_row rfl 4 rfl s4, trivial⟩ ?_
            refine tp rfl (lv_nilCheck rfl) ?_
            exact d_closes ⟨look_row rfl 4 rfl s4, trivial⟩ 5 rfl rfl rfl hS (AgreeR.refl _) (t_sat (fun _ h => h) (hK () trivial))
           · -- 6
            rintro _ S hF hS D hp K hK
            try dsimp only at hF ⊢
            have s5 := hp 5 rfl
            refine d_need (small := [(81, (.pointer (some ⟨p, 0, none⟩)))]) ⟨look_row rfl 5 rfl s5, trivial⟩ ?_
            refine tp rfl (lv_fieldAddr (o' := 2) Try.underlying57 rfl Try.sizeOf3 rfl rfl) ?_
            exact d_closes ⟨look_row rfl 5 rfl s5, trivial⟩ 6 rfl rfl rfl hS (AgreeR.refl _) (t_sat (fun _ h => h) (hK () trivial))
           · -- 7
            rintro _ S hF hS D hp K hK
            try dsimp only at hF ⊢
            have s6 := hp 6 rfl
            refine d_need (small := [(82, (.pointer (some ⟨p, 2, none⟩)))]) ⟨look_row rfl 6 rfl s6, trivial⟩ ?_
            refine tp rfl (lv_load Try.isAgg3 rfl (gives_blk (.head _) rfl)) ?_
            exact d_closes ⟨look_row rfl 6 rfl s6, trivial⟩ 7 rfl rfl rfl hS (AgreeR.refl _) (t_sat (fun _ h => h) (hK () trivial))
           · -- 8
            rintro _ S hF hS D hp K hK
            try dsimp only at hF ⊢
            have s3 := hp 3 rfl
            have s7 := hp 7 rfl
            refine d_need (small := [(79, (.slice bs1 ms.length cp2)), (83, (.int .i64 ((ax : Nat) : Int)))]) ⟨look_row rfl 3 rfl s3, look_row rfl 7 rfl s7, trivial⟩ ?_
            refine tp rfl (lv_indexAddr (k' := ax * 3) Try.underlying55 Try.sizeOf59 rfl rfl hok3 (by omega) (by omega) (by omega)) ?_
            exact d_closes ⟨look_row rfl 3 rfl s3, look_row rfl 7 rfl s7, trivial⟩ 8 rfl rfl rfl hS (AgreeR.refl _) (t_sat (fun _ h => h) (hK () trivial))
           · -- 9
            rintro _ S hF hS D hp K hK
            try dsimp only at hF ⊢
            have s8 := hp 8 rfl
            refine d_need (small := [(84, (.pointer (some (ad bs1 (ax * 3)))))]) ⟨look_row rfl 8 rfl s8, trivial⟩ ?_
            refine tp rfl (lv_fieldAddr_ad (o' := ax * 3 + 2) Try.underlying59 rfl Try.sizeOf3 rfl rfl) ?_
            exact d_closes ⟨look_row rfl 8 rfl s8, trivial⟩ 9 rfl rfl rfl hS (AgreeR.refl _) (t_sat (fun _ h => h) (hK () trivial))
           · -- 10
            rintro _ S hF hS D hp K hK
            try dsimp only at hF ⊢
            have s9 := hp 9 rfl
            refine d_need (small := [(85, (.pointer (some (ad bs1 (ax * 3 + 2)))))]) ⟨look_row rfl 9 rfl s9, trivial⟩ ?_
            refine t_f1 ?_
            refine t_cF hS ?_
            refine ts (sv_sl Try.sizeOf3 rfl rfl rfl (by rw [recs_len m3F_len]; omega) (recs_set (k := ax) (j := 2) m3F_len (d := M3.z) (x' := ⟨(mx.getD ax M3.z).id, (mx.getD ax M3.z).w, 0⟩) (by omega) (Nat.le_of_ble_eq_true rfl) rfl)) ?_
            refine t_f1 ?_
            exact d_closes0 ⟨look_row rfl 9 rfl s9, trivial⟩ rfl (t_sat (fun _ h => h) (hK () trivial))
          · -- behind
           rintro _ hF
           try dsimp only at hF ⊢
           refine t_weak (E' := [(0, (.pointer (some ⟨p, 0, none⟩))), (1, (.slice bl nw cl)), (6, (.bool true)), (7, (.int .i64 ((k : Nat) : Int))), (8, (.pointer (some ⟨b7, 0, none⟩))), (9, (.int .i64 ((costsL ms ws).getD ax 0))), (17, (.bool false)), (35, (.bool false)), (57, (.bool false)), (75, (.bool true))]) ⟨rfl, rfl, rfl, rfl, rfl, rfl, rfl, rfl, rfl, rfl, trivial⟩ ?_
           refine q_then_n (hK15 _ _ ?_)
           refine c_seq (fun K17 hK17 => ?_)
           rw [show recs m3F (mx.set ax ⟨(mx.getD ax M3.z).id, (mx.getD ax M3.z).w, 0⟩) = recs m3F (zeroT (costsL ms ws) mx ax) from congrArg _ (by unfold zeroT; first | rw [if_pos (by omega)]; rfl | rw [if_neg (by omega)])]
           have hzl : (zeroT (costsL ms ws) mx ax).length = ms.length := by rw [zeroT_len]; exact hlx
           have hnl := nxt_lt hal0
           refine c_draw (γ := Unit) (n := 15) Try.mixed rfl rfl (fun _ S => True) (fun _ => [(0, 86, (.pointer (some ⟨p, 0, none⟩))), (1, 87, (.pointer (some ⟨p, 0, none⟩))), (2, 88, (.pointer (some ⟨p, 0, none⟩))), (3, 89, (.pointer (some ⟨p, 2, none⟩))), (4, 90, (.int .i64 ((ax : Nat) : Int))), (5, 91, (.int .i64 ((ax + 1 : Nat) : Int))), (6, 92, (.pointer (some ⟨p, 0, none⟩))), (7, 93, (.pointer (some ⟨p, 0, none⟩))), (8, 94, (.pointer (some ⟨p, 1, none⟩))), (9, 95, (.slice bs1 ms.length cp2)), (10, 96, (.int .i64 ((ms.length : Nat) : Int))), (11, 97, (.int .i64 ((nxt ax ms.length : Nat) : Int))), (12, 98, (.pointer (some ⟨p, 0, none⟩))), (13, 99, (.pointer (some ⟨p, 2, none⟩)))]) (fun _ S => (bif S 14 then (Blk p [(.int .i64 q), (.slice bs1 ms.length cp2), (.int .i64 ((nxt ax ms.length : Nat) : Int))] 57) else (Blk p [(.int .i64 q), (.slice bs1 ms.length cp2), (.int .i64 ((ax : Nat) : Int))] 57)) :: (SlV 59 3 (.slice bs1 ms.length cp2) ms.length (recs m3F (zeroT (costsL ms ws) mx ax))) :: (Blk b7 [(.int .i64 ((mx.getD ax M3.z).id)), (.int .i64 ((mx.getD ax M3.z).w)), (.int .i64 ((mx.getD ax M3.z).c))] 59) :: R) (()) trivial (fun _ h => h) (fun _ _ h => h) ?_ ?_
           · -- steps
            refine ⟨?_, ?_, ?_, ?_, ?_, ?_, ?_, ?_, ?_, ?_, ?_, ?_, ?_, ?_, ?_, trivial⟩
            · -- 0
             rintro _ S hF hS D hp K hK
             try dsimp only at hF ⊢
             refine d_need (small := [(0, (.pointer (some ⟨p, 0, none⟩)))]) ⟨look_b rfl rfl, trivial⟩ ?_
             refine tp rfl (lv_move rfl) ?_
             exact d_closes ⟨look_b rfl rfl, trivial⟩ 0 rfl rfl rfl hS (AgreeR.refl _) (t_sat (fun _ h => h) (hK () trivial))
            · -- 1
             rintro _ S hF hS D hp K hK
             try dsimp only at hF ⊢
             refine d_need (small := [(0, (.pointer (some ⟨p, 0, none⟩)))]) ⟨look_b rfl rfl, trivial⟩ ?_
             refine tp rfl (lv_move rfl) ?_
             exact d_closes ⟨look_b rfl rfl, trivial⟩ 1 rfl rfl rfl hS (AgreeR.refl _) (t_sat (fun _ h => h) (hK () trivial))
            · -- 2
             rintro _ S hF hS D hp K hK
             try dsimp only at hF ⊢
             have s1 := hp 1 rfl
             refine d_need (small := [(87, (.pointer (some ⟨p, 0, none⟩)))]) ⟨look_row rfl 1 rfl s1, trivial⟩ ?_
             refine tp rfl (lv_nilCheck rfl) ?_
             exact d_closes ⟨look_row rfl 1 rfl s1, trivial⟩ 2 rfl rfl rfl hS (AgreeR.refl _) (t_sat (fun _ h => h) (hK () trivial))
            · -- 3
             rintro _ S hF hS D hp K hK
             try dsimp only at hF ⊢
             have s2 := hp 2 rfl
             refine d_need (small := [(88, (.pointer (some ⟨p, 0, none⟩)))]) ⟨look_row rfl 2 rfl s2, trivial⟩ ?_
             refine tp rfl (lv_fieldAddr (o' := 2) Try.underlying57 rfl Try.sizeOf3 rfl rfl) ?_
             exact d_closes ⟨look_row rfl 2 rfl s2, trivial⟩ 3 rfl rfl rfl hS (AgreeR.refl _) (t_sat (fun _ h => h) (hK () trivial))
            · -- 4
             rintro _ S hF hS D hp K hK
             try dsimp only at hF ⊢
             have s3 := hp 3 rfl
             refine d_need (small := [(89, (.pointer (some ⟨p, 2, none⟩)))]) ⟨look_row rfl 3 rfl s3, trivial⟩ ?_
             refine tp rfl (lv_load Try.isAgg3 rfl (gives_blk (mem_cF (nf hS D (k := 14) (i := 4) rfl) (.head _)) rfl)) ?_
             exact d_closes ⟨look_row rfl 3 rfl s3, trivial⟩ 4 rfl rfl rfl hS (AgreeR.refl _) (t_sat (fun _ h => h) (hK () trivial))
            · -- 5
             rintro _ S hF hS D hp K hK
             try dsimp only at hF ⊢
             have s4 := hp 4 rfl
             refine d_need (small := [(90, (.int .i64 ((ax : Nat) : Int)))]) ⟨look_row rfl 4 rfl s4, trivial⟩ ?_
             refine tp rfl (lv_add (c := ((ax + 1 : Nat) : Int)) rfl rfl (wr_i64_succ (by omega))) ?_
             exact d_closes ⟨look_row rfl 4 rfl s4, trivial⟩ 5 rfl rfl rfl hS (AgreeR.refl _) (t_sat (fun _ h => h) (hK () trivial))
            · -- 6
             rintro _ S hF hS D hp K hK
             try dsimp only at hF ⊢
             refine d_need (small := [(0, (.pointer (some ⟨p, 0, none⟩)))]) ⟨look_b rfl rfl, trivial⟩ ?_
             refine tp rfl (lv_move rfl) ?_
             exact d_closes ⟨look_b rfl rfl, trivial⟩ 6 rfl rfl rfl hS (AgreeR.refl _) (t_sat (fun _ h => h) (hK () trivial))
            · -- 7
             rintro _ S hF hS D hp K hK
             try dsimp only at hF ⊢
             have s6 := hp 6 rfl
             refine d_need (small := [(92, (.pointer (some ⟨p, 0, none⟩)))]) ⟨look_row rfl 6 rfl s6, trivial⟩ ?_
             refine tp rfl (lv_nilCheck rfl) ?_
             exact d_closes ⟨look_row rfl 6 rfl s6, trivial⟩ 7 rfl rfl rfl hS (AgreeR.refl _) (t_sat (fun _ h => h) (hK () trivial))
            · -- 8
             rintro _ S hF hS D hp K hK
             try dsimp only at hF ⊢
             have s7 := hp 7 rfl
             refine d_need (small := [(93, (.pointer (some ⟨p, 0, none⟩)))]) ⟨look_row rfl 7 rfl s7, trivial⟩ ?_
             refine tp rfl (lv_fieldAddr (o' := 1) Try.underlying57 rfl Try.sizeOf55 rfl rfl) ?_
             exact d_closes ⟨look_row rfl 7 rfl s7, trivial⟩ 8 rfl rfl rfl hS (AgreeR.refl _) (t_sat (fun _ h => h) (hK () trivial))
            · -- 9
             rintro _ S hF hS D hp K hK
             try dsimp only at hF ⊢
             have s8 := hp 8 rfl
             refine d_need (small := [(94, (.pointer (some ⟨p, 1, none⟩)))]) ⟨look_row rfl 8 rfl s8, trivial⟩ ?_
             refine tp rfl (lv_load Try.isAgg55 rfl (gives_blk (mem_cF (nf hS D (k := 14) (i := 9) rfl) (.head _)) rfl)) ?_
             exact d_closes ⟨look_row rfl 8 rfl s8, trivial⟩ 9 rfl rfl rfl hS (AgreeR.refl _) (t_sat (fun _ h => h) (hK () trivial))
            · -- 10
             rintro _ S hF hS D hp K hK
             try dsimp only at hF ⊢
             have s9 := hp 9 rfl
             refine d_need (small := [(95, (.slice bs1 ms.length cp2))]) ⟨look_row rfl 9 rfl s9, trivial⟩ ?_
             refine tp rfl (lv_len Try.underlying55 rfl rfl) ?_
             exact d_closes ⟨look_row rfl 9 rfl s9, trivial⟩ 10 rfl rfl rfl hS (AgreeR.refl _) (t_sat (fun _ h => h) (hK () trivial))
            · -- 11
             rintro _ S hF hS D hp K hK
             try dsimp only at hF ⊢
             have s5 := hp 5 rfl
             have s10 := hp 10 rfl
             refine d_need (small := [(91, (.int .i64 ((ax + 1 : Nat) : Int))), (96, (.int .i64 ((ms.length : Nat) : Int)))]) ⟨look_row rfl 5 rfl s5, look_row rfl 10 rfl s10, trivial⟩ ?_
             refine tp rfl (lv_rem (c := ((nxt ax ms.length : Nat) : Int)) rfl rfl (by omega) (nxt_mod hal0)) ?_
             exact d_closes ⟨look_row rfl 5 rfl s5, look_row rfl 10 rfl s10, trivial⟩ 11 rfl rfl rfl hS (AgreeR.refl _) (t_sat (fun _ h => h) (hK () trivial))
            · -- 12
             rintro _ S hF hS D hp K hK
             try dsimp only at hF ⊢
             have s0 := hp 0 rfl
             refine d_need (small := [(86, (.pointer (some ⟨p, 0, none⟩)))]) ⟨look_row rfl 0 rfl s0, trivial⟩ ?_
             refine tp rfl (lv_nilCheck rfl) ?_
             exact d_closes ⟨look_row rfl 0 rfl s0, trivial⟩ 12 rfl rfl rfl hS (AgreeR.refl _) (t_sat (fun _ h => h) (hK () trivial))
            · -- 13
             rintro _ S hF hS D hp K hK
             try dsimp only at hF ⊢
             have s12 := hp 12 rfl
             refine d_need (small := [(98, (.pointer (some ⟨p, 0, none⟩)))]) ⟨look_row rfl 12 rfl s12, trivial⟩ ?_
             refine tp rfl (lv_fieldAddr (o' := 2) Try.underlying57 rfl Try.sizeOf3 rfl rfl) ?_
             exact d_closes ⟨look_row rfl 12 rfl s12, trivial⟩ 13 rfl rfl rfl hS (AgreeR.refl _) (t_sat (fun _ h => h) (hK () trivial))
            · -- 14
             rintro _ S hF hS D hp K hK
             try dsimp only at hF ⊢
             have s11 := hp 11 rfl
             have s13 := hp 13 rfl
             refine d_need (small := [(97, (.int .i64 ((nxt ax ms.length : Nat) : Int))), (99, (.pointer (some ⟨p, 2, none⟩)))]) ⟨look_row rfl 11 rfl s11, look_row rfl 13 rfl s13, trivial⟩ ?_
             refine t_cF hS ?_
             refine ts (sv_blk Try.sizeOf3 rfl rfl rfl (Nat.le_of_ble_eq_true rfl) rfl) ?_
             exact d_closes0 ⟨look_row rfl 11 rfl s11, look_row rfl 13 rfl s13, trivial⟩ rfl (t_sat (fun _ h => h) (hK () trivial))
           · -- behind
            rintro _ hF
            try dsimp only at hF ⊢
            refine t_weak (E' := [(0, (.pointer (some ⟨p, 0, none⟩))), (1, (.slice bl nw cl)), (6, (.bool true)), (7, (.int .i64 ((k : Nat) : Int))), (8, (.pointer (some ⟨b7, 0, none⟩))), (9, (.int .i64 ((costsL ms ws).getD ax 0))), (17, (.bool false)), (35, (.bool false)), (57, (.bool false)), (75, (.bool true))]) ⟨rfl, rfl, rfl, rfl, rfl, rfl, rfl, rfl, rfl, rfl, trivial⟩ ?_
            refine q_then_n (hK17 _ _ ?_)
            refine c_seq (fun K18 hK18 => ?_)
            refine c_draw (γ := Nat) (n := 12) Try.mixed rfl rfl (fun (b9 : Nat) S => True) (fun (b9 : Nat) => [(0, 100, (.pointer (some ⟨p, 0, none⟩))), (1, 101, (.pointer (some ⟨p, 0, none⟩))), (2, 102, (.pointer (some ⟨p, 1, none⟩))), (3, 103, (.slice bs1 ms.length cp2)), (4, 104, (.pointer (some ⟨p, 0, none⟩))), (5, 105, (.pointer (some ⟨p, 0, none⟩))), (6, 106, (.pointer (some ⟨p, 2, none⟩))), (7, 107, (.int .i64 ((nxt ax ms.length : Nat) : Int))), (8, 108, (.pointer (some (ad bs1 ((nxt ax ms.length) * 3))))), (9, 109, (.agg #[(.int .i64 (((zeroT (costsL ms ws) mx ax).getD (nxt ax ms.length) M3.z).id)), (.int .i64 (((zeroT (costsL ms ws) mx ax).getD (nxt ax ms.length) M3.z).w)), (.int .i64 (((zeroT (costsL ms ws) mx ax).getD (nxt ax ms.length) M3.z).c))])), (10, 10, (.pointer (some ⟨b9, 0, none⟩)))]) (fun (b9 : Nat) S => (Blk p [(.int .i64 q), (.slice bs1 ms.length cp2), (.int .i64 ((nxt ax ms.length : Nat) : Int))] 57) :: (SlV 59 3 (.slice bs1 ms.length cp2) ms.length (recs m3F (zeroT (costsL ms ws) mx ax))) :: (Blk b7 [(.int .i64 ((mx.getD ax M3.z).id)), (.int .i64 ((mx.getD ax M3.z).w)), (.int .i64 ((mx.getD ax M3.z).c))] 59) :: (bif S 11 then (Blk b9 [(.int .i64 (((zeroT (costsL ms ws) mx ax).getD (nxt ax ms.length) M3.z).id)), (.int .i64 (((zeroT (costsL ms ws) mx ax).getD (nxt ax ms.length) M3.z).w)), (.int .i64 (((zeroT (costsL ms ws) mx ax).getD (nxt ax ms.length) M3.z).c))] 59) else (bif S 10 then (Blk b9 [(.int .i64 0), (.int .i64 0), (.int .i64 0)] 59) else Emp)) :: R) (0) trivial (fun _ h => sat_emps [_, _, _] 1 h) (fun _ _ h => h) ?_ ?_
            · -- steps
             refine ⟨?_, ?_, ?_, ?_, ?_, ?_, ?_, ?_, ?_, ?_, ?_, ?_, trivial⟩
             · -- 0
              rintro b9 S hF hS D hp K hK
              try dsimp only at hF ⊢
              refine d_need (small := [(0, (.pointer (some ⟨p, 0, none⟩)))]) ⟨look_b rfl rfl, trivial⟩ ?_
              refine tp rfl (lv_move rfl) ?_
              exact d_closes ⟨look_b rfl rfl, trivial⟩ 0 rfl rfl rfl hS (AgreeR.refl _) (t_sat (fun _ h => h) (hK b9 trivial))
             · -- 1
              rintro b9 S hF hS D hp K hK
              try dsimp only at hF ⊢
              have s0 := hp 0 rfl
              refine d_need (small := [(100, (.pointer (some ⟨p, 0, none⟩)))]) ⟨look_row rfl 0 rfl s0, trivial⟩ ?_
              refine tp rfl (lv_nilCheck rfl) ?_
              exact d_closes ⟨look_row rfl 0 rfl s0, trivial⟩ 1 rfl rfl rfl hS (AgreeR.refl _) (t_sat (fun _ h => h) (hK b9 trivial))
             · -- 2
              rintro b9 S hF hS D hp K hK
              try dsimp only at hF ⊢
              have s1 := hp 1 rfl
              refine d_need (small := [(101, (.pointer (some ⟨p, 0, none⟩)))]) ⟨look_row rfl 1 rfl s1, trivial⟩ ?_
              refine tp rfl (lv_fieldAddr (o' := 1) Try.underlying57 rfl Try.sizeOf55 rfl rfl) ?_
              exact d_closes ⟨look_row rfl 1 rfl s1, trivial⟩ 2 rfl rfl rfl hS (AgreeR.refl _) (t_sat (fun _ h => h) (hK b9 trivial))
             · -- 3
              rintro b9 S hF hS D hp K hK
              try dsimp only at hF ⊢
              have s2 := hp 2 rfl
              refine d_need (small := [(102, (.pointer (some ⟨p, 1, none⟩)))]) ⟨look_row rfl 2 rfl s2, trivial⟩ ?_
              refine tp rfl (lv_load Try.isAgg55 rfl (gives_blk (.head _) rfl)) ?_
              exact d_closes ⟨look_row rfl 2 rfl s2, trivial⟩ 3 rfl rfl rfl hS (AgreeR.refl _) (t_sat (fun _ h => h) (hK b9 trivial))
             · -- 4
              rintro b9 S hF hS D hp K hK
              try dsimp only at hF ⊢
              refine d_need (small := [(0, (.pointer (some ⟨p, 0, none⟩)))]) ⟨look_b rfl rfl, trivial⟩ ?_
              refine tp rfl (lv_move rfl) ?_
              exact d_closes ⟨look_b rfl rfl, trivial⟩ 4 rfl rfl rfl hS (AgreeR.refl _) (t_sat (fun _ h => h) (hK b9 trivial))
             · -- 5
              rintro b9 S hF hS D hp K hK
              try dsimp only at hF ⊢
              have s4 := hp 4 rfl
              refine d_need (small := [(104, (.pointer (some ⟨p, 0, none⟩)))]) ⟨look_row rfl 4 rfl s4, trivial⟩ ?_
              refine tp rfl (lv_nilCheck rfl) ?_
              exact d_closes ⟨look_row rfl 4 rfl s4, trivial⟩ 5 rfl rfl rfl hS (AgreeR.refl _) (t_sat (fun _ h => h) (hK b9 trivial))
             · -- 6
              rintro b9 S hF hS D hp K hK
              try dsimp only at hF ⊢
              have s5 := hp 5 rfl
              refine d_need (small := [(105, (.pointer (some ⟨p, 0, none⟩)))]) ⟨look_row rfl 5 rfl s5, trivial⟩ ?_
              refine tp rfl (lv_fieldAddr (o' := 2) Try.underlying57 rfl Try.sizeOf3 rfl rfl) ?_
              exact d_closes ⟨look_row rfl 5 rfl s5, trivial⟩ 6 rfl rfl rfl hS (AgreeR.refl _) (t_sat (fun _ h => h) (hK b9 trivial))
             · -- 7
              rintro b9 S hF hS D hp K hK
              try dsimp only at hF ⊢
              have s6 := hp 6 rfl
              refine d_need (small := [(106, (.pointer (some ⟨p, 2, none⟩)))]) ⟨look_row rfl 6 rfl s6, trivial⟩ ?_
              refine tp rfl (lv_load Try.isAgg3 rfl (gives_blk (.head _) rfl)) ?_
              exact d_closes ⟨look_row rfl 6 rfl s6, trivial⟩ 7 rfl rfl rfl hS (AgreeR.refl _) (t_sat (fun _ h => h) (hK b9 trivial))
             · -- 8
              rintro b9 S hF hS D hp K hK
              try dsimp only at hF ⊢
              have s3 := hp 3 rfl
              have s7 := hp 7 rfl
              refine d_need (small := [(103, (.slice bs1 ms.length cp2)), (107, (.int .i64 ((nxt ax ms.length : Nat) : Int)))]) ⟨look_row rfl 3 rfl s3, look_row rfl 7 rfl s7, trivial⟩ ?_
              refine tp rfl (lv_indexAddr (k' := (nxt ax ms.length) * 3) Try.underlying55 Try.sizeOf59 rfl rfl hok3 (by omega) (by omega) (by omega)) ?_
              exact d_closes ⟨look_row rfl 3 rfl s3, look_row rfl 7 rfl s7, trivial⟩ 8 rfl rfl rfl hS (AgreeR.refl _) (t_sat (fun _ h => h) (hK b9 trivial))
             · -- 9
              rintro b9 S hF hS D hp K hK
              try dsimp only at hF ⊢
              have s8 := hp 8 rfl
              refine d_need (small := [(108, (.pointer (some (ad bs1 ((nxt ax ms.length) * 3)))))]) ⟨look_row rfl 8 rfl s8, trivial⟩ ?_
              refine tp rfl (lv_loadAgg_ad (cs := [(.int .i64 (((zeroT (costsL ms ws) mx ax).getD (nxt ax ms.length) M3.z).id)), (.int .i64 (((zeroT (costsL ms ws) mx ax).getD (nxt ax ms.length) M3.z).w)), (.int .i64 (((zeroT (costsL ms ws) mx ax).getD (nxt ax ms.length) M3.z).c))]) Try.isAgg59 Try.sizeOf59 rfl (gives_all3 (gives_sl (.tail _ (.head _)) ((recs_get (k := (nxt ax ms.length)) (j := 0) m3F_len (d := M3.z) (by first | omega | (simp; omega)) (Nat.le_of_ble_eq_true rfl)).trans rfl)) (gives_sl (.tail _ (.head _)) ((recs_get (k := (nxt ax ms.length)) (j := 1) m3F_len (d := M3.z) (by first | omega | (simp; omega)) (Nat.le_of_ble_eq_true rfl)).trans rfl)) (gives_sl (.tail _ (.head _)) ((recs_get (k := (nxt ax ms.length)) (j := 2) m3F_len (d := M3.z) (by first | omega | (simp; omega)) (Nat.le_of_ble_eq_true rfl)).trans rfl)))) ?_
              exact d_closes ⟨look_row rfl 8 rfl s8, trivial⟩ 9 rfl rfl rfl hS (AgreeR.refl _) (t_sat (fun _ h => h) (hK b9 trivial))
             · -- 10
              rintro b9 S hF hS D hp K hK
              try dsimp only at hF ⊢
              refine d_need (small := []) trivial ?_
              refine t_f3 ?_
              refine t_cF (nf hS D (k := 11) (i := 10) rfl) ?_
              refine t_cF hS ?_
              refine tm rfl (mv_alloc Try.zeroValue59 rfl) ?_
              rintro _ _ ⟨b9, rfl, rfl⟩
              refine t_f1 ?_
              refine t_wF (A := (Blk b9 [(.int .i64 0), (.int .i64 0), (.int .i64 0)] 59)) hS ?_
              refine t_wF (A := (Blk b9 [(.int .i64 (((zeroT (costsL ms ws) mx ax).getD (nxt ax ms.length) M3.z).id)), (.int .i64 (((zeroT (costsL ms ws) mx ax).getD (nxt ax ms.length) M3.z).w)), (.int .i64 (((zeroT (costsL ms ws) mx ax).getD (nxt ax ms.length) M3.z).c))] 59)) (nf hS D (k := 11) (i := 10) rfl) ?_
              refine t_f1 ?_
              refine t_wF (A := (Blk b9 [(.int .i64 (((zeroT (costsL ms ws) mx ax).getD (nxt ax ms.length) M3.z).id)), (.int .i64 (((zeroT (costsL ms ws) mx ax).getD (nxt ax ms.length) M3.z).w)), (.int .i64 (((zeroT (costsL ms ws) mx ax).getD (nxt ax ms.length) M3.z).c))] 59)) (nf hS D (k := 11) (i := 10) rfl) ?_
              refine t_f1 ?_
              refine t_f4 ?_
              refine t_f4 ?_
              refine t_f4 ?_
              refine t_f4 ?_
              refine t_sat (fun _ h => sat_put [_, _, _] h) ?_
              exact d_closes trivial 10 rfl rfl rfl hS (by exact ⟨.inl rfl, .inl rfl, .inl rfl, .inl rfl, .inl rfl, .inl rfl, .inl rfl, .inl rfl, .inl rfl, .inl rfl, .inr ⟨rfl, rfl, hS⟩, trivial⟩) (t_sat (fun _ h => h) (hK b9 trivial))
             · -- 11
              rintro b9 S hF hS D hp K hK
              try dsimp only at hF ⊢
              have s10 := hp 10 rfl
              have s9 := hp 9 rfl
              refine d_need (small := [(10, (.pointer (some ⟨b9, 0, none⟩))), (109, (.agg #[(.int .i64 (((zeroT (costsL ms ws) mx ax).getD (nxt ax ms.length) M3.z).id)), (.int .i64 (((zeroT (costsL ms ws) mx ax).getD (nxt ax ms.length) M3.z).w)), (.int .i64 (((zeroT (costsL ms ws) mx ax).getD (nxt ax ms.length) M3.z).c))]))]) ⟨look_row rfl 10 rfl s10, look_row rfl 9 rfl s9, trivial⟩ ?_
              refine t_f3 ?_
              refine t_cF hS ?_
              refine t_cT s10 ?_
              refine ts (sv_blkAgg (news := [(.int .i64 (((zeroT (costsL ms ws) mx ax).getD (nxt ax ms.length) M3.z).id)), (.int .i64 (((zeroT (costsL ms ws) mx ax).getD (nxt ax ms.length) M3.z).w)), (.int .i64 (((zeroT (costsL ms ws) mx ax).getD (nxt ax ms.length) M3.z).c))]) Try.sizeOf59 rfl rfl rfl rfl (Nat.le_of_ble_eq_true rfl) rfl) ?_
              refine t_f3 ?_
              refine t_f3 ?_
              refine t_f3 ?_
              exact d_closes0 ⟨look_row rfl 10 rfl s10, look_row rfl 9 rfl s9, trivial⟩ rfl (t_sat (fun _ h => h) (hK b9 trivial))
            · -- behind
             rintro b9 hF
             try dsimp only at hF ⊢
             refine t_weak (E' := [(0, (.pointer (some ⟨p, 0, none⟩))), (1, (.slice bl nw cl)), (6, (.bool true)), (7, (.int .i64 ((k : Nat) : Int))), (8, (.pointer (some ⟨b7, 0, none⟩))), (9, (.int .i64 ((costsL ms ws).getD ax 0))), (10, (.pointer (some ⟨b9, 0, none⟩))), (17, (.bool false)), (35, (.bool false)), (57, (.bool false)), (75, (.bool true))]) ⟨rfl, rfl, rfl, rfl, rfl, rfl, rfl, rfl, rfl, rfl, rfl, trivial⟩ ?_
             refine q_then_n (hK18 _ _ ?_)
             refine c_seq (fun K19 hK19 => ?_)
             refine c_region ?_
             have hzi := zero_id (cs := costsL ms ws) hal (nxt ax ms.length)
             have hzb := zero_bd (cs := costsL ms ws) htb hq hal (i := nxt ax ms.length) (by omega)
             have hgj := htb.gn hq (i := nxt ax ms.length) (by omega)
             have hcj : costOf ws ((zeroT (costsL ms ws) mx ax).getD (nxt ax ms.length) M3.z).id = (costsL ms ws).getD (nxt ax ms.length) 0 := by rw [hzi.1]; exact hsn.cost hnl
             have hgz : 0 ≤ q * ((zeroT (costsL ms ws) mx ax).getD (nxt ax ms.length) M3.z).w ∧ q * ((zeroT (costsL ms ws) mx ax).getD (nxt ax ms.length) M3.z).w ≤ 104857600 := by rw [hzi.2]; exact hgj
             refine tp rfl (lv_move rfl) ?_
             refine tp rfl (lv_fieldAddr (o' := 0) Try.underlying59 rfl Try.sizeOf3 rfl rfl) ?_
             refine tp rfl (lv_load Try.isAgg3 rfl (gives_blk (.tail _ (.tail _ (.tail _ (.head _)))) rfl)) ?_
             refine tc rfl (en_fn Try.call29 rfl) (rcost_ok ws hwl (((zeroT (costsL ms ws) mx ax).getD (nxt ax ms.length) M3.z).id) (Rd.cons (Rd.cons (Rd.cons (Rd.cons hw)))) okl (by omega)) ?_
             rintro _ _ ⟨rfl, rfl⟩
             rw [show costOf ws (((zeroT (costsL ms ws) mx ax).getD (nxt ax ms.length) M3.z).id) = (costsL ms ws).getD (nxt ax ms.length) 0 from hcj]
             by_cases h9 : ((costsL ms ws).getD (nxt ax ms.length) 0) > 0
             · -- yes
              refine tp rfl (lv_gtr rfl rfl (decide_eq_true h9)) ?_
              refine t_done ?_
              refine q_then_n (hK19 _ _ ?_)
              refine c_true rfl ?_
              refine c_draw (γ := Unit) (n := 21) Try.mixed rfl rfl (fun _ S => True) (fun _ => [(0, 115, (.pointer (some ⟨p, 0, none⟩))), (1, 116, (.pointer (some ⟨p, 0, none⟩))), (2, 117, (.pointer (some ⟨p, 1, none⟩))), (3, 118, (.slice bs1 ms.length cp2)), (4, 119, (.pointer (some ⟨p, 0, none⟩))), (5, 120, (.pointer (some ⟨p, 0, none⟩))), (6, 121, (.pointer (some ⟨p, 2, none⟩))), (7, 122, (.int .i64 ((nxt ax ms.length : Nat) : Int))), (8, 123, (.pointer (some ⟨b9, 2, none⟩))), (9, 124, (.int .i64 (((zeroT (costsL ms ws) mx ax).getD (nxt ax ms.length) M3.z).c))), (10, 125, (.pointer (some ⟨p, 0, none⟩))), (11, 126, (.pointer (some ⟨p, 0, none⟩))), (12, 127, (.pointer (some ⟨p, 0, none⟩))), (13, 128, (.int .i64 q)), (14, 129, (.pointer (some ⟨b9, 1, none⟩))), (15, 130, (.int .i64 (((zeroT (costsL ms ws) mx ax).getD (nxt ax ms.length) M3.z).w))), (16, 131, (.int .i64 (q * (((zeroT (costsL ms ws) mx ax).getD (nxt ax ms.length) M3.z).w)))), (17, 132, (.int .i64 ((((zeroT (costsL ms ws) mx ax).getD (nxt ax ms.length) M3.z).c) + (q * (((zeroT (costsL ms ws) mx ax).getD (nxt ax ms.length) M3.z).w))))), (18, 133, (.pointer (some (ad bs1 ((nxt ax ms.length) * 3))))), (19, 134, (.pointer (some (ad bs1 ((nxt ax ms.length) * 3 + 2)))))]) (fun _ S => (Blk p [(.int .i64 q), (.slice bs1 ms.length cp2), (.int .i64 ((nxt ax ms.length : Nat) : Int))] 57) :: (bif S 20 then (SlV 59 3 (.slice bs1 ms.length cp2) ms.length (recs m3F ((zeroT (costsL ms ws) mx ax).set (nxt ax ms.length) ⟨((zeroT (costsL ms ws) mx ax).getD (nxt ax ms.length) M3.z).id, ((zeroT (costsL ms ws) mx ax).getD (nxt ax ms.length) M3.z).w, (((zeroT (costsL ms ws) mx ax).getD (nxt ax ms.length) M3.z).c) + (q * (((zeroT (costsL ms ws) mx ax).getD (nxt ax ms.length) M3.z).w))⟩))) else (SlV 59 3 (.slice bs1 ms.length cp2) ms.length (recs m3F (zeroT (costsL ms ws) mx ax)))) :: (Blk b7 [(.int .i64 ((mx.getD ax M3.z).id)), (.int .i64 ((mx.getD ax M3.z).w)), (.int .i64 ((mx.getD ax M3.z).c))] 59) :: (Blk b9 [(.int .i64 (((zeroT (costsL ms ws) mx ax).getD (nxt ax ms.length) M3.z).id)), (.int .i64 (((zeroT (costsL ms ws) mx ax).getD (nxt ax ms.length) M3.z).w)), (.int .i64 (((zeroT (costsL ms ws) mx ax).getD (nxt ax ms.length) M3.z).c))] 59) :: R) (()) trivial (fun _ h => h) (fun _ _ h => h) ?_ ?_
              · -- steps
               refine ⟨?_, ?_, ?_, ?_, ?_, ?_, ?_, ?_, ?_, ?_, ?_, ?_, ?_, ?_, ?_, ?_, ?_, ?_, ?_, ?_, ?_, trivial⟩
               · -- 0
                rintro _ S hF hS D hp K hK
                try dsimp only at hF ⊢
                refine d_need (small := [(0, (.pointer (some ⟨p, 0, none⟩)))]) ⟨look_b rfl rfl, trivial⟩ ?_
                refine tp rfl (lv_move rfl) ?_
                exact d_closes ⟨look_b rfl rfl, trivial⟩ 0 rfl rfl rfl hS (AgreeR.refl _) (t_sat (fun _ h => h) (hK () trivial))
               · -- 1
                rintro _ S hF hS D hp K hK
                try dsimp only at hF ⊢
                have s0 := hp 0 rfl
                refine d_need (small := [(115, (.pointer (some ⟨p, 0, none⟩)))]) ⟨look_row rfl 0 rfl s0, trivial⟩ ?_
                refine tp rfl (lv_nilCheck rfl) ?_
                exact d_closes ⟨look_row rfl 0 rfl s0, trivial⟩ 1 rfl rfl rfl hS (AgreeR.refl _) (t_sat (fun _ h => h) (hK () trivial))
               · -- 2
                rintro _ S hF hS D hp K hK
                try dsimp only at hF ⊢
                have s1 := hp 1 rfl
                refine d_need (small := [(116, (.pointer (some ⟨p, 0, none⟩)))]) ⟨look_row rfl 1 rfl s1, trivial⟩ ?_
                refine tp rfl (lv_fieldAddr (o' := 1) Try.underlying57 rfl Try.sizeOf55 rfl rfl) ?_
                exact d_closes ⟨look_row rfl 1 rfl s1, trivial⟩ 2 rfl rfl rfl hS (AgreeR.refl _) (t_sat (fun _ h => h) (hK () trivial))
               · -- 3
                rintro _ S hF hS D hp K hK
                try dsimp only at hF ⊢
                have s2 := hp 2 rfl
                refine d_need (small := [(117, (.pointer (some ⟨p, 1, none⟩)))]) ⟨look_row rfl 2 rfl s2, trivial⟩ ?_
                refine tp rfl (lv_load Try.isAgg55 rfl (gives_blk (.head _) rfl)) ?_
                exact d_closes ⟨look_row rfl 2 rfl s2, trivial⟩ 3 rfl rfl rfl hS (AgreeR.refl _) (t_sat (fun _ h => h) (hK () trivial))
               · -- 4
                rintro _ S hF hS D hp K hK
                try dsimp only at hF ⊢
                refine d_need (small := [(0, (.pointer (some ⟨p, 0, none⟩)))]) ⟨look_b rfl rfl, trivial⟩ ?_
                refine tp rfl (lv_move rfl) ?_
                exact d_closes ⟨look_b rfl rfl, trivial⟩ 4 rfl rfl rfl hS (AgreeR.refl _) (t_sat (fun _ h => h) (hK () trivial))
               · -- 5
                rintro _ S hF hS D hp K hK
                try dsimp only at hF ⊢
                have s4 := hp 4 rfl
                refine d_need (small := [(119, (.pointer (some ⟨p, 0, none⟩)))]) ⟨look_row rfl 4 rfl s4, trivial⟩ ?_
                refine tp rfl (lv_nilCheck rfl) ?_
                exact d_closes ⟨look_row rfl 4 rfl s4, trivial⟩ 5 rfl rfl rfl hS (AgreeR.refl _) (t_sat (fun _ h => h) (hK () trivial))
               · -- 6
                rintro _ S hF hS D hp K hK
                try dsimp only at hF ⊢
                have s5 := hp 5 rfl
                refine d_need (small := [(120, (.pointer (some ⟨p, 0, none⟩)))]) ⟨look_row rfl 5 rfl s5, trivial⟩ ?_
                refine tp rfl (lv_fieldAddr (o' := 2) Try.underlying57 rfl Try.sizeOf3 rfl rfl) ?_
                exact d_closes ⟨look_row rfl 5 rfl s5, trivial⟩ 6 rfl rfl rfl hS (AgreeR.refl _) (t_sat (fun _ h => h) (hK () trivial))
               · -- 7
                rintro _ S hF hS D hp K hK
                try dsimp only at hF ⊢
                have s6 := hp 6 rfl
                refine d_need (small := [(121, (.pointer (some ⟨p, 2, none⟩)))]) ⟨look_row rfl 6 rfl s6, trivial⟩ ?_
                refine tp rfl (lv_load Try.isAgg3 rfl (gives_blk (.head _) rfl)) ?_
                exact d_closes ⟨look_row rfl 6 rfl s6, trivial⟩ 7 rfl rfl rfl hS (AgreeR.refl _) (t_sat (fun _ h => h) (hK () trivial))
               · -- 8
                rintro _ S hF hS D hp K hK
                try dsimp only at hF ⊢
                refine d_need (small := [(10, (.pointer (some ⟨b9, 0, none⟩)))]) ⟨look_b rfl rfl, trivial⟩ ?_
                refine tp rfl (lv_fieldAddr (o' := 2) Try.underlying59 rfl Try.sizeOf3 rfl rfl) ?_
                exact d_closes ⟨look_b rfl rfl, trivial⟩ 8 rfl rfl rfl hS (AgreeR.refl _) (t_sat (fun _ h => h) (hK () trivial))
               · -- 9
                rintro _ S hF hS D hp K hK
                try dsimp only at hF ⊢
                have s8 := hp 8 rfl
                refine d_need (small := [(123, (.pointer (some ⟨b9, 2, none⟩)))]) ⟨look_row rfl 8 rfl s8, trivial⟩ ?_
                refine tp rfl (lv_load Try.isAgg3 rfl (gives_blk (.tail _ (.tail _ (.tail _ (.head _)))) rfl)) ?_
                exact d_closes ⟨look_row rfl 8 rfl s8, trivial⟩ 9 rfl rfl rfl hS (AgreeR.refl _) (t_sat (fun _ h => h) (hK () trivial))
               · -- 10
                rintro _ S hF hS D hp K hK
                try dsimp only at hF ⊢
                refine d_need (small := [(0, (.pointer (some ⟨p, 0, none⟩)))]) ⟨look_b rfl rfl, trivial⟩ ?_
                refine tp rfl (lv_move rfl) ?_
                exact d_closes ⟨look_b rfl rfl, trivial⟩ 10 rfl rfl rfl hS (AgreeR.refl _) (t_sat (fun _ h => h) (hK () trivial))
               · -- 11
                rintro _ S hF hS D hp K hK
                try dsimp only at hF ⊢
                have s10 := hp 10 rfl
                refine d_need (small := [(125, (.pointer (some ⟨p, 0, none⟩)))]) ⟨look_row rfl 10 rfl s10, trivial⟩ ?_
                refine tp rfl (lv_nilCheck rfl) ?_
                exact d_closes ⟨look_row rfl 10 rfl s10, trivial⟩ 11 rfl rfl rfl hS (AgreeR.refl _) (t_sat (fun _ h => h) (hK () trivial))
               · -- 12
                rintro _ S hF hS D hp K hK
                try dsimp only at hF ⊢
                have s11 := hp 11 rfl
                refine d_need (small := [(126, (.pointer (some ⟨p, 0, none⟩)))]) ⟨look_row rfl 11 rfl s11, trivial⟩ ?_
                refine tp rfl (lv_fieldAddr (o' := 0) Try.underlying57 rfl Try.sizeOf3 rfl rfl) ?_
                exact d_closes ⟨look_row rfl 11 rfl s11, trivial⟩ 12 rfl rfl rfl hS (AgreeR.refl _) (t_sat (fun _ h => h) (hK () trivial))
               · -- 13
                rintro _ S hF hS D hp K hK
                try dsimp only at hF ⊢
                have s12 := hp 12 rfl
                refine d_need (small := [(127, (.pointer (some ⟨p, 0, none⟩)))]) ⟨look_row rfl 12 rfl s12, trivial⟩ ?_
                refine tp rfl (lv_load Try.isAgg3 rfl (gives_blk (.head _) rfl)) ?_
                exact d_closes ⟨look_row rfl 12 rfl s12, trivial⟩ 13 rfl rfl rfl hS (AgreeR.refl _) (t_sat (fun _ h => h) (hK () trivial))
               · -- 14
                rintro _ S hF hS D hp K hK
                try dsimp only at hF ⊢
                refine d_need (small := [(10, (.pointer (some ⟨b9, 0, none⟩)))]) ⟨look_b rfl rfl, trivial⟩ ?_
                refine tp rfl (lv_fieldAddr (o' := 1) Try.underlying59 rfl Try.sizeOf3 rfl rfl) ?_
                exact d_closes ⟨look_b rfl rfl, trivial⟩ 14 rfl rfl rfl hS (AgreeR.refl _) (t_sat (fun _ h => h) (hK () trivial))
               · -- 15
                rintro _ S hF hS D hp K hK
                try dsimp only at hF ⊢
                have s14 := hp 14 rfl
                refine d_need (small := [(129, (.pointer (some ⟨b9, 1, none⟩)))]) ⟨look_row rfl 14 rfl s14, trivial⟩ ?_
                refine tp rfl (lv_load Try.isAgg3 rfl (gives_blk (.tail _ (.tail _ (.tail _ (.head _)))) rfl)) ?_
                exact d_closes ⟨look_row rfl 14 rfl s14, trivial⟩ 15 rfl rfl rfl hS (AgreeR.refl _) (t_sat (fun _ h => h) (hK () trivial))
               · -- 16
                rintro _ S hF hS D hp K hK
                try dsimp only at hF ⊢
                have s13 := hp 13 rfl
                have s15 := hp 15 rfl
                refine d_need (small := [(128, (.int .i64 q)), (130, (.int .i64 (((zeroT (costsL ms ws) mx ax).getD (nxt ax ms.length) M3.z).w)))]) ⟨look_row rfl 13 rfl s13, look_row rfl 15 rfl s15, trivial⟩ ?_
                refine tp rfl (lv_mul (c := q * (((zeroT (costsL ms ws) mx ax).getD (nxt ax ms.length) M3.z).w)) rfl rfl (wr_i64 (by omega) (by omega))) ?_
                exact d_closes ⟨look_row rfl 13 rfl s13, look_row rfl 15 rfl s15, trivial⟩ 16 rfl rfl rfl hS (AgreeR.refl _) (t_sat (fun _ h => h) (hK () trivial))
               · -- 17
                rintro _ S hF hS D hp K hK
                try dsimp only at hF ⊢
                have s9 := hp 9 rfl
                have s16 := hp 16 rfl
                refine d_need (small := [(124, (.int .i64 (((zeroT (costsL ms ws) mx ax).getD (nxt ax ms.length) M3.z).c))), (131, (.int .i64 (q * (((zeroT (costsL ms ws) mx ax).getD (nxt ax ms.length) M3.z).w))))]) ⟨look_row rfl 9 rfl s9, look_row rfl 16 rfl s16, trivial⟩ ?_
                refine tp rfl (lv_add (c := (((zeroT (costsL ms ws) mx ax).getD (nxt ax ms.length) M3.z).c) + (q * (((zeroT (costsL ms ws) mx ax).getD (nxt ax ms.length) M3.z).w))) rfl rfl (wr_i64 (by omega) (by omega))) ?_
                exact d_closes ⟨look_row rfl 9 rfl s9, look_row rfl 16 rfl s16, trivial⟩ 17 rfl rfl rfl hS (AgreeR.refl _) (t_sat (fun _ h => h) (hK () trivial))
               · -- 18
                rintro _ S hF hS D hp K hK
                try dsimp only at hF ⊢
                have s3 := hp 3 rfl
                have s7 := hp 7 rfl
                refine d_need (small := [(118, (.slice bs1 ms.length cp2)), (122, (.int .i64 ((nxt ax ms.length : Nat) : Int)))]) ⟨look_row rfl 3 rfl s3, look_row rfl 7 rfl s7, trivial⟩ ?_
                refine tp rfl (lv_indexAddr (k' := (nxt ax ms.length) * 3) Try.underlying55 Try.sizeOf59 rfl rfl hok3 (by omega) (by omega) (by omega)) ?_
                exact d_closes ⟨look_row rfl 3 rfl s3, look_row rfl 7 rfl s7, trivial⟩ 18 rfl rfl rfl hS (AgreeR.refl _) (t_sat (fun _ h => h) (hK () trivial))
               · -- 19
                rintro _ S hF hS D hp K hK
                try dsimp only at hF ⊢
                have s18 := hp 18 rfl
                refine d_need (small := [(133, (.pointer (some (ad bs1 ((nxt ax ms.length) * 3)))))]) ⟨look_row rfl 18 rfl s18, trivial⟩ ?_
                refine tp rfl (lv_fieldAddr_ad (o' := (nxt ax ms.length) * 3 + 2) Try.underlying59 rfl Try.sizeOf3 rfl rfl) ?_
                exact d_closes ⟨look_row rfl 18 rfl s18, trivial⟩ 19 rfl rfl rfl hS (AgreeR.refl _) (t_sat (fun _ h => h) (hK () trivial))
               · -- 20
                rintro _ S hF hS D hp K hK
                try dsimp only at hF ⊢
                have s17 := hp 17 rfl
                have s19 := hp 19 rfl
                refine d_need (small := [(132, (.int .i64 ((((zeroT (costsL ms ws) mx ax).getD (nxt ax ms.length) M3.z).c) + (q * (((zeroT (costsL ms ws) mx ax).getD (nxt ax ms.length) M3.z).w))))), (134, (.pointer (some (ad bs1 ((nxt ax ms.length) * 3 + 2)))))]) ⟨look_row rfl 17 rfl s17, look_row rfl 19 rfl s19, trivial⟩ ?_
                refine t_f1 ?_
                refine t_cF hS ?_
                refine ts (sv_sl Try.sizeOf3 rfl rfl rfl (by rw [recs_len m3F_len]; omega) (recs_set (k := (nxt ax ms.length)) (j := 2) m3F_len (d := M3.z) (x' := ⟨((zeroT (costsL ms ws) mx ax).getD (nxt ax ms.length) M3.z).id, ((zeroT (costsL ms ws) mx ax).getD (nxt ax ms.length) M3.z).w, (((zeroT (costsL ms ws) mx ax).getD (nxt ax ms.length) M3.z).c) + (q * (((zeroT (costsL ms ws) mx ax).getD (nxt ax ms.length) M3.z).w))⟩) (by omega) (Nat.le_of_ble_eq_true rfl) rfl)) ?_
                refine t_f1 ?_
                exact d_closes0 ⟨look_row rfl 17 rfl s17, look_row rfl 19 rfl s19, trivial⟩ rfl (t_sat (fun _ h => h) (hK () trivial))
              · -- behind
               rintro _ hF
               try dsimp only at hF ⊢
               refine t_weak (E' := [(0, (.pointer (some ⟨p, 0, none⟩))), (1, (.slice bl nw cl)), (6, (.bool true)), (7, (.int .i64 ((k : Nat) : Int))), (8, (.pointer (some ⟨b7, 0, none⟩))), (9, (.int .i64 ((costsL ms ws).getD ax 0))), (10, (.pointer (some ⟨b9, 0, none⟩))), (17, (.bool false)), (35, (.bool false)), (57, (.bool false)), (75, (.bool true)), (114, (.bool true))]) ⟨rfl, rfl, rfl, rfl, rfl, rfl, rfl, rfl, rfl, rfl, rfl, rfl, trivial⟩ ?_
               refine q_in_n ?_
               refine q_then_n ?_
               refine t_f2 ?_
               refine t_drop ?_
               refine t_f2 ?_
               refine t_drop ?_
               rw [show recs m3F ((zeroT (costsL ms ws) mx ax).set (nxt ax ms.length) ⟨((zeroT (costsL ms ws) mx ax).getD (nxt ax ms.length) M3.z).id, ((zeroT (costsL ms ws) mx ax).getD (nxt ax ms.length) M3.z).w, (((zeroT (costsL ms ws) mx ax).getD (nxt ax ms.length) M3.z).c) + (q * (((zeroT (costsL ms ws) mx ax).getD (nxt ax ms.length) M3.z).w))⟩) = recs m3F (gainT q (costsL ms ws) (zeroT (costsL ms ws) mx ax) (nxt ax ms.length)) from congrArg _ (by unfold gainT; first | rw [if_pos (by omega)]; rfl | rw [if_neg (by omega)])]
               exact t_weak (by exact ⟨rfl, rfl, rfl, rfl, rfl, rfl, trivial⟩) ((hK10 (k2, gainT q (costsL ms ws) (zeroT (costsL ms ws) mx ax) (nxt ax ms.length), nxt ax ms.length) ⟨hk3, by have := htb.step hq.1 hcb hal hr; rw [hlx] at this; exact this, by have := hsn.step (q := q) (cs := costsL ms ws) hal; rw [hlx] at this; exact this, nxt_lt hal0⟩ (by dsimp only; omega)))
             · -- no
              refine tp rfl (lv_gtr rfl rfl (decide_eq_false h9)) ?_
              refine t_done ?_
              refine q_then_n (hK19 _ _ ?_)
              refine c_false rfl ?_
              refine c_skip ?_
              refine q_in_n ?_
              refine q_then_n ?_
              refine t_f2 ?_
              refine t_drop ?_
              refine t_f2 ?_
              refine t_drop ?_
              rw [show recs m3F (zeroT (costsL ms ws) mx ax) = recs m3F (gainT q (costsL ms ws) (zeroT (costsL ms ws) mx ax) (nxt ax ms.length)) from congrArg _ (by unfold gainT; first | rw [if_pos (by omega)]; rfl | rw [if_neg (by omega)])]
              exact t_weak (by exact ⟨rfl, rfl, rfl, rfl, rfl, rfl, trivial⟩) ((hK10 (k2, gainT q (costsL ms ws) (zeroT (costsL ms ws) mx ax) (nxt ax ms.length), nxt ax ms.length) ⟨hk3, by have := htb.step hq.1 hcb hal hr; rw [hlx] at this; exact this, by have := hsn.step (q := q) (cs := costsL ms ws) hal; rw [hlx] at this; exact this, nxt_lt hal0⟩ (by dsimp only; omega)))
         · -- no
          refine tp rfl (lv_eql rfl rfl (beq_eq_false_iff_ne.2 h8)) ?_
          refine t_done ?_
          refine q_then_n (hK16 _ _ ?_)
          refine c_false rfl ?_
          refine c_skip ?_
          refine q_then_n (hK15 _ _ ?_)
          refine c_seq (fun K17 hK17 => ?_)
          rw [show recs m3F mx = recs m3F (zeroT (costsL ms ws) mx ax) from congrArg _ (by unfold zeroT; first | rw [if_pos (by omega)]; rfl | rw [if_neg (by omega)])]
          have hzl : (zeroT (costsL ms ws) mx ax).length = ms.length := by rw [zeroT_len]; exact hlx
          have hnl := nxt_lt hal0
          refine c_draw (γ := Unit) (n := 15) Try.mixed rfl rfl (fun _ S => True) (fun _ => [(0, 86, (.pointer (some ⟨p, 0, none⟩))), (1, 87, (.pointer (some ⟨p, 0, none⟩))), (2, 88, (.pointer (some ⟨p, 0, none⟩))), (3, 89, (.pointer (some ⟨p, 2, none⟩))), (4, 90, (.int .i64 ((ax : Nat) : Int))), (5, 91, (.int .i64 ((ax + 1 : Nat) : Int))), (6, 92, (.pointer (some ⟨p, 0, none⟩))), (7, 93, (.pointer (some ⟨p, 0, none⟩))), (8, 94, (.pointer (some ⟨p, 1, none⟩))), (9, 95, (.slice bs1 ms.length cp2)), (10, 96, (.int .i64 ((ms.length : Nat) : Int))), (11, 97, (.int .i64 ((nxt ax ms.length : Nat) : Int))), (12, 98, (.pointer (some ⟨p, 0, none⟩))), (13, 99, (.pointer (some ⟨p, 2, none⟩)))]) (fun _ S => (bif S 14 then (Blk p [(.int .i64 q), (.slice bs1 ms.length cp2), (.int .i64 ((nxt ax ms.length : Nat) : Int))] 57) else (Blk p [(.int .i64 q), (.slice bs1 ms.length cp2), (.int .i64 ((ax : Nat) : Int))] 57)) :: (SlV 59 3 (.slice bs1 ms.length cp2) ms.length (recs m3F (zeroT (costsL ms ws) mx ax))) :: (Blk b7 [(.int .i64 ((mx.getD ax M3.z).id)), (.int .i64 ((mx.getD ax M3.z).w)), (.int .i64 ((mx.getD ax M3.z).c))] 59) :: R) (()) trivial (fun _ h => h) (fun _ _ h => h) ?_ ?_
          · -- steps
           refine ⟨?_, ?_, ?_, ?_, ?_, ?_, ?_, ?_, ?_, ?_, ?_, ?_, ?_, ?_, ?_, trivial⟩
           · -- 0
            rintro _ S hF hS D hp K hK
            try dsimp only at hF ⊢
            refine d_need (small := [(0, (.pointer (some ⟨p, 0, none⟩)))]) ⟨look_b rfl rfl, trivial⟩ ?_
            refine tp rfl (lv_move rfl) ?_
            exact d_closes ⟨look_b rfl rfl, trivial⟩ 0 rfl rfl rfl hS (AgreeR.refl _) (t_sat (fun _ h => h) (hK () trivial))
           · -- 1
            rintro _ S hF hS D hp K hK
            try dsimp only at hF ⊢
            refine d_need (small := [(0, (.pointer (some ⟨p, 0, none⟩)))]) ⟨look_b rfl rfl, trivial⟩ ?_
            refine tp rfl (lv_move rfl) ?_
            exact d_closes ⟨look_b rfl rfl, trivial⟩ 1 rfl rfl rfl hS (AgreeR.refl _) (t_sat (fun _ h => h) (hK () trivial))
           · -- 2
            rintro _ S hF hS D hp K hK
            try dsimp only at hF ⊢
            have s1 := hp 1 rfl
            refine d_need (small := [(87, (.pointer (some ⟨p, 0, none⟩)))]) ⟨look_row rfl 1 rfl s1, trivial⟩ ?_
            refine tp rfl (lv_nilCheck rfl) ?_
            exact d_closes ⟨look_row rfl 1 rfl s1, trivial⟩ 2 rfl rfl rfl hS (AgreeR.refl _) (t_sat (fun _ h => h) (hK () trivial))
           · -- 3
            rintro _ S hF hS D hp K hK
            try dsimp only at hF ⊢
            have s2 := hp 2 rfl
            refine d_need (small := [(88, (.pointer (some ⟨p, 0, none⟩)))]) ⟨look_row rfl 2 rfl s2, trivial⟩ ?_
            refine tp rfl (lv_fieldAddr (o' := 2) Try.underlying57 rfl Try.sizeOf3 rfl rfl) ?_
            exact d_closes ⟨look_row rfl 2 rfl s2, trivial⟩ 3 rfl rfl rfl hS (AgreeR.refl _) (t_sat (fun _ h => h) (hK () trivial))
           · -- 4
            rintro _ S hF hS D hp K hK
            try dsimp only at hF ⊢
            have s3 := hp 3 rfl
            refine d_need (small := [(89, (.pointer (some ⟨p, 2, none⟩)))]) ⟨look_row rfl 3 rfl s3, trivial⟩ ?_
            refine tp rfl (lv_load Try.isAgg3 rfl (gives_blk (mem_cF (nf hS D (k := 14) (i := 4) rfl) (.head _)) rfl)) ?_
            exact d_closes ⟨look_row rfl 3 rfl s3, trivial⟩ 4 rfl rfl rfl hS (AgreeR.refl _) (t_sat (fun _ h => h) (hK () trivial))
           · -- 5
            rintro _ S hF hS D hp K hK
            try dsimp only at hF ⊢
            have s4 := hp 4 rfl
            refine d_need (small := [(90, (.int .i64 ((ax : Nat) : Int)))]) ⟨look_row rfl 4 rfl s4, trivial⟩ ?_
            refine tp rfl (lv_add (c := ((ax + 1 : Nat) : Int)) rfl rfl (wr_i64_succ (by omega))) ?_
            exact d_closes ⟨look_row rfl 4 rfl s4, trivial⟩ 5 rfl rfl rfl hS (AgreeR.refl _) (t_sat (fun _ h => h) (hK () trivial))
           · -- 6
            rintro _ S hF hS D hp K hK
            try dsimp only at hF ⊢
            refine d_need (small := [(0, (.pointer (some ⟨p, 0, none⟩)))]) ⟨look_b rfl rfl, trivial⟩ ?_
            refine tp rfl (lv_move rfl) ?_
            exact d_closes ⟨look_b rfl rfl, trivial⟩ 6 rfl rfl rfl hS (AgreeR.refl _) (t_sat (fun _ h => h) (hK () trivial))
           · -- 7
            rintro _ S hF hS D hp K hK
            try dsimp only at hF ⊢
            have s6 := hp 6 rfl
            refine d_need (small := [(92, (.pointer (some ⟨p, 0, none⟩)))]) ⟨look_row rfl 6 rfl s6, trivial⟩ ?_
            refine tp rfl (lv_nilCheck rfl) ?_
            exact d_closes ⟨look_row rfl 6 rfl s6, trivial⟩ 7 rfl rfl rfl hS (AgreeR.refl _) (t_sat (fun _ h => h) (hK () trivial))
           · -- 8
            rintro _ S hF hS D hp K hK
            try dsimp only at hF ⊢
            have s7 := hp 7 rfl
            refine d_need (small := [(93, (.pointer (some ⟨p, 0, none⟩)))]) ⟨look_row rfl 7 rfl s7, trivial⟩ ?_
            refine tp rfl (lv_fieldAddr (o' := 1) Try.underlying57 rfl Try.sizeOf55 rfl rfl) ?_
            exact d_closes ⟨look_row rfl 7 rfl s7, trivial⟩ 8 rfl rfl rfl hS (AgreeR.refl _) (t_sat (fun _ h => h) (hK () trivial))
           · -- 9
            rintro _ S hF hS D hp K hK
            try dsimp only at hF ⊢
            have s8 := hp 8 rfl
            refine d_need (small := [(94, (.pointer (some ⟨p, 1, none⟩)))]) ⟨look_row rfl 8 rfl s8, trivial⟩ ?_
            refine tp rfl (lv_load Try.isAgg55 rfl (gives_blk (mem_cF (nf hS D (k := 14) (i := 9) rfl) (.head _)) rfl)) ?_
            exact d_closes ⟨look_row rfl 8 rfl s8, trivial⟩ 9 rfl rfl rfl hS (AgreeR.refl _) (t_sat (fun _ h => h) (hK () trivial))
           · -- 10
            rintro _ S hF hS D hp K hK
            try dsimp only at hF ⊢
            have s9 := hp 9 rfl
            refine d_need (small := [(95, (.slice bs1 ms.length cp2))]) ⟨look_row rfl 9 rfl s9, trivial⟩ ?_
            refine tp rfl (lv_len Try.underlying55 rfl rfl) ?_
            exact d_closes ⟨look_row rfl 9 rfl s9, trivial⟩ 10 rfl rfl rfl hS (AgreeR.refl _) (t_sat (fun _ h => h) (hK () trivial))
           · -- 11
            rintro _ S hF hS D hp K hK
            try dsimp only at hF ⊢
            have s5 := hp 5 rfl
            have s10 := hp 10 rfl
            refine d_need (small := [(91, (.int .i64 ((ax + 1 : Nat) : Int))), (96, (.int .i64 ((ms.length : Nat) : Int)))]) ⟨look_row rfl 5 rfl s5, look_row rfl 10 rfl s10, trivial⟩ ?_
            refine tp rfl (lv_rem (c := ((nxt ax ms.length : Nat) : Int)) rfl rfl (by omega) (nxt_mod hal0)) ?_
            exact d_closes ⟨look_row rfl 5 rfl s5, look_row rfl 10 rfl s10, trivial⟩ 11 rfl rfl rfl hS (AgreeR.refl _) (t_sat (fun _ h => h) (hK () trivial))
           · -- 12
            rintro _ S hF hS D hp K hK
            try dsimp only at hF ⊢
            have s0 := hp 0 rfl
            refine d_need (small := [(86, (.pointer (some ⟨p, 0, none⟩)))]) ⟨look_row rfl 0 rfl s0, trivial⟩ ?_
            refine tp rfl (lv_nilCheck rfl) ?_
            exact d_closes ⟨look_row rfl 0 rfl s0, trivial⟩ 12 rfl rfl rfl hS (AgreeR.refl _) (t_sat (fun _ h => h) (hK () trivial))
           · -- 13
            rintro _ S hF hS D hp K hK
            try dsimp only at hF ⊢
            have s12 := hp 12 rfl
            refine d_need (small := [(98, (.pointer (some ⟨p, 0, none⟩)))]) ⟨look_row rfl 12 rfl s12, trivial⟩ ?_
            refine tp rfl (lv_fieldAddr (o' := 2) Try.underlying57 rfl Try.sizeOf3 rfl rfl) ?_
            exact d_closes ⟨look_row rfl 12 rfl s12, trivial⟩ 13 rfl rfl rfl hS (AgreeR.refl _) (t_sat (fun _ h => h) (hK () trivial))
           · -- 14
            rintro _ S hF hS D hp K hK
            try dsimp only at hF ⊢
            have s11 := hp 11 rfl
            have s13 := hp 13 rfl
            refine d_need (small := [(97, (.int .i64 ((nxt ax ms.length : Nat) : Int))), (99, (.pointer (some ⟨p, 2, none⟩)))]) ⟨look_row rfl 11 rfl s11, look_row rfl 13 rfl s13, trivial⟩ ?_
            refine t_cF hS ?_
            refine ts (sv_blk Try.sizeOf3 rfl rfl rfl (Nat.le_of_ble_eq_true rfl) rfl) ?_
            exact d_closes0 ⟨look_row rfl 11 rfl s11, look_row rfl 13 rfl s13, trivial⟩ rfl (t_sat (fun _ h => h) (hK () trivial))
          · -- behind
           rintro _ hF
           try dsimp only at hF ⊢
           refine t_weak (E' := [(0, (.pointer (some ⟨p, 0, none⟩))), (1, (.slice bl nw cl)), (6, (.bool true)), (7, (.int .i64 ((k : Nat) : Int))), (8, (.pointer (some ⟨b7, 0, none⟩))), (9, (.int .i64 ((costsL ms ws).getD ax 0))), (17, (.bool false)), (35, (.bool false)), (57, (.bool false)), (75, (.bool false))]) ⟨rfl, rfl, rfl, rfl, rfl, rfl, rfl, rfl, rfl, rfl, trivial⟩ ?_
           refine q_then_n (hK17 _ _ ?_)
           refine c_seq (fun K18 hK18 => ?_)
           refine c_draw (γ := Nat) (n := 12) Try.mixed rfl rfl (fun (b10 : Nat) S => True) (fun (b10 : Nat) => [(0, 100, (.pointer (some ⟨p, 0, none⟩))), (1, 101, (.pointer (some ⟨p, 0, none⟩))), (2, 102, (.pointer (some ⟨p, 1, none⟩))), (3, 103, (.slice bs1 ms.length cp2)), (4, 104, (.pointer (some ⟨p, 0, none⟩))), (5, 105, (.pointer (some ⟨p, 0, none⟩))), (6, 106, (.pointer (some ⟨p, 2, none⟩))), (7, 107, (.int .i64 ((nxt ax ms.length : Nat) : Int))), (8, 108, (.pointer (some (ad bs1 ((nxt ax ms.length) * 3))))), (9, 109, (.agg #[(.int .i64 (((zeroT (costsL ms ws) mx ax).getD (nxt ax ms.length) M3.z).id)), (.int .i64 (((zeroT (costsL ms ws) mx ax).getD (nxt ax ms.length) M3.z).w)), (.int .i64 (((zeroT (costsL ms ws) mx ax).getD (nxt ax ms.length) M3.z).c))])), (10, 10, (.pointer (some ⟨b10, 0, none⟩)))]) (fun (b10 : Nat) S => (Blk p [(.int .i64 q), (.slice bs1 ms.length cp2), (.int .i64 ((nxt ax ms.length : Nat) : Int))] 57) :: (SlV 59 3 (.slice bs1 ms.length cp2) ms.length (recs m3F (zeroT (costsL ms ws) mx ax))) :: (Blk b7 [(.int .i64 ((mx.getD ax M3.z).id)), (.int .i64 ((mx.getD ax M3.z).w)), (.int .i64 ((mx.getD ax M3.z).c))] 59) :: (bif S 11 then (Blk b10 [(.int .i64 (((zeroT (costsL ms ws) mx ax).getD (nxt ax ms.length) M3.z).id)), (.int .i64 (((zeroT (costsL ms ws) mx ax).getD (nxt ax ms.length) M3.z).w)), (.int .i64 (((zeroT (costsL ms ws) mx ax).getD (nxt ax ms.length) M3.z).c))] 59) else (bif S 10 then (Blk b10 [(.int .i64 0), (.int .i64 0), (.int .i64 0)] 59) else Emp)) :: R) (0) trivial (fun _ h => sat_emps [_, _, _] 1 h) (fun _ _ h => h) ?_ ?_
           · -- steps
            refine ⟨?_, ?_, ?_, ?_, ?_, ?_, ?_, ?_, ?_, ?_, ?_, ?_, trivial⟩
            · -- 0
             rintro b10 S hF hS D hp K hK
             try dsimp only at hF ⊢
             refine d_need (small := [(0, (.pointer (some ⟨p, 0, none⟩)))]) ⟨look_b rfl rfl, trivial⟩ ?_
             refine tp rfl (lv_move rfl) ?_
             exact d_closes ⟨look_b rfl rfl, trivial⟩ 0 rfl rfl rfl hS (AgreeR.refl _) (t_sat (fun _ h => h) (hK b10 trivial))
            · -- 1
             rintro b10 S hF hS D hp K hK
             try dsimp only at hF ⊢
             have s0 := hp 0 rfl
             refine d_need (small := [(100, (.pointer (some ⟨p, 0, none⟩)))]) ⟨look_row rfl 0 rfl s0, trivial⟩ ?_
             refine tp rfl (lv_nilCheck rfl) ?_
             exact d_closes ⟨look_row rfl 0 rfl s0, trivial⟩ 1 rfl rfl rfl hS (AgreeR.refl _) (t_sat (fun _ h => h) (hK b10 trivial))
            · -- 2
             rintro b10 S hF hS D hp K hK
             try dsimp only at hF ⊢
             have s1 := hp 1 rfl
             refine d_need (small := [(101, (.pointer (some ⟨p, 0, none⟩)))]) ⟨look_row rfl 1 rfl s1, trivial⟩ ?_
             refine tp rfl (lv_fieldAddr (o' := 1) Try.underlying57 rfl Try.sizeOf55 rfl rfl) ?_
             exact d_closes ⟨look_row rfl 1 rfl s1, trivial⟩ 2 rfl rfl rfl hS (AgreeR.refl _) (t_sat (fun _ h => h) (hK b10 trivial))
            · -- 3
             rintro b10 S hF hS D hp K hK
             try dsimp only at hF ⊢
             have s2 := hp 2 rfl
             refine d_need (small := [(102, (.pointer (some ⟨p, 1, none⟩)))]) ⟨look_row rfl 2 rfl s2, trivial⟩ ?_
             refine tp rfl (lv_load Try.isAgg55 rfl (gives_blk (.head _) rfl)) ?_
             exact d_closes ⟨look_row rfl 2 rfl s2, trivial⟩ 3 rfl rfl rfl hS (AgreeR.refl _) (t_sat (fun _ h => h) (hK b10 trivial))
            · -- 4
             rintro b10 S hF hS D hp K hK
             try dsimp only at hF ⊢
             refine d_need (small := [(0, (.pointer (some ⟨p, 0, none⟩)))]) ⟨look_b rfl rfl, trivial⟩ ?_
             refine tp rfl (lv_move rfl) ?_
             exact d_closes ⟨look_b rfl rfl, trivial⟩ 4 rfl rfl rfl hS (AgreeR.refl _) (t_sat (fun _ h => h) (hK b10 trivial))
            · -- 5
             rintro b10 S hF hS D hp K hK
             try dsimp only at hF ⊢
             have s4 := hp 4 rfl
             refine d_need (small := [(104, (.pointer (some ⟨p, 0, none⟩)))]) ⟨look_row rfl 4 rfl s4, trivial⟩ ?_
             refine tp rfl (lv_nilCheck rfl) ?_
             exact d_closes ⟨look_row rfl 4 rfl s4, trivial⟩ 5 rfl rfl rfl hS (AgreeR.refl _) (t_sat (fun _ h => h) (hK b10 trivial))
            · -- 6
             rintro b10 S hF hS D hp K hK
             try dsimp only at hF ⊢
             have s5 := hp 5 rfl
             refine d_need (small := [(105, (.pointer (some ⟨p, 0, none⟩)))]) ⟨look_row rfl 5 rfl s5, trivial⟩ ?_
             refine tp rfl (lv_fieldAddr (o' := 2) Try.underlying57 rfl Try.sizeOf3 rfl rfl) ?_
             exact d_closes ⟨look_row rfl 5 rfl s5, trivial⟩ 6 rfl rfl rfl hS (AgreeR.refl _) (t_sat (fun _ h => h) (hK b10 trivial))
            · -- 7
             rintro b10 S hF hS D hp K hK
             try dsimp only at hF ⊢
             have s6 := hp 6 rfl
             refine d_need (small := [(106, (.pointer (some ⟨p, 2, none⟩)))]) ⟨look_row rfl 6 rfl s6, trivial⟩ ?_
             refine tp rfl (lv_load Try.isAgg3 rfl (gives_blk (.head _) rfl)) ?_
             exact d_closes ⟨look_row rfl 6 rfl s6, trivial⟩ 7 rfl rfl rfl hS (AgreeR.refl _) (t_sat (fun _ h => h) (hK b10 trivial))
            · -- 8
             rintro b10 S hF hS D hp K hK
             try dsimp only at hF ⊢
             have s3 := hp 3 rfl
             have s7 := hp 7 rfl
             refine d_need (small := [(103, (.slice bs1 ms.length cp2)), (107, (.int .i64 ((nxt ax ms.length : Nat) : Int)))]) ⟨look_row rfl 3 rfl s3, look_row rfl 7 rfl s7, trivial⟩ ?_
             refine tp rfl (lv_indexAddr (k' := (nxt ax ms.length) * 3) Try.underlying55 Try.sizeOf59 rfl rfl hok3 (by omega) (by omega) (by omega)) ?_
             exact d_closes ⟨look_row rfl 3 rfl s3, look_row rfl 7 rfl s7, trivial⟩ 8 rfl rfl rfl hS (AgreeR.refl _) (t_sat (fun _ h => h) (hK b10 trivial))
            · -- 9
             rintro b10 S hF hS D hp K hK
             try dsimp only at hF ⊢
             have s8 := hp 8 rfl
             refine d_need (small := [(108, (.pointer (some (ad bs1 ((nxt ax ms.length) * 3)))))]) ⟨look_row rfl 8 rfl s8, trivial⟩ ?_
             refine tp rfl (lv_loadAgg_ad (cs := [(.int .i64 (((zeroT (costsL ms ws) mx ax).getD (nxt ax ms.length) M3.z).id)), (.int .i64 (((zeroT (costsL ms ws) mx ax).getD (nxt ax ms.length) M3.z).w)), (.int .i64 (((zeroT (costsL ms ws) mx ax).getD (nxt ax ms.length) M3.z).c))]) Try.isAgg59 Try.sizeOf59 rfl (gives_all3 (gives_sl (.tail _ (.head _)) ((recs_get (k := (nxt ax ms.length)) (j := 0) m3F_len (d := M3.z) (by first | omega | (simp; omega)) (Nat.le_of_ble_eq_true rfl)).trans rfl)) (gives_sl (.tail _ (.head _)) ((recs_get (k := (nxt ax ms.length)) (j := 1) m3F_len (d := M3.z) (by first | omega | (simp; omega)) (Nat.le_of_ble_eq_true rfl)).trans rfl)) (gives_sl (.tail _ (.head _)) ((recs_get (k := (nxt ax ms.length)) (j := 2) m3F_len (d := M3.z) (by first | omega | (simp; omega)) (Nat.le_of_ble_eq_true rfl)).trans rfl)))) ?_
             exact d_closes ⟨look_row rfl 8 rfl s8, trivial⟩ 9 rfl rfl rfl hS (AgreeR.refl _) (t_sat (fun _ h => h) (hK b10 trivial))
            · -- 10
             rintro b10 S hF hS D hp K hK
             try dsimp only at hF ⊢
             refine d_need (small := []) trivial ?_
             refine t_f3 ?_
             refine t_cF (nf hS D (k := 11) (i := 10) rfl) ?_
             refine t_cF hS ?_
             refine tm rfl (mv_alloc Try.zeroValue59 rfl) ?_
             rintro _ _ ⟨b10, rfl, rfl⟩
             refine t_f1 ?_
             refine t_wF (A := (Blk b10 [(.int .i64 0), (.int .i64 0), (.int .i64 0)] 59)) hS ?_
             refine t_wF (A := (Blk b10 [(.int .i64 (((zeroT (costsL ms ws) mx ax).getD (nxt ax ms.length) M3.z).id)), (.int .i64 (((zeroT (costsL ms ws) mx ax).getD (nxt ax ms.length) M3.z).w)), (.int .i64 (((zeroT (costsL ms ws) mx ax).getD (nxt ax ms.length) M3.z).c))] 59)) (nf hS D (k := 11) (i := 10) rfl) ?_
             refine t_f1 ?_
             refine t_wF (A := (Blk b10 [(.int .i64 (((zeroT (costsL ms ws) mx ax).getD (nxt ax ms.length) M3.z).id)), (.int .i64 (((zeroT (costsL ms ws) mx ax).getD (nxt ax ms.length) M3.z).w)), (.int .i64 (((zeroT (costsL ms ws) mx ax).getD (nxt ax ms.length) M3.z).c))] 59)) (nf hS D (k := 11) (i := 10) rfl) ?_
             refine t_f1 ?_
             refine t_f4 ?_
             refine t_f4 ?_
             refine t_f4 ?_
             refine t_f4 ?_
             refine t_sat (fun _ h => sat_put [_, _, _] h) ?_
             exact d_closes trivial 10 rfl rfl rfl hS (by exact ⟨.inl rfl, .inl rfl, .inl rfl, .inl rfl, .inl rfl, .inl rfl, .inl rfl, .inl rfl, .inl rfl, .inl rfl, .inr ⟨rfl, rfl, hS⟩, trivial⟩) (t_sat (fun _ h => h) (hK b10 trivial))
            · -- 11
             rintro b10 S hF hS D hp K hK
             try dsimp only at hF ⊢
             have s10 := hp 10 rfl
             have s9 := hp 9 rfl
             refine d_need (small := [(10, (.pointer (some ⟨b10, 0, none⟩))), (109, (.agg #[(.int .i64 (((zeroT (costsL ms ws) mx ax).getD (nxt ax ms.length) M3.z).id)), (.int .i64 (((zeroT (costsL ms ws) mx ax).getD (nxt ax ms.length) M3.z).w)), (.int .i64 (((zeroT (costsL ms ws) mx ax).getD (nxt ax ms.length) M3.z).c))]))]) ⟨look_row rfl 10 rfl s10, look_row rfl 9 rfl s9, trivial⟩ ?_
             refine t_f3 ?_
             refine t_cF hS ?_
             refine t_cT s10 ?_
             refine ts (sv_blkAgg (news := [(.int .i64 (((zeroT (costsL ms ws) mx ax).getD (nxt ax ms.length) M3.z).id)), (.int .i64 (((zeroT (costsL ms ws) mx ax).getD (nxt ax ms.length) M3.z).w)), (.int .i64 (((zeroT (costsL ms ws) mx ax).getD (nxt ax ms.length) M3.z).c))]) Try.sizeOf59 rfl rfl rfl rfl (Nat.le_of_ble_eq_true rfl) rfl) ?_
             refine t_f3 ?_
             refine t_f3 ?_
             refine t_f3 ?_
             exact d_closes0 ⟨look_row rfl 10 rfl s10, look_row rfl 9 rfl s9, trivial⟩ rfl (t_sat (fun _ h => h) (hK b10 trivial))
           · -- behind
            rintro b10 hF
            try dsimp only at hF ⊢
            refine t_weak (E' := [(0, (.pointer (some ⟨p, 0, none⟩))), (1, (.slice bl nw cl)), (6, (.bool true)), (7, (.int .i64 ((k : Nat) : Int))), (8, (.pointer (some ⟨b7, 0, none⟩))), (9, (.int .i64 ((costsL ms ws).getD ax 0))), (10, (.pointer (some ⟨b10, 0, none⟩))), (17, (.bool false)), (35, (.bool false)), (57, (.bool false)), (75, (.bool false))]) ⟨rfl, rfl, rfl, rfl, rfl, rfl, rfl, rfl, rfl, rfl, rfl, trivial⟩ ?_
            refine q_then_n (hK18 _ _ ?_)
            refine c_seq (fun K19 hK19 => ?_)
            refine c_region ?_
            have hzi := zero_id (cs := costsL ms ws) hal (nxt ax ms.length)
            have hzb := zero_bd (cs := costsL ms ws) htb hq hal (i := nxt ax ms.length) (by omega)
            have hgj := htb.gn hq (i := nxt ax ms.length) (by omega)
            have hcj : costOf ws ((zeroT (costsL ms ws) mx ax).getD (nxt ax ms.length) M3.z).id = (costsL ms ws).getD (nxt ax ms.length) 0 := by rw [hzi.1]; exact hsn.cost hnl
            have hgz : 0 ≤ q * ((zeroT (costsL ms ws) mx ax).getD (nxt ax ms.length) M3.z).w ∧ q * ((zeroT (costsL ms ws) mx ax).getD (nxt ax ms.length) M3.z).w ≤ 104857600 := by rw [hzi.2]; exact hgj
            refine tp rfl (lv_move rfl) ?_
            refine tp rfl (lv_fieldAddr (o' := 0) Try.underlying59 rfl Try.sizeOf3 rfl rfl) ?_
            refine tp rfl (lv_load Try.isAgg3 rfl (gives_blk (.tail _ (.tail _ (.tail _ (.head _)))) rfl)) ?_
            refine tc rfl (en_fn Try.call29 rfl) (rcost_ok ws hwl (((zeroT (costsL ms ws) mx ax).getD (nxt ax ms.length) M3.z).id) (Rd.cons (Rd.cons (Rd.cons (Rd.cons hw)))) okl (by omega)) ?_
            rintro _ _ ⟨rfl, rfl⟩
            rw [show costOf ws (((zeroT (costsL ms ws) mx ax).getD (nxt ax ms.length) M3.z).id) = (costsL ms ws).getD (nxt ax ms.length) 0 from hcj]
            by_cases h10 : ((costsL ms ws).getD (nxt ax ms.length) 0) > 0
            · -- yes
             refine tp rfl (lv_gtr rfl rfl (decide_eq_true h10)) ?_
             refine t_done ?_
             refine q_then_n (hK19 _ _ ?_)
             refine c_true rfl ?_
             refine c_draw (γ := Unit) (n := 21) Try.mixed rfl rfl (fun _ S => True) (fun _ => [(0, 115, (.pointer (some ⟨p, 0, none⟩))), (1, 116, (.pointer (some ⟨p, 0, none⟩))), (2, 117, (.pointer (some ⟨p, 1, none⟩))), (3, 118, (.slice bs1 ms.length cp2)), (4, 119, (.pointer (some ⟨p, 0, none⟩))), (5, 120, (.pointer (some ⟨p, 0, none⟩))), (6, 121, (.pointer (some ⟨p, 2, none⟩))), (7, 122, (.int .i64 ((nxt ax ms.length : Nat) : Int))), (8, 123, (.pointer (some ⟨b10, 2, none⟩))), (9, 124, (.int .i64 (((zeroT (costsL ms ws) mx ax).getD (nxt ax ms.length) M3.z).c))), (10, 125, (.pointer (some ⟨p, 0, none⟩))), (11, 126, (.pointer (some ⟨p, 0, none⟩))), (12, 127, (.pointer (some ⟨p, 0, none⟩))), (13, 128, (.int .i64 q)), (14, 129, (.pointer (some ⟨b10, 1, none⟩))), (15, 130, (.int .i64 (((zeroT (costsL ms ws) mx ax).getD (nxt ax ms.length) M3.z).w))), (16, 131, (.int .i64 (q * (((zeroT (costsL ms ws) mx ax).getD (nxt ax ms.length) M3.z).w)))), (17, 132, (.int .i64 ((((zeroT (costsL ms ws) mx ax).getD (nxt ax ms.length) M3.z).c) + (q * (((zeroT (costsL ms ws) mx ax).getD (nxt ax ms.length) M3.z).w))))), (18, 133, (.pointer (some (ad bs1 ((nxt ax ms.length) * 3))))), (19, 134, (.pointer (some (ad bs1 ((nxt ax ms.length) * 3 + 2)))))]) (fun _ S => (Blk p [(.int .i64 q), (.slice bs1 ms.length cp2), (.int .i64 ((nxt ax ms.length : Nat) : Int))] 57) :: (bif S 20 then (SlV 59 3 (.slice bs1 ms.length cp2) ms.length (recs m3F ((zeroT (costsL ms ws) mx ax).set (nxt ax ms.length) ⟨((zeroT (costsL ms ws) mx ax).getD (nxt ax ms.length) M3.z).id, ((zeroT (costsL ms ws) mx ax).getD (nxt ax ms.length) M3.z).w, (((zeroT (costsL ms ws) mx ax).getD (nxt ax ms.length) M3.z).c) + (q * (((zeroT (costsL ms ws) mx ax).getD (nxt ax ms.length) M3.z).w))⟩))) else (SlV 59 3 (.slice bs1 ms.length cp2) ms.length (recs m3F (zeroT (costsL ms ws) mx ax)))) :: (Blk b7 [(.int .i64 ((mx.getD ax M3.z).id)), (.int .i64 ((mx.getD ax M3.z).w)), (.int .i64 ((mx.getD ax M3.z).c))] 59) :: (Blk b10 [(.int .i64 (((zeroT (costsL ms ws) mx ax).getD (nxt ax ms.length) M3.z).id)), (.int .i64 (((zeroT (costsL ms ws) mx ax).getD (nxt ax ms.length) M3.z).w)), (.int .i64 (((zeroT (costsL ms ws) mx ax).getD (nxt ax ms.length) M3.z).c))] 59) :: R) (()) trivial (fun _ h => h) (fun _ _ h => h) ?_ ?_
             · -- steps
              refine ⟨?_, ?_, ?_, ?_, ?_, ?_, ?_, ?_, ?_, ?_, ?_, ?_, ?_, ?_, ?_, ?_, ?_, ?_, ?_, ?_, ?_, trivial⟩
              · -- 0
               rintro _ S hF hS D hp K hK
               try dsimp only at hF ⊢
               refine d_need (small := [(0, (.pointer (some ⟨p, 0, none⟩)))]) ⟨look_b rfl rfl, trivial⟩ ?_
               refine tp rfl (lv_move rfl) ?_
               exact d_closes ⟨look_b rfl rfl, trivial⟩ 0 rfl rfl rfl hS (AgreeR.refl _) (t_sat (fun _ h => h) (hK () trivial))
              · -- 1
               rintro _ S hF hS D hp K hK
               try dsimp only at hF ⊢
               have s0 := hp 0 rfl
               refine d_need (small := [(115, (.pointer (some ⟨p, 0, none⟩)))]) ⟨look_row rfl 0 rfl s0, trivial⟩ ?_
               refine tp rfl (lv_nilCheck rfl) ?_
               exact d_closes ⟨look_row rfl 0 rfl s0, trivial⟩ 1 rfl rfl rfl hS (AgreeR.refl _) (t_sat (fun _ h => h) (hK () trivial))
              · -- 2
               rintro _ S hF hS D hp K hK
               try dsimp only at hF ⊢
               have s1 := hp 1 rfl
               refine d_need (small := [(116, (.pointer (some ⟨p, 0, none⟩)))]) ⟨look_row rfl 1 rfl s1, trivial⟩ ?_
               refine tp rfl (lv_fieldAddr (o' := 1) Try.underlying57 rfl Try.sizeOf55 rfl rfl) ?_
               exact d_closes ⟨look_row rfl 1 rfl s1, trivial⟩ 2 rfl rfl rfl hS (AgreeR.refl _) (t_sat (fun _ h => h) (hK () trivial))
              · -- 3
               rintro _ S hF hS D hp K hK
               try dsimp only at hF ⊢
               have s2 := hp 2 rfl
               refine d_need (small := [(117, (.pointer (some ⟨p, 1, none⟩)))]) ⟨look_row rfl 2 rfl s2, trivial⟩ ?_
               refine tp rfl (lv_load Try.isAgg55 rfl (gives_blk (.head _) rfl)) ?_
               exact d_closes ⟨look_row rfl 2 rfl s2, trivial⟩ 3 rfl rfl rfl hS (AgreeR.refl _) (t_sat (fun _ h => h) (hK () trivial))
              · -- 4
               rintro _ S hF hS D hp K hK
               try dsimp only at hF ⊢
               refine d_need (small := [(0, (.pointer (some ⟨p, 0, none⟩)))]) ⟨look_b rfl rfl, trivial⟩ ?_
               refine tp rfl (lv_move rfl) ?_
               exact d_closes ⟨look_b rfl rfl, trivial⟩ 4 rfl rfl rfl hS (AgreeR.refl _) (t_sat (fun _ h => h) (hK () trivial))
              · -- 5
               rintro _ S hF hS D hp K hK
               try dsimp only at hF ⊢
               have s4 := hp 4 rfl
               refine d_need (small := [(119, (.pointer (some ⟨p, 0, none⟩)))]) ⟨look_row rfl 4 rfl s4, trivial⟩ ?_
               refine tp rfl (lv_nilCheck rfl) ?_
               exact d_closes ⟨look_row rfl 4 rfl s4, trivial⟩ 5 rfl rfl rfl hS (AgreeR.refl _) (t_sat (fun _ h => h) (hK () trivial))
              · -- 6
               rintro _ S hF hS D hp K hK
               try dsimp only at hF ⊢
               have s5 := hp 5 rfl
               refine d_need (small := [(120, (.pointer (some ⟨p, 0, none⟩)))]) ⟨look_row rfl 5 rfl s5, trivial⟩ ?_
               refine tp rfl (lv_fieldAddr (o' := 2) Try.underlying57 rfl Try.sizeOf3 rfl rfl) ?_
               exact d_closes ⟨look_row rfl 5 rfl s5, trivial⟩ 6 rfl rfl rfl hS (AgreeR.refl _) (t_sat (fun _ h => h) (hK () trivial))
              · -- 7
               rintro _ S hF hS D hp K hK
               try dsimp only at hF ⊢
               have s6 := hp 6 rfl
               refine d_need (small := [(121, (.pointer (some ⟨p, 2, none⟩)))]) ⟨look_row rfl 6 rfl s6, trivial⟩ ?_
               refine tp rfl (lv_load Try.isAgg3 rfl (gives_blk (.head _) rfl)) ?_
               exact d_closes ⟨look_row rfl 6 rfl s6, trivial⟩ 7 rfl rfl rfl hS (AgreeR.refl _) (t_sat (fun _ h => h) (hK () trivial))
              · -- 8
               rintro _ S hF hS D hp K hK
               try dsimp only at hF ⊢
               refine d_need (small := [(10, (.pointer (some ⟨b10, 0, none⟩)))]) ⟨look_b rfl rfl, trivial⟩ ?_
               refine tp rfl (lv_fieldAddr (o' := 2) Try.underlying59 rfl Try.sizeOf3 rfl rfl) ?_
               exact d_closes ⟨look_b rfl rfl, trivial⟩ 8 rfl rfl rfl hS (AgreeR.refl _) (t_sat (fun _ h => h) (hK () trivial))
              · -- 9
               rintro _ S hF hS D hp K hK
               try dsimp only at hF ⊢
               have s8 := hp 8 rfl
               refine d_need (small := [(123, (.pointer (some ⟨b10, 2, none⟩)))]) ⟨look_row rfl 8 rfl s8, trivial⟩ ?_
               refine tp rfl (lv_load Try.isAgg3 rfl (gives_blk (.tail _ (.tail _ (.tail _ (.head _)))) rfl)) ?_
               exact d_closes ⟨look_row rfl 8 rfl s8, trivial⟩ 9 rfl rfl rfl hS (AgreeR.refl _) (t_sat (fun _ h => h) (hK () trivial))
              · -- 10
               rintro _ S hF hS D hp K hK
               try dsimp only at hF ⊢
               refine d_need (small := [(0, (.pointer (some ⟨p, 0, none⟩)))]) ⟨look_b rfl rfl, trivial⟩ ?_
               refine tp rfl (lv_move rfl) ?_
               exact d_closes ⟨look_b rfl rfl, trivial⟩ 10 rfl rfl rfl hS (AgreeR.refl _) (t_sat (fun _ h => h) (hK () trivial))
              · -- 11
               rintro _ S hF hS D hp K hK
               try dsimp only at hF ⊢
               have s10 := hp 10 rfl
               refine d_need (small := [(125, (.pointer (some ⟨p, 0, none⟩)))]) ⟨look_row rfl 10 rfl s10, trivial⟩ ?_
               refine tp rfl (lv_nilCheck rfl) ?_
               exact d_closes ⟨look_row rfl 10 rfl s10, trivial⟩ 11 rfl rfl rfl hS (AgreeR.refl _) (t_sat (fun _ h => h) (hK () trivial))
              · -- 12
               rintro _ S hF hS D hp K hK
               try dsimp only at hF ⊢
               have s11 := hp 11 rfl
               refine d_need (small := [(126, (.pointer (some ⟨p, 0, none⟩)))]) ⟨look_row rfl 11 rfl s11, trivial⟩ ?_
               refine tp rfl (lv_fieldAddr (o' := 0) Try.underlying57 rfl Try.sizeOf3 rfl rfl) ?_
               exact d_closes ⟨look_row rfl 11 rfl s11, trivial⟩ 12 rfl rfl rfl hS (AgreeR.refl _) (t_sat (fun _ h => h) (hK () trivial))
              · -- 13
               rintro _ S hF hS D hp K hK
               try dsimp only at hF ⊢
               have s12 := hp 12 rfl
               refine d_need (small := [(127, (.pointer (some ⟨p, 0, none⟩)))]) ⟨look_row rfl 12 rfl s12, trivial⟩ ?_
               refine tp rfl (lv_load Try.isAgg3 rfl (gives_blk (.head _) rfl)) ?_
               exact d_closes ⟨look_row rfl 12 rfl s12, trivial⟩ 13 rfl rfl rfl hS (AgreeR.refl _) (t_sat (fun _ h => h) (hK () trivial))
              · -- 14
               rintro _ S hF hS D hp K hK
               try dsimp only at hF ⊢
               refine d_need (small := [(10, (.pointer (some ⟨b10, 0, none⟩)))]) ⟨look_b rfl rfl, trivial⟩ ?_
               refine tp rfl (lv_fieldAddr (o' := 1) Try.underlying59 rfl Try.sizeOf3 rfl rfl) ?_
               exact d_closes ⟨look_b rfl rfl, trivial⟩ 14 rfl rfl rfl hS (AgreeR.refl _) (t_sat (fun _ h => h) (hK () trivial))
              · -- 15
               rintro _ S hF hS D hp K hK
               try dsimp only at hF ⊢
               have s14 := hp 14 rfl
               refine d_need (small := [(129, (.pointer (some ⟨b10, 1, none⟩)))]) ⟨look_row rfl 14 rfl s14, trivial⟩ ?_
               refine tp rfl (lv_load Try.isAgg3 rfl (gives_blk (.tail _ (.tail _ (.tail _ (.head _)))) rfl)) ?_
               exact d_closes ⟨look_row rfl 14 rfl s14, trivial⟩ 15 rfl rfl rfl hS (AgreeR.refl _) (t_sat (fun _ h => h) (hK () trivial))
              · -- 16
               rintro _ S hF hS D hp K hK
               try dsimp only at hF ⊢
               have s13 := hp 13 rfl
               have s15 := hp 15 rfl
               refine d_need (small := [(128, (.int .i64 q)), (130, (.int .i64 (((zeroT (costsL ms ws) mx ax).getD (nxt ax ms.length) M3.z).w)))]) ⟨look_row rfl 13 rfl s13, look_row rfl 15 rfl s15, trivial⟩ ?_
               refine tp rfl (lv_mul (c := q * (((zeroT (costsL ms ws) mx ax).getD (nxt ax ms.length) M3.z).w)) rfl rfl (wr_i64 (by omega) (by omega))) ?_
               exact d_closes ⟨look_row rfl 13 rfl s13, look_row rfl 15 rfl s15, trivial⟩ 16 rfl rfl rfl hS (AgreeR.refl _) (t_sat (fun _ h => h) (hK () trivial))
              · -- 17
               rintro _ S hF hS D hp K hK
               try dsimp only at hF ⊢
               have s9 := hp 9 rfl
               have s16 := hp 16 rfl
               refine d_need (small := [(124, (.int .i64 (((zeroT (costsL ms ws) mx ax).getD (nxt ax ms.length) M3.z).c))), (131, (.int .i64 (q * (((zeroT (costsL ms ws) mx ax).getD (nxt ax ms.length) M3.z).w))))]) ⟨look_row rfl 9 rfl s9, look_row rfl 16 rfl s16, trivial⟩ ?_
               refine tp rfl (lv_add (c := (((zeroT (costsL ms ws) mx ax).getD (nxt ax ms.length) M3.z).c) + (q * (((zeroT (costsL ms ws) mx ax).getD (nxt ax ms.length) M3.z).w))) rfl rfl (wr_i64 (by omega) (by omega))) ?_
               exact d_closes ⟨look_row rfl 9 rfl s9, look_row rfl 16 rfl s16, trivial⟩ 17 rfl rfl rfl hS (AgreeR.refl _) (t_sat (fun _ h => h) (hK () trivial))
              · -- 18
               rintro _ S hF hS D hp K hK
               try dsimp only at hF ⊢
               have s3 := hp 3 rfl
               have s7 := hp 7 rfl
               refine d_need (small := [(118, (.slice bs1 ms.length cp2)), (122, (.int .i64 ((nxt ax ms.length : Nat) : Int)))]) ⟨look_row rfl 3 rfl s3, look_row rfl 7 rfl s7, trivial⟩ ?_
               refine tp rfl (lv_indexAddr (k' := (nxt ax ms.length) * 3) Try.underlying55 Try.sizeOf59 rfl rfl hok3 (by omega) (by omega) (by omega)) ?_
               exact d_closes ⟨look_row rfl 3 rfl s3, look_row rfl 7 rfl s7, trivial⟩ 18 rfl rfl rfl hS (AgreeR.refl _) (t_sat (fun _ h => h) (hK () trivial))
              · -- 19
               rintro _ S hF hS D hp K hK
               try dsimp only at hF ⊢
               have s18 := hp 18 rfl
               refine d_need (small := [(133, (.pointer (some (ad bs1 ((nxt ax ms.length) * 3)))))]) ⟨look_row rfl 18 rfl s18, trivial⟩ ?_
               refine tp rfl (lv_fieldAddr_ad (o' := (nxt ax ms.length) * 3 + 2) Try.underlying59 rfl Try.sizeOf3 rfl rfl) ?_
               exact d_closes ⟨look_row rfl 18 rfl s18, trivial⟩ 19 rfl rfl rfl hS (AgreeR.refl _) (t_sat (fun _ h => h) (hK () trivial))
              · -- 20
               rintro _ S hF hS D hp K hK
               try dsimp only at hF ⊢
               have s17 := hp 17 rfl
               have s19 := hp 19 rfl
               refine d_need (small := [(132, (.int .i64 ((((zeroT (costsL ms ws) mx ax).getD (nxt ax ms.length) M3.z).c) + (q * (((zeroT (costsL ms ws) mx ax).getD (nxt ax ms.length) M3.z).w))))), (134, (.pointer (some (ad bs1 ((nxt ax ms.length) * 3 + 2)))))]) ⟨look_row rfl 17 rfl s17, look_row rfl 19 rfl s19, trivial⟩ ?_
               refine t_f1 ?_
               refine t_cF hS ?_
               refine ts (sv_sl Try.sizeOf3 rfl rfl rfl (by rw [recs_len m3F_len]; omega) (recs_set (k := (nxt ax ms.length)) (j := 2) m3F_len (d := M3.z) (x' := ⟨((zeroT (costsL ms ws) mx ax).getD (nxt ax ms.length) M3.z).id, ((zeroT (costsL ms ws) mx ax).getD (nxt ax ms.length) M3.z).w, (((zeroT (costsL ms ws) mx ax).getD (nxt ax ms.length) M3.z).c) + (q * (((zeroT (costsL ms ws) mx ax).getD (nxt ax ms.length) M3.z).w))⟩) (by omega) (Nat.le_of_ble_eq_true rfl) rfl)) ?_
               refine t_f1 ?_
               exact d_closes0 ⟨look_row rfl 17 rfl s17, look_row rfl 19 rfl s19, trivial⟩ rfl (t_sat (fun _ h => h) (hK () trivial))
             · -- behind
              rintro _ hF
              try dsimp only at hF ⊢
              refine t_weak (E' := [(0, (.pointer (some ⟨p, 0, none⟩))), (1, (.slice bl nw cl)), (6, (.bool true)), (7, (.int .i64 ((k : Nat) : Int))), (8, (.pointer (some ⟨b7, 0, none⟩))), (9, (.int .i64 ((costsL ms ws).getD ax 0))), (10, (.pointer (some ⟨b10, 0, none⟩))), (17, (.bool false)), (35, (.bool false)), (57, (.bool false)), (75, (.bool false)), (114, (.bool true))]) ⟨rfl, rfl, rfl, rfl, rfl, rfl, rfl, rfl, rfl, rfl, rfl, rfl, trivial⟩ ?_
              refine q_in_n ?_
              refine q_then_n ?_
              refine t_f2 ?_
              refine t_drop ?_
              refine t_f2 ?_
              refine t_drop ?_
              rw [show recs m3F ((zeroT (costsL ms ws) mx ax).set (nxt ax ms.length) ⟨((zeroT (costsL ms ws) mx ax).getD (nxt ax ms.length) M3.z).id, ((zeroT (costsL ms ws) mx ax).getD (nxt ax ms.length) M3.z).w, (((zeroT (costsL ms ws) mx ax).getD (nxt ax ms.length) M3.z).c) + (q * (((zeroT (costsL ms ws) mx ax).getD (nxt ax ms.length) M3.z).w))⟩) = recs m3F (gainT q (costsL ms ws) (zeroT (costsL ms ws) mx ax) (nxt ax ms.length)) from congrArg _ (by unfold gainT; first | rw [if_pos (by omega)]; rfl | rw [if_neg (by omega)])]
              exact t_weak (by exact ⟨rfl, rfl, rfl, rfl, rfl, rfl, trivial⟩) ((hK10 (k2, gainT q (costsL ms ws) (zeroT (costsL ms ws) mx ax) (nxt ax ms.length), nxt ax ms.length) ⟨hk3, by have := htb.step hq.1 hcb hal hr; rw [hlx] at this; exact this, by have := hsn.step (q := q) (cs := costsL ms ws) hal; rw [hlx] at this; exact this, nxt_lt hal0⟩ (by dsimp only; omega)))
            · -- no
             refine tp rfl (lv_gtr rfl rfl (decide_eq_false h10)) ?_
             refine t_done ?_
             refine q_then_n (hK19 _ _ ?_)
             refine c_false rfl ?_
             refine c_skip ?_
             refine q_in_n ?_
             refine q_then_n ?_
             refine t_f2 ?_
             refine t_drop ?_
             refine t_f2 ?_
             refine t_drop ?_
             rw [show recs m3F (zeroT (costsL ms ws) mx ax) = recs m3F (gainT q (costsL ms ws) (zeroT (costsL ms ws) mx ax) (nxt ax ms.length)) from congrArg _ (by unfold gainT; first | rw [if_pos (by omega)]; rfl | rw [if_neg (by omega)])]
             exact t_weak (by exact ⟨rfl, rfl, rfl, rfl, rfl, rfl, trivial⟩) ((hK10 (k2, gainT q (costsL ms ws) (zeroT (costsL ms ws) mx ax) (nxt ax ms.length), nxt ax ms.length) ⟨hk3, by have := htb.step hq.1 hcb hal hr; rw [hlx] at this; exact this, by have := hsn.step (q := q) (cs := costsL ms ws) hal; rw [hlx] at this; exact this, nxt_lt hal0⟩ (by dsimp only; omega)))
        · -- which
         by_cases hc7A : ((costsL ms ws).getD ax 0) > 0
         ·
          have hc7B : ¬ (((mx.getD ax M3.z).c) ≥ ((costsL ms ws).getD ax 0)) := fun hh => hc7 ⟨hc7A, hh⟩
          refine tp rfl (lv_move rfl) ?_
          refine tp rfl (lv_gtr rfl rfl (decide_eq_true hc7A)) ?_
          refine tp rfl (lv_move rfl) ?_
          refine t_guard rfl rfl ?_
          refine tp rfl (lv_fieldAddr (o' := 2) Try.underlying59 rfl Try.sizeOf3 rfl rfl) ?_
          refine t_guard rfl rfl ?_
          refine tp rfl (lv_load Try.isAgg3 rfl (gives_blk (.tail _ (.tail _ (.head _))) rfl)) ?_
          refine t_guard rfl rfl ?_
          refine tp rfl (lv_move rfl) ?_
          refine t_guard rfl rfl ?_
          refine tp rfl (lv_geq rfl rfl (decide_eq_false hc7B)) ?_
          refine tp rfl (lv_pick_t rfl rfl) ?_
          exact t_done (t_weak (by exact ⟨rfl, rfl, rfl, rfl, rfl, rfl, rfl, rfl, rfl, trivial⟩) hKK)
         ·
          refine tp rfl (lv_move rfl) ?_
          refine tp rfl (lv_gtr rfl rfl (decide_eq_false hc7A)) ?_
          refine tp rfl (lv_move rfl) ?_
          refine t_skip rfl rfl rfl ?_
          refine t_skip rfl rfl rfl ?_
          refine t_skip rfl rfl rfl ?_
          refine t_skip rfl rfl rfl ?_
          refine tp rfl (lv_pick_f rfl rfl) ?_
          exact t_done (t_weak (by exact ⟨rfl, rfl, rfl, rfl, rfl, rfl, rfl, rfl, rfl, trivial⟩) hKK)
end Go.Proofs.Ytkhceihokoheaaa
