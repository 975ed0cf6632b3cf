/- The document's turns: contracts. -/
import Derived.Test.YtkhceihokoheaaaTc
import Derived.Test.YtkhceihokoheaaaRtn
set_option maxRecDepth 100000
set_option linter.unusedVariables false
set_option linter.unusedSimpArgs false
namespace Go.Proofs.Ytkhceihokoheaaa
open Go Go.Proofs Sp
theorem rtnew_ok {R : List HP} (x : Int) :
    Ok Try.prog 18 [(.int .i64 x)] R
      (fun v M => ∃ p, v = .pointer (some ⟨p, 0, none⟩) ∧ M = RTurnsO p (qOf x) [] 0 :: R) := by
  refine ok_of (N := 8) Try.func18 rfl rfl rfl (fun W => ?_)
  refine c_seq (fun K1 hK1 => ?_)
  refine c_region ?_
  refine tp rfl (lv_assign rfl) ?_
  refine t_done ?_
  refine q_then_n (hK1 _ _ ?_)
  refine c_seq (fun K2 hK2 => ?_)
  refine c_region ?_
  refine tp rfl (lv_move rfl) ?_
  refine tp rfl (lv_max (c := max x 1) rfl rfl rfl) ?_
  refine tp rfl (lv_min (c := min (max x 1) 1048576) rfl rfl rfl) ?_
  refine tp rfl (lv_build (cs := [(.int .i64 (min (max x 1) 1048576)), (.slice none 0 0), (.int .i64 0)]) (pl := [(0, 1), (1, 1), (2, 1)]) Try.underlying57 Try.zeroValue57 (fun _ => by simp) rfl rfl) ?_
  refine tm rfl (mv_box rfl rfl) ?_
  rintro _ _ ⟨b1, rfl, rfl⟩
  refine tp rfl (lv_assign rfl) ?_
  refine t_done ?_
  refine q_then_n (hK2 _ _ ?_)
  refine c_ret ?_
  refine t_newRT ?_
  refine q_ret rfl rfl ?_
  exact ⟨_, rfl, rfl⟩

theorem rtfind_ok {R : List HP} {p cl : Nat} {v1 v2 : Value} {bl : Option Addr} {ms : List M3} (id : Int) (okl : SlOk bl ms.length) (hb : ms.length ≤ 100000) :
    Ok Try.prog 22 [(.pointer (some ⟨p, 0, none⟩)), (.int .i64 id)] ((Blk p [v1, (.slice bl ms.length cl), v2] 57) :: (SlV 59 3 (.slice bl ms.length cl) ms.length (recs m3F ms)) :: R)
      (fun v M => v = .int .i64 (placeM ms id) ∧ M = Blk p [v1, .slice bl ms.length cl, v2] 57 :: SlV 59 3 (.slice bl ms.length cl) ms.length (recs m3F ms) :: R) := by
  refine ok_of (N := 26) Try.func22 rfl rfl rfl (fun W => ?_)
  refine c_seq (fun K1 hK1 => ?_)
  refine c_region ?_
  refine tp rfl (lv_assign rfl) ?_
  refine t_done ?_
  refine q_then_n (hK1 _ _ ?_)
  refine c_seq (fun K2 hK2 => ?_)
  refine c_seq (fun K3 hK3 => ?_)
  refine c_region ?_
  refine tp rfl (lv_assign rfl) ?_
  refine t_done ?_
  refine q_then_n (hK3 _ _ ?_)
  refine c_block ?_
  refine c_loop (γ := (Nat)) (fun (k : Nat) => k ≤ ms.length ∧ (∀ j, j < k → decide ((ms.getD j M3.z).id = id) = false)) (fun (k : Nat) => [(0, (.pointer (some ⟨p, 0, none⟩))), (1, (.int .i64 id)), (5, (.int .i64 ((k : Nat) : Int)))]) (fun (k : Nat) => (Blk p [v1, (.slice bl ms.length cl), v2] 57) :: (SlV 59 3 (.slice bl ms.length cl) ms.length (recs m3F ms)) :: R) (fun (k : Nat) => ms.length - k) (0) ⟨by omega, fun j hj => by omega⟩ ⟨rfl, rfl, rfl, trivial⟩ (fun _ h => h) ?_
  rintro k K4 hF hK4
  try dsimp only at hF hK4 ⊢
  obtain ⟨hk, hall⟩ := hF
  refine c_seq (fun K5 hK5 => ?_)
  refine c_seq (fun K6 hK6 => ?_)
  refine c_region ?_
  refine tp rfl (lv_move rfl) ?_
  refine tp rfl (lv_move rfl) ?_
  refine tp rfl (lv_nilCheck rfl) ?_
  refine tp rfl (lv_fieldAddr (o' := 1) Try.underlying57 rfl Try.sizeOf55 rfl rfl) ?_
  refine tp rfl (lv_load Try.isAgg55 rfl (gives_blk (.head _) rfl)) ?_
  refine tp rfl (lv_len Try.underlying55 rfl rfl) ?_
  by_cases h1 : ((k : Nat) : Int) < ((ms.length : Nat) : Int)
  · -- yes
    refine tp rfl (lv_lss rfl rfl (decide_eq_true h1)) ?_
    refine t_done ?_
    refine q_then_n (hK6 _ _ ?_)
    refine c_true rfl ?_
    refine c_skip ?_
    refine q_then_n (hK5 _ _ ?_)
    refine c_seq (fun K7 hK7 => ?_)
    refine c_block ?_
    refine c_seq (fun K8 hK8 => ?_)
    refine c_region ?_
    refine tp rfl (lv_move rfl) ?_
    refine tp rfl (lv_nilCheck rfl) ?_
    refine tp rfl (lv_fieldAddr (o' := 1) Try.underlying57 rfl Try.sizeOf55 rfl rfl) ?_
    refine tp rfl (lv_load Try.isAgg55 rfl (gives_blk (.head _) rfl)) ?_
    refine tp rfl (lv_move rfl) ?_
    refine tp rfl (lv_indexAddr (k' := k * 3) Try.underlying55 Try.sizeOf59 rfl rfl okl (by omega) (by omega) (by omega)) ?_
    refine tp rfl (lv_fieldAddr_ad (o' := k * 3) Try.underlying59 rfl Try.sizeOf3 rfl rfl) ?_
    refine tp rfl (lv_load Try.isAgg3 rfl (gives_sl (.tail _ (.head _)) ((recs_get (k := k) (j := 0) m3F_len (d := M3.z) (by omega) (Nat.le_of_ble_eq_true rfl)).trans rfl))) ?_
    refine tp rfl (lv_move rfl) ?_
    by_cases heq : ((ms.getD k M3.z).id) = id
    · -- yes
      refine tp rfl (lv_eql rfl rfl (beq_iff_eq.2 heq)) ?_
      refine t_done ?_
      refine q_then_n (hK8 _ _ ?_)
      refine c_true rfl ?_
      refine c_seq (fun K9 hK9 => ?_)
      refine c_region ?_
      refine tp rfl (lv_move rfl) ?_
      refine tp rfl (lv_assign rfl) ?_
      refine t_done ?_
      refine q_then_n (hK9 _ _ ?_)
      refine c_ret ?_
      refine q_in_r ?_
      refine q_then_r ?_
      refine q_then_r ?_
      refine q_in_r ?_
      refine q_then_r ?_
      refine q_ret rfl rfl ?_
      exact ⟨by rw [← placeM_idxN, idxN_at (k := k) (by omega) (decide_eq_true heq) hall], rfl⟩
    · -- no
      refine tp rfl (lv_eql rfl rfl (beq_eq_false_iff_ne.2 heq)) ?_
      refine t_done ?_
      refine q_then_n (hK8 _ _ ?_)
      refine c_false rfl ?_
      refine c_skip ?_
      refine q_in_n ?_
      refine q_then_n (hK7 _ _ ?_)
      refine c_region ?_
      refine tp rfl (lv_move rfl) ?_
      refine tp rfl (lv_add (c := ((k + 1 : Nat) : Int)) rfl rfl (wr_i64_succ (by omega))) ?_
      refine tp rfl (lv_assign rfl) ?_
      refine t_done ?_
      refine q_then_n ?_
      exact t_weak (by exact ⟨rfl, rfl, rfl, trivial⟩) ((hK4 (k + 1) ⟨by omega, all_succ hall (decide_eq_false heq)⟩ (by omega)))
  · -- no
    refine tp rfl (lv_lss rfl rfl (decide_eq_false h1)) ?_
    refine t_done ?_
    refine q_then_n (hK6 _ _ ?_)
    refine c_false rfl ?_
    refine c_exit ?_
    refine q_then_x ?_
    refine q_then_x ?_
    refine q_in_x ?_
    refine q_then_n (hK2 _ _ ?_)
    refine c_seq (fun K7 hK7 => ?_)
    refine c_region ?_
    refine tp rfl (lv_assign rfl) ?_
    refine t_done ?_
    refine q_then_n (hK7 _ _ ?_)
    refine c_ret ?_
    refine q_ret rfl rfl ?_
    exact ⟨by rw [← placeM_idxN, idxN_none (fun j hj => hall j (by omega))], rfl⟩

theorem rtfindO_ok {R : List HP} {p a : Nat} {q : Int} {ms : List M3}  (id : Int) (hb : ms.length ≤ 50000) : Ok Try.prog 22 [.pointer (some ⟨p, 0, none⟩), .int .i64 id] (RTurnsO p q ms a :: R) (fun v M => v = .int .i64 (placeM ms id) ∧ M = RTurnsO p q ms a :: R) := by
  intro w hs
  obtain ⟨bl, hs⟩ := Sat.ex.1 hs; obtain ⟨cl, hs⟩ := Sat.ex.1 hs; obtain ⟨hk, hs⟩ := Sat.fact.1 hs
  refine (rtfind_ok (R := R) (bl := bl) (cl := cl) (ms := ms) id hk.1 (by omega) w (Sat.join.1 hs)).mono ?_
  rintro e w' ⟨v, M, ⟨rfl, rfl⟩, rfl, h3, h4⟩
  exact ⟨_, _, ⟨rfl, rfl⟩, rfl, Sat.ex.2 ⟨bl, Sat.ex.2 ⟨cl, Sat.fact.2 ⟨hk, (Sat.join (M := [_, _])).2 h3⟩⟩⟩, h4⟩

theorem rcost_ok {R : List HP} {n cl : Nat} {bl : Option Addr} (ws : List (Int × Int)) (hwl : ws.length = n) (id : Int) (hw : Rd R bl (pairs ws)) (okl : SlOk bl n) (lw : n ≤ 1000000) :
    Ok Try.prog 29 [(.slice bl n cl), (.int .i64 id)] R
      (fun v M => v = .int .i64 (costOf ws id) ∧ M = R) := by
  refine ok_of (N := 40) Try.func29 rfl rfl rfl (fun W => ?_)
  refine c_seq (fun K1 hK1 => ?_)
  refine c_region ?_
  refine tp rfl (lv_assign rfl) ?_
  refine t_done ?_
  refine q_then_n (hK1 _ _ ?_)
  refine c_seq (fun K2 hK2 => ?_)
  refine c_seq (fun K3 hK3 => ?_)
  refine c_region ?_
  refine tp rfl (lv_assign rfl) ?_
  refine t_done ?_
  refine q_then_n (hK3 _ _ ?_)
  refine c_block ?_
  refine c_loop (γ := (Nat)) (fun (k : Nat) => k ≤ ws.length ∧ costOf (ws.take k) id = 0) (fun (k : Nat) => [(0, (.slice bl n cl)), (1, (.int .i64 id)), (5, (.int .i64 ((k : Nat) : Int)))]) (fun (k : Nat) => R) (fun (k : Nat) => ws.length - k) (0) ⟨by omega, rfl⟩ ⟨rfl, rfl, rfl, trivial⟩ (fun _ h => h) ?_
  rintro k K4 hF hK4
  try dsimp only at hF hK4 ⊢
  obtain ⟨hk, h0⟩ := hF
  refine c_seq (fun K5 hK5 => ?_)
  refine c_seq (fun K6 hK6 => ?_)
  refine c_region ?_
  refine tp rfl (lv_move rfl) ?_
  refine tp rfl (lv_move rfl) ?_
  refine tp rfl (lv_len Try.underlying50 rfl rfl) ?_
  by_cases h1 : ((k : Nat) : Int) < ((n : Nat) : Int)
  · -- yes
    refine tp rfl (lv_lss rfl rfl (decide_eq_true h1)) ?_
    refine t_done ?_
    refine q_then_n (hK6 _ _ ?_)
    refine c_true rfl ?_
    refine c_skip ?_
    refine q_then_n (hK5 _ _ ?_)
    refine c_seq (fun K7 hK7 => ?_)
    refine c_block ?_
    refine c_seq (fun K8 hK8 => ?_)
    refine c_region ?_
    refine tp rfl (lv_move rfl) ?_
    refine tp rfl (lv_move rfl) ?_
    refine tp rfl (lv_indexAddr (k' := k * 2) Try.underlying50 Try.sizeOf51 rfl rfl okl (by omega) (by omega) (by omega)) ?_
    refine tp rfl (lv_fieldAddr_ad (o' := k * 2) Try.underlying51 rfl Try.sizeOf3 rfl rfl) ?_
    refine tp rfl (lv_load Try.isAgg3 rfl (Rd.gives hw (pairs_get0 (by omega)))) ?_
    refine tp rfl (lv_move rfl) ?_
    by_cases h2 : (((ws).getD k (0, 0)).1) = id
    · -- yes
      refine tp rfl (lv_eql rfl rfl (beq_iff_eq.2 h2)) ?_
      refine tp rfl (lv_move rfl) ?_
      refine t_guard rfl rfl ?_
      refine tp rfl (lv_move rfl) ?_
      refine t_guard rfl rfl ?_
      refine tp rfl (lv_move rfl) ?_
      refine t_guard rfl rfl ?_
      refine tp rfl (lv_indexAddr (k' := k * 2) Try.underlying50 Try.sizeOf51 rfl rfl okl (by omega) (by omega) (by omega)) ?_
      refine t_guard rfl rfl ?_
      refine tp rfl (lv_fieldAddr_ad (o' := k * 2 + 1) Try.underlying51 rfl Try.sizeOf3 rfl rfl) ?_
      refine t_guard rfl rfl ?_
      refine tp rfl (lv_load Try.isAgg3 rfl (Rd.gives hw (pairs_get1 (by omega)))) ?_
      refine t_guard rfl rfl ?_
      by_cases h3 : (((ws).getD k (0, 0)).2) ≥ 1
      · -- yes
        refine tp rfl (lv_geq rfl rfl (decide_eq_true h3)) ?_
        refine tp rfl (lv_pick_t rfl rfl) ?_
        refine tp rfl (lv_move rfl) ?_
        refine t_guard rfl rfl ?_
        refine tp rfl (lv_move rfl) ?_
        refine t_guard rfl rfl ?_
        refine tp rfl (lv_move rfl) ?_
        refine t_guard rfl rfl ?_
        refine tp rfl (lv_indexAddr (k' := k * 2) Try.underlying50 Try.sizeOf51 rfl rfl okl (by omega) (by omega) (by omega)) ?_
        refine t_guard rfl rfl ?_
        refine tp rfl (lv_fieldAddr_ad (o' := k * 2 + 1) Try.underlying51 rfl Try.sizeOf3 rfl rfl) ?_
        refine t_guard rfl rfl ?_
        refine tp rfl (lv_load Try.isAgg3 rfl (Rd.gives hw (pairs_get1 (by omega)))) ?_
        refine t_guard rfl rfl ?_
        by_cases h4 : (((ws).getD k (0, 0)).2) ≤ 1048576
        · -- yes
         refine tp rfl (lv_leq rfl rfl (decide_eq_true h4)) ?_
         refine tp rfl (lv_pick_t rfl rfl) ?_
         refine t_done ?_
         refine q_then_n (hK8 _ _ ?_)
         refine c_true rfl ?_
         refine c_seq (fun K9 hK9 => ?_)
         refine c_region ?_
         refine tp rfl (lv_move rfl) ?_
         refine tp rfl (lv_move rfl) ?_
         refine tp rfl (lv_indexAddr (k' := k * 2) Try.underlying50 Try.sizeOf51 rfl rfl okl (by omega) (by omega) (by omega)) ?_
         refine tp rfl (lv_fieldAddr_ad (o' := k * 2 + 1) Try.underlying51 rfl Try.sizeOf3 rfl rfl) ?_
         refine tp rfl (lv_load Try.isAgg3 rfl (Rd.gives hw (pairs_get1 (by omega)))) ?_
         refine tp rfl (lv_assign rfl) ?_
         refine t_done ?_
         refine q_then_n (hK9 _ _ ?_)
         refine c_ret ?_
         refine q_in_r ?_
         refine q_then_r ?_
         refine q_then_r ?_
         refine q_in_r ?_
         refine q_then_r ?_
         refine q_ret rfl rfl ?_
         have hc : costOf (ws.take (k + 1)) id = (ws.getD k (0, 0)).2 := by rw [take_succ_getD (by omega) (0, 0), costOf_snoc, if_pos h0]; exact if_pos ⟨by omega, by omega, by omega⟩
         exact ⟨by rw [costOf_found hc (by omega)], rfl⟩
        · -- no
         refine tp rfl (lv_leq rfl rfl (decide_eq_false h4)) ?_
         refine tp rfl (lv_pick_t rfl rfl) ?_
         refine t_done ?_
         refine q_then_n (hK8 _ _ ?_)
         refine c_false rfl ?_
         refine c_skip ?_
         refine q_in_n ?_
         refine q_then_n (hK7 _ _ ?_)
         refine c_region ?_
         refine tp rfl (lv_move rfl) ?_
         refine tp rfl (lv_add (c := ((k + 1 : Nat) : Int)) rfl rfl (wr_i64_succ (by omega))) ?_
         refine tp rfl (lv_assign rfl) ?_
         refine t_done ?_
         refine q_then_n ?_
         exact t_weak (by exact ⟨rfl, rfl, rfl, trivial⟩) ((hK4 (k + 1) ⟨by omega, by rw [take_succ_getD (by omega) (0, 0), costOf_snoc, if_pos h0]; exact if_neg (fun hh => by omega)⟩ (by omega)))
      · -- no
        refine tp rfl (lv_geq rfl rfl (decide_eq_false h3)) ?_
        refine tp rfl (lv_pick_t rfl rfl) ?_
        refine tp rfl (lv_move rfl) ?_
        refine t_skip rfl rfl rfl ?_
        refine t_skip rfl rfl rfl ?_
        refine t_skip rfl rfl rfl ?_
        refine t_skip rfl rfl rfl ?_
        refine t_skip rfl rfl rfl ?_
        refine t_skip rfl rfl rfl ?_
        refine tp rfl (lv_pick_f rfl rfl) ?_
        refine t_done ?_
        refine q_then_n (hK8 _ _ ?_)
        refine c_false rfl ?_
        refine c_skip ?_
        refine q_in_n ?_
        refine q_then_n (hK7 _ _ ?_)
        refine c_region ?_
        refine tp rfl (lv_move rfl) ?_
        refine tp rfl (lv_add (c := ((k + 1 : Nat) : Int)) rfl rfl (wr_i64_succ (by omega))) ?_
        refine tp rfl (lv_assign rfl) ?_
        refine t_done ?_
        refine q_then_n ?_
        exact t_weak (by exact ⟨rfl, rfl, rfl, trivial⟩) ((hK4 (k + 1) ⟨by omega, by rw [take_succ_getD (by omega) (0, 0), costOf_snoc, if_pos h0]; exact if_neg (fun hh => by omega)⟩ (by omega)))
    · -- no
      refine tp rfl (lv_eql rfl rfl (beq_eq_false_iff_ne.2 h2)) ?_
      refine tp rfl (lv_move rfl) ?_
      refine t_skip rfl rfl rfl ?_
      refine t_skip rfl rfl rfl ?_
      refine t_skip rfl rfl rfl ?_
      refine t_skip rfl rfl rfl ?_
      refine t_skip rfl rfl rfl ?_
      refine t_skip rfl rfl rfl ?_
      refine tp rfl (lv_pick_f rfl rfl) ?_
      refine tp rfl (lv_move rfl) ?_
      refine t_skip rfl rfl rfl ?_
      refine t_skip rfl rfl rfl ?_
      refine t_skip rfl rfl rfl ?_
      refine t_skip rfl rfl rfl ?_
      refine t_skip rfl rfl rfl ?_
      refine t_skip rfl rfl rfl ?_
      refine tp rfl (lv_pick_f rfl rfl) ?_
      refine t_done ?_
      refine q_then_n (hK8 _ _ ?_)
      refine c_false rfl ?_
      refine c_skip ?_
      refine q_in_n ?_
      refine q_then_n (hK7 _ _ ?_)
      refine c_region ?_
      refine tp rfl (lv_move rfl) ?_
      refine tp rfl (lv_add (c := ((k + 1 : Nat) : Int)) rfl rfl (wr_i64_succ (by omega))) ?_
      refine tp rfl (lv_assign rfl) ?_
      refine t_done ?_
      refine q_then_n ?_
      exact t_weak (by exact ⟨rfl, rfl, rfl, trivial⟩) ((hK4 (k + 1) ⟨by omega, by rw [take_succ_getD (by omega) (0, 0), costOf_snoc, if_pos h0]; exact if_neg (fun hh => by omega)⟩ (by omega)))
  · -- no
    refine tp rfl (lv_lss rfl rfl (decide_eq_false h1)) ?_
    refine t_done ?_
    refine q_then_n (hK6 _ _ ?_)
    refine c_false rfl ?_
    refine c_exit ?_
    refine q_then_x ?_
    refine q_then_x ?_
    refine q_in_x ?_
    refine q_then_n (hK2 _ _ ?_)
    refine c_seq (fun K7 hK7 => ?_)
    refine c_region ?_
    refine tp rfl (lv_assign rfl) ?_
    refine t_done ?_
    refine q_then_n (hK7 _ _ ?_)
    refine c_ret ?_
    refine q_ret rfl rfl ?_
    rw [List.take_of_length_le (by omega)] at h0
    exact ⟨by rw [h0], rfl⟩

theorem rtjoin_ok {R : List HP} {p a : Nat} {q : Int} {ms : List M3} (id w : Int) (hb : ms.length ≤ 50000) :
    Ok Try.prog 19 [(.pointer (some ⟨p, 0, none⟩)), (.int .i64 id), (.int .i64 w)] ((RTurnsO p q ms a) :: R)
      (fun v M => v = .int .i64 (joinEr ms id w) ∧ M = RTurnsO p q (joinM ms id w) a :: R) := by
  refine ok_of (N := 31) Try.func19 rfl rfl rfl (fun W => ?_)
  refine t_openRT (fun bs1 cp2 hok3 hle4 => ?_)
  refine c_seq (fun K1 hK1 => ?_)
  refine c_region ?_
  refine tp rfl (lv_assign rfl) ?_
  refine t_done ?_
  refine q_then_n (hK1 _ _ ?_)
  refine c_seq (fun K2 hK2 => ?_)
  refine c_seq (fun K3 hK3 => ?_)
  refine c_region ?_
  refine tp rfl (lv_move rfl) ?_
  by_cases h5 : w < 1
  · -- yes
    refine tp rfl (lv_lss rfl rfl (decide_eq_true h5)) ?_
    refine tp rfl (lv_move rfl) ?_
    refine t_skip rfl rfl rfl ?_
    refine t_skip rfl rfl rfl ?_
    refine tp rfl (lv_pick_t rfl rfl) ?_
    refine t_done ?_
    refine q_then_n (hK3 _ _ ?_)
    refine c_true rfl ?_
    refine c_seq (fun K4 hK4 => ?_)
    refine c_region ?_
    refine tp rfl (lv_assign rfl) ?_
    refine t_done ?_
    refine q_then_n (hK4 _ _ ?_)
    refine c_ret ?_
    refine q_then_r ?_
    refine t_f1 ?_
    refine t_f1 ?_
    refine t_shutRT rfl rfl hok3 hle4 ?_
    have hje : joinEr ms id w = 1 := by unfold joinEr; first | rw [if_pos (by omega)] | rw [if_neg (by omega), if_pos (by omega)]
    rw [show RTurnsO p q ms a = RTurnsO p q (joinM ms id w) a from by unfold joinM; rw [hje, if_neg (by decide)]]
    refine q_ret rfl rfl ?_
    exact ⟨by rw [hje], rfl⟩
  · -- no
    refine tp rfl (lv_lss rfl rfl (decide_eq_false h5)) ?_
    refine tp rfl (lv_move rfl) ?_
    refine t_guard rfl rfl ?_
    refine tp rfl (lv_move rfl) ?_
    refine t_guard rfl rfl ?_
    by_cases h6 : w > 100
    · -- yes
      refine tp rfl (lv_gtr rfl rfl (decide_eq_true h6)) ?_
      refine tp rfl (lv_pick_f rfl rfl) ?_
      refine t_done ?_
      refine q_then_n (hK3 _ _ ?_)
      refine c_true rfl ?_
      refine c_seq (fun K4 hK4 => ?_)
      refine c_region ?_
      refine tp rfl (lv_assign rfl) ?_
      refine t_done ?_
      refine q_then_n (hK4 _ _ ?_)
      refine c_ret ?_
      refine q_then_r ?_
      refine t_f1 ?_
      refine t_f1 ?_
      refine t_shutRT rfl rfl hok3 hle4 ?_
      have hje : joinEr ms id w = 1 := by unfold joinEr; first | rw [if_pos (by omega)] | rw [if_neg (by omega), if_pos (by omega)]
      rw [show RTurnsO p q ms a = RTurnsO p q (joinM ms id w) a from by unfold joinM; rw [hje, if_neg (by decide)]]
      refine q_ret rfl rfl ?_
      exact ⟨by rw [hje], rfl⟩
    · -- no
      refine tp rfl (lv_gtr rfl rfl (decide_eq_false h6)) ?_
      refine tp rfl (lv_pick_f rfl rfl) ?_
      refine t_done ?_
      refine q_then_n (hK3 _ _ ?_)
      refine c_false rfl ?_
      refine c_skip ?_
      refine q_then_n (hK2 _ _ ?_)
      refine c_seq (fun K4 hK4 => ?_)
      refine c_seq (fun K5 hK5 => ?_)
      refine c_region ?_
      refine tp rfl (lv_move rfl) ?_
      refine tp rfl (lv_move rfl) ?_
      refine t_f1 ?_
      refine t_f1 ?_
      refine tc rfl (en_fn Try.call22 rfl) (rtfind_ok (ms := ms) id hok3 (by omega)) ?_
      rintro _ _ ⟨rfl, rfl⟩
      by_cases h7 : (placeM ms id) ≥ 0
      · -- yes
        refine tp rfl (lv_geq rfl rfl (decide_eq_true h7)) ?_
        refine t_done ?_
        refine q_then_n (hK5 _ _ ?_)
        refine c_true rfl ?_
        refine c_seq (fun K6 hK6 => ?_)
        refine c_region ?_
        refine tp rfl (lv_assign rfl) ?_
        refine t_done ?_
        refine q_then_n (hK6 _ _ ?_)
        refine c_ret ?_
        refine q_then_r ?_
        refine t_f1 ?_
        refine t_f1 ?_
        refine t_shutRT rfl rfl hok3 hle4 ?_
        have hje : joinEr ms id w = 8 := by unfold joinEr; first | rw [if_pos (by omega)] | rw [if_neg (by omega), if_pos (by omega)]
        rw [show RTurnsO p q ms a = RTurnsO p q (joinM ms id w) a from by unfold joinM; rw [hje, if_neg (by decide)]]
        refine q_ret rfl rfl ?_
        exact ⟨by rw [hje], rfl⟩
      · -- no
        refine tp rfl (lv_geq rfl rfl (decide_eq_false h7)) ?_
        refine t_done ?_
        refine q_then_n (hK5 _ _ ?_)
        refine c_false rfl ?_
        refine c_skip ?_
        refine q_then_n (hK4 _ _ ?_)
        refine c_seq (fun K6 hK6 => ?_)
        refine c_region ?_
        refine tp rfl (lv_move rfl) ?_
        refine tm rfl (mv_buildSlice (cs := []) Try.underlying55 Try.sizeOf59 Try.zeroValue59 (by decide) rfl rfl rfl rfl) ?_
        rintro _ _ ⟨bs8, cp9, hok10, hle11, rfl, rfl⟩
        refine tp rfl (lv_move rfl) ?_
        refine tp rfl (lv_nilCheck rfl) ?_
        refine tp rfl (lv_fieldAddr (o' := 1) Try.underlying57 rfl Try.sizeOf55 rfl rfl) ?_
        refine tp rfl (lv_load Try.isAgg55 rfl (gives_blk (.tail _ (.head _)) rfl)) ?_
        refine tm rfl (mv_append (i := Try.t59) Try.underlying55 Try.type59 rfl rfl rfl (by decide) rfl rfl hok3 (by first | exact recs_len m3F_len _ | (rw [recs_len m3F_len]; congr 1; first | (simp; done) | (simp; omega))) (rd_sl (.tail _ (.tail _ (.head _)))) (recs_one m3F_one) (by rw [show Try.t59.bytes = 24 from rfl]; omega)) ?_
        rintro _ _ ⟨bs12, cp13, hok14, hle15, rfl, rfl⟩
        simp only [Nat.zero_add] at hok14 hle15 ⊢
        rw [List.nil_append]
        refine tp rfl (lv_move rfl) ?_
        refine tp rfl (lv_move rfl) ?_
        refine tp rfl (lv_build (cs := [(.int .i64 id), (.int .i64 w), (.int .i64 0)]) (pl := [(0, 1), (1, 1), (2, 1)]) Try.underlying59 Try.zeroValue59 (fun _ => by simp) rfl rfl) ?_
        refine tm rfl (mv_buildSlice (cs := [(.int .i64 id), (.int .i64 w), (.int .i64 0)]) Try.underlying55 Try.sizeOf59 Try.zeroValue59 (by decide) rfl rfl rfl rfl) ?_
        rintro _ _ ⟨bs16, cp17, hok18, hle19, rfl, rfl⟩
        refine t_f1 ?_
        refine tm rfl (mv_append (i := Try.t59) Try.underlying55 Try.type59 rfl rfl rfl (by decide) rfl rfl hok18 (by first | (simp; done) | (simp; omega)) (rd_sl (.tail _ (.head _))) (by simp [Value.oneCell']) (by rw [show Try.t59.bytes = 24 from rfl]; omega)) ?_
        rintro _ _ ⟨bs20, cp21, hok22, hle23, rfl, rfl⟩
        rw [show recs m3F ms ++ [(.int .i64 id), (.int .i64 w), (.int .i64 0)] = recs m3F (ms ++ [⟨id, w, 0⟩]) from recs_snoc m3F ms ⟨id, w, 0⟩]
        refine tp rfl (lv_nilCheck rfl) ?_
        refine tp rfl (lv_fieldAddr (o' := 1) Try.underlying57 rfl Try.sizeOf55 rfl rfl) ?_
        refine t_f2 ?_
        refine ts (sv_blk Try.sizeOf55 rfl rfl rfl (Nat.le_of_ble_eq_true rfl) rfl) ?_
        refine t_done ?_
        refine q_then_n (hK6 _ _ ?_)
        refine c_seq (fun K7 hK7 => ?_)
        refine c_region ?_
        refine tp rfl (lv_assign rfl) ?_
        refine t_done ?_
        refine q_then_n (hK7 _ _ ?_)
        refine c_ret ?_
        refine t_f1 ?_
        refine t_f1 ?_
        refine t_shutRT rfl (by simp) hok22 hle23 ?_
        have hje : joinEr ms id w = 0 := by unfold joinEr; rw [if_neg (by omega), if_neg (by omega)]
        rw [show (ms ++ [⟨id, w, 0⟩] : List M3) = joinM ms id w from by unfold joinM; rw [if_pos hje]]
        refine t_f1 ?_
        refine t_drop ?_
        refine t_f1 ?_
        refine t_drop ?_
        refine q_ret rfl rfl ?_
        exact ⟨by rw [hje], rfl⟩

set_option maxHeartbeats 4000000 in
theorem rtleave_ok {R : List HP} {p a : Nat} {q : Int} {ms : List M3} (id : Int) (hb : ms.length ≤ 50000) (hal : a < ms.length ∨ (a = 0 ∧ ms = [])) :
    Ok Try.prog 20 [(.pointer (some ⟨p, 0, none⟩)), (.int .i64 id)] ((RTurnsO p q ms a) :: R)
      (fun v M => v = .int .i64 (leaveEr ms id) ∧ M = RTurnsO p q (leaveM ms id) (leaveA ms a id) :: R) := by
  refine ok_of (N := 56) Try.func20 rfl rfl rfl (fun W => ?_)
  refine t_openRT (fun bs1 cp2 hok3 hle4 => ?_)
  refine c_seq (fun K1 hK1 => ?_)
  refine c_region ?_
  refine tp rfl (lv_assign rfl) ?_
  refine t_done ?_
  refine q_then_n (hK1 _ _ ?_)
  refine c_seq (fun K2 hK2 => ?_)
  refine c_region ?_
  refine tp rfl (lv_move rfl) ?_
  refine tp rfl (lv_move rfl) ?_
  refine t_f1 ?_
  refine t_f1 ?_
  refine tc rfl (en_fn Try.call22 rfl) (rtfind_ok (ms := ms) id hok3 (by omega)) ?_
  rintro _ _ ⟨rfl, rfl⟩
  refine tp rfl (lv_assign rfl) ?_
  refine t_done ?_
  refine q_then_n (hK2 _ _ ?_)
  refine c_seq (fun K3 hK3 => ?_)
  refine c_seq (fun K4 hK4 => ?_)
  refine c_region ?_
  refine tp rfl (lv_move rfl) ?_
  by_cases h5 : (placeM ms id) < 0
  · -- yes
    refine tp rfl (lv_lss rfl rfl (decide_eq_true h5)) ?_
    refine t_done ?_
    refine q_then_n (hK4 _ _ ?_)
    refine c_true rfl ?_
    refine c_seq (fun K5 hK5 => ?_)
    refine c_region ?_
    refine tp rfl (lv_assign rfl) ?_
    refine t_done ?_
    refine q_then_n (hK5 _ _ ?_)
    refine c_ret ?_
    refine q_then_r ?_
    refine t_f1 ?_
    refine t_f1 ?_
    refine t_shutRT rfl rfl hok3 hle4 ?_
    rw [show RTurnsO p q ms a = RTurnsO p q (leaveM ms id) (leaveA ms a id) from by unfold leaveM leaveA; rw [if_pos (by omega), if_pos (by omega)]]
    refine q_ret rfl rfl ?_
    exact ⟨by unfold leaveEr; split <;> first | rfl | (exfalso; omega), rfl⟩
  · -- no
    refine tp rfl (lv_lss rfl rfl (decide_eq_false h5)) ?_
    refine t_done ?_
    refine q_then_n (hK4 _ _ ?_)
    refine c_false rfl ?_
    refine c_skip ?_
    refine q_then_n (hK3 _ _ ?_)
    refine c_seq (fun K5 hK5 => ?_)
    have hpg := placeM_ge ms id
    obtain ⟨kp, hkp⟩ : ∃ k : Nat, placeM ms id = (k : Int) := ⟨(placeM ms id).toNat, by omega⟩
    rw [hkp]
    have hkl : kp < ms.length := by omega
    have hel : (ms.eraseIdx kp).length = ms.length - 1 := by rw [List.length_eraseIdx, if_pos hkl]
    refine c_draw (γ := Option Addr × Nat × Option Addr × Nat × Option Addr × Nat) (n := 20) Try.mixed rfl rfl (fun (bs6, cp7, bs10, cp11, bs14, cp15) S => (S 1 = true → SlOk bs6 0) ∧ (S 1 = true → 0 ≤ cp7) ∧ (S 8 = true → SlOk bs10 kp) ∧ (S 8 = true → kp ≤ cp11) ∧ (S 16 = true → SlOk bs14 (kp + (ms.length - (kp + 1)))) ∧ (S 16 = true → kp + (ms.length - (kp + 1)) ≤ cp15)) (fun (bs6, cp7, bs10, cp11, bs14, cp15) => [(0, 11, (.pointer (some ⟨p, 0, none⟩))), (1, 12, (.slice bs6 0 cp7)), (2, 13, (.pointer (some ⟨p, 0, none⟩))), (3, 14, (.pointer (some ⟨p, 0, none⟩))), (4, 15, (.pointer (some ⟨p, 1, none⟩))), (5, 16, (.slice bs1 ms.length cp2)), (6, 17, (.int .i64 ((kp : Nat) : Int))), (7, 18, (.slice bs1 kp cp2)), (8, 19, (.slice bs10 kp cp11)), (9, 20, (.pointer (some ⟨p, 0, none⟩))), (10, 21, (.pointer (some ⟨p, 0, none⟩))), (11, 22, (.pointer (some ⟨p, 1, none⟩))), (12, 23, (.slice bs1 ms.length cp2)), (13, 24, (.int .i64 ((kp : Nat) : Int))), (14, 25, (.int .i64 ((kp + 1 : Nat) : Int))), (15, 26, (.slice (sbase bs1 (kp + 1) cp2 3) (ms.length - (kp + 1)) (cp2 - (kp + 1)))), (16, 27, (.slice bs14 (kp + (ms.length - (kp + 1))) cp15)), (17, 28, (.pointer (some ⟨p, 0, none⟩))), (18, 29, (.pointer (some ⟨p, 1, none⟩)))]) (fun (bs6, cp7, bs10, cp11, bs14, cp15) S => (bif S 19 then (Blk p [(.int .i64 q), (.slice bs14 (kp + (ms.length - (kp + 1))) cp15), (.int .i64 ((a : Nat) : Int))] 57) else (Blk p [(.int .i64 q), (.slice bs1 ms.length cp2), (.int .i64 ((a : Nat) : Int))] 57)) :: (SlV 59 3 (.slice bs1 ms.length cp2) ms.length (recs m3F ms)) :: (bif S 16 then (SlV 59 3 (.slice bs14 (kp + (ms.length - (kp + 1))) cp15) (kp + (ms.length - (kp + 1))) (recs m3F ((ms.take kp) ++ (ms.drop (kp + 1))))) else (bif S 8 then (SlV 59 3 (.slice bs10 kp cp11) kp (recs m3F (ms.take kp))) else (bif S 1 then (SlV 59 3 (.slice bs6 0 cp7) 0 []) else Emp))) :: R) (none, 0, none, 0, none, 0) (by simp [Nat.ble]) (fun _ h => sat_emps [_, _] 1 h) (fun _ _ h => h) ?_ ?_
    · -- steps
      refine ⟨?_, ?_, ?_, ?_, ?_, ?_, ?_, ?_, ?_, ?_, ?_, ?_, ?_, ?_, ?_, ?_, ?_, ?_, ?_, ?_, trivial⟩
      · -- 0
        rintro ⟨bs6, cp7, bs10, cp11, bs14, cp15⟩ S hF hS D hp K hK
        try dsimp only at hF ⊢
        obtain ⟨hf0, hf1, hf2, hf3, hf4, hf5⟩ := hF
        refine d_need (small := [(0, (.pointer (some ⟨p, 0, none⟩)))]) ⟨look_b rfl rfl, trivial⟩ ?_
        refine tp rfl (lv_move rfl) ?_
        exact d_closes ⟨look_b rfl rfl, trivial⟩ 0 rfl rfl rfl hS (AgreeR.refl _) (t_sat (fun _ h => h) (hK (bs6, cp7, bs10, cp11, bs14, cp15) ⟨hf0, hf1, hf2, hf3, hf4, hf5⟩))
      · -- 1
        rintro ⟨bs6, cp7, bs10, cp11, bs14, cp15⟩ S hF hS D hp K hK
        try dsimp only at hF ⊢
        obtain ⟨hf0, hf1, hf2, hf3, hf4, hf5⟩ := hF
        refine d_need (small := []) trivial ?_
        refine tm rfl (mv_buildSlice (cs := []) Try.underlying55 Try.sizeOf59 Try.zeroValue59 (by decide) rfl rfl rfl rfl) ?_
        rintro _ _ ⟨bs6, cp7, hok8, hle9, rfl, rfl⟩
        refine t_wF (A := (SlV 59 3 (.slice bs10 kp cp11) kp (recs m3F (ms.take kp)))) (nf hS D (k := 8) (i := 1) rfl) ?_
        refine t_wF (A := (SlV 59 3 (.slice bs14 (kp + (ms.length - (kp + 1))) cp15) (kp + (ms.length - (kp + 1))) (recs m3F ((ms.take kp) ++ (ms.drop (kp + 1)))))) (nf (nf hS D (k := 8) (i := 1) rfl) D (k := 16) (i := 8) rfl) ?_
        refine t_sat (fun _ h => sat_put [_, _] h) ?_
        exact d_closes trivial 1 rfl rfl rfl hS (by exact ⟨.inl rfl, .inr ⟨rfl, rfl, hS⟩, .inl rfl, .inl rfl, .inl rfl, .inl rfl, .inl rfl, .inl rfl, .inl rfl, .inl rfl, .inl rfl, .inl rfl, .inl rfl, .inl rfl, .inl rfl, .inl rfl, .inl rfl, .inl rfl, .inl rfl, trivial⟩) (t_sat (fun _ h => h) (hK (bs6, cp7, bs10, cp11, bs14, cp15) ⟨(fun _ => hok8), (fun _ => hle9), hf2, hf3, hf4, hf5⟩))
      · -- 2
        rintro ⟨bs6, cp7, bs10, cp11, bs14, cp15⟩ S hF hS D hp K hK
        try dsimp only at hF ⊢
        obtain ⟨hf0, hf1, hf2, hf3, hf4, hf5⟩ := hF
        refine d_need (small := [(0, (.pointer (some ⟨p, 0, none⟩)))]) ⟨look_b rfl rfl, trivial⟩ ?_
        refine tp rfl (lv_move rfl) ?_
        exact d_closes ⟨look_b rfl rfl, trivial⟩ 2 rfl rfl rfl hS (AgreeR.refl _) (t_sat (fun _ h => h) (hK (bs6, cp7, bs10, cp11, bs14, cp15) ⟨hf0, hf1, hf2, hf3, hf4, hf5⟩))
      · -- 3
        rintro ⟨bs6, cp7, bs10, cp11, bs14, cp15⟩ S hF hS D hp K hK
        try dsimp only at hF ⊢
        obtain ⟨hf0, hf1, hf2, hf3, hf4, hf5⟩ := hF
        have s2 := hp 2 rfl
        refine d_need (small := [(13, (.pointer (some ⟨p, 0, none⟩)))]) ⟨look_row rfl 2 rfl s2, trivial⟩ ?_
        refine tp rfl (lv_nilCheck rfl) ?_
        exact d_closes ⟨look_row rfl 2 rfl s2, trivial⟩ 3 rfl rfl rfl hS (AgreeR.refl _) (t_sat (fun _ h => h) (hK (bs6, cp7, bs10, cp11, bs14, cp15) ⟨hf0, hf1, hf2, hf3, hf4, hf5⟩))
      · -- 4
        rintro ⟨bs6, cp7, bs10, cp11, bs14, cp15⟩ S hF hS D hp K hK
        try dsimp only at hF ⊢
        obtain ⟨hf0, hf1, hf2, hf3, hf4, hf5⟩ := hF
        have s3 := hp 3 rfl
        refine d_need (small := [(14, (.pointer (some ⟨p, 0, none⟩)))]) ⟨look_row rfl 3 rfl s3, trivial⟩ ?_
        refine tp rfl (lv_fieldAddr (o' := 1) Try.underlying57 rfl Try.sizeOf55 rfl rfl) ?_
        exact d_closes ⟨look_row rfl 3 rfl s3, trivial⟩ 4 rfl rfl rfl hS (AgreeR.refl _) (t_sat (fun _ h => h) (hK (bs6, cp7, bs10, cp11, bs14, cp15) ⟨hf0, hf1, hf2, hf3, hf4, hf5⟩))
      · -- 5
        rintro ⟨bs6, cp7, bs10, cp11, bs14, cp15⟩ S hF hS D hp K hK
        try dsimp only at hF ⊢
        obtain ⟨hf0, hf1, hf2, hf3, hf4, hf5⟩ := hF
        have s4 := hp 4 rfl
        refine d_need (small := [(15, (.pointer (some ⟨p, 1, none⟩)))]) ⟨look_row rfl 4 rfl s4, trivial⟩ ?_
        refine tp rfl (lv_load Try.isAgg55 rfl (gives_blk (mem_cF (nf hS D (k := 19) (i := 5) rfl) (.head _)) rfl)) ?_
        exact d_closes ⟨look_row rfl 4 rfl s4, trivial⟩ 5 rfl rfl rfl hS (AgreeR.refl _) (t_sat (fun _ h => h) (hK (bs6, cp7, bs10, cp11, bs14, cp15) ⟨hf0, hf1, hf2, hf3, hf4, hf5⟩))
      · -- 6
        rintro ⟨bs6, cp7, bs10, cp11, bs14, cp15⟩ S hF hS D hp K hK
        try dsimp only at hF ⊢
        obtain ⟨hf0, hf1, hf2, hf3, hf4, hf5⟩ := hF
        refine d_need (small := [(5, (.int .i64 ((kp : Nat) : Int)))]) ⟨look_b rfl rfl, trivial⟩ ?_
        refine tp rfl (lv_move rfl) ?_
        exact d_closes ⟨look_b rfl rfl, trivial⟩ 6 rfl rfl rfl hS (AgreeR.refl _) (t_sat (fun _ h => h) (hK (bs6, cp7, bs10, cp11, bs14, cp15) ⟨hf0, hf1, hf2, hf3, hf4, hf5⟩))
      · -- 7
        rintro ⟨bs6, cp7, bs10, cp11, bs14, cp15⟩ S hF hS D hp K hK
        try dsimp only at hF ⊢
        obtain ⟨hf0, hf1, hf2, hf3, hf4, hf5⟩ := hF
        have s5 := hp 5 rfl
        have s6 := hp 6 rfl
        refine d_need (small := [(16, (.slice bs1 ms.length cp2)), (17, (.int .i64 ((kp : Nat) : Int)))]) ⟨look_row rfl 5 rfl s5, look_row rfl 6 rfl s6, trivial⟩ ?_
        refine tp rfl (lv_slice (l := 0) (h := kp) (m := cp2) (v := (.slice bs1 kp cp2)) Try.underlying55 Try.sizeOf59 rfl rfl rfl rfl (.inr ⟨rfl, rfl⟩) (.inl ⟨_, _, rfl, (by omega), (by omega), (by omega)⟩) (.inr ⟨rfl, rfl⟩) (by simp) (by rw [sbase_zero]; rfl)) ?_
        exact d_closes ⟨look_row rfl 5 rfl s5, look_row rfl 6 rfl s6, trivial⟩ 7 rfl rfl rfl hS (AgreeR.refl _) (t_sat (fun _ h => h) (hK (bs6, cp7, bs10, cp11, bs14, cp15) ⟨hf0, hf1, hf2, hf3, hf4, hf5⟩))
      · -- 8
        rintro ⟨bs6, cp7, bs10, cp11, bs14, cp15⟩ S hF hS D hp K hK
        try dsimp only at hF ⊢
        obtain ⟨hf0, hf1, hf2, hf3, hf4, hf5⟩ := hF
        have s1 := hp 1 rfl
        have hok8 := hf0 s1
        have hle9 := hf1 s1
        have s7 := hp 7 rfl
        refine d_need (small := [(12, (.slice bs6 0 cp7)), (18, (.slice bs1 kp cp2))]) ⟨look_row rfl 1 rfl s1, look_row rfl 7 rfl s7, trivial⟩ ?_
        refine t_f2 ?_
        refine t_cF (nf hS D (k := 16) (i := 8) rfl) ?_
        refine t_cF hS ?_
        refine t_cT s1 ?_
        refine tm rfl (mv_append (i := Try.t59) Try.underlying55 Try.type59 rfl rfl rfl (by decide) rfl rfl (fun hz => hok3 (by omega)) (by first | exact recs_len m3F_len _ | (rw [recs_len m3F_len]; congr 1; first | (simp; done) | (simp; omega))) (rd_tk_recs m3F_len kp (rd_sl (.tail _ (.tail _ (.head _))))) (recs_one m3F_one) (by rw [show Try.t59.bytes = 24 from rfl]; omega)) ?_
        rintro _ _ ⟨bs10, cp11, hok12, hle13, rfl, rfl⟩
        simp only [Nat.zero_add] at hok12 hle13 ⊢
        rw [List.nil_append]
        refine t_wF (A := (SlV 59 3 (.slice bs14 (kp + (ms.length - (kp + 1))) cp15) (kp + (ms.length - (kp + 1))) (recs m3F ((ms.take kp) ++ (ms.drop (kp + 1)))))) (nf hS D (k := 16) (i := 8) rfl) ?_
        refine t_f2 ?_
        refine t_f2 ?_
        exact d_closes ⟨look_row rfl 1 rfl s1, look_row rfl 7 rfl s7, trivial⟩ 8 rfl rfl rfl hS (by exact ⟨.inl rfl, .inl rfl, .inl rfl, .inl rfl, .inl rfl, .inl rfl, .inl rfl, .inl rfl, .inr ⟨rfl, rfl, hS⟩, .inl rfl, .inl rfl, .inl rfl, .inl rfl, .inl rfl, .inl rfl, .inl rfl, .inl rfl, .inl rfl, .inl rfl, trivial⟩) (t_sat (fun _ h => h) (hK (bs6, cp7, bs10, cp11, bs14, cp15) ⟨hf0, hf1, (fun _ => hok12), (fun _ => hle13), hf4, hf5⟩))
      · -- 9
        rintro ⟨bs6, cp7, bs10, cp11, bs14, cp15⟩ S hF hS D hp K hK
        try dsimp only at hF ⊢
        obtain ⟨hf0, hf1, hf2, hf3, hf4, hf5⟩ := hF
        refine d_need (small := [(0, (.pointer (some ⟨p, 0, none⟩)))]) ⟨look_b rfl rfl, trivial⟩ ?_
        refine tp rfl (lv_move rfl) ?_
        exact d_closes ⟨look_b rfl rfl, trivial⟩ 9 rfl rfl rfl hS (AgreeR.refl _) (t_sat (fun _ h => h) (hK (bs6, cp7, bs10, cp11, bs14, cp15) ⟨hf0, hf1, hf2, hf3, hf4, hf5⟩))
      · -- 10
        rintro ⟨bs6, cp7, bs10, cp11, bs14, cp15⟩ S hF hS D hp K hK
        try dsimp only at hF ⊢
        obtain ⟨hf0, hf1, hf2, hf3, hf4, hf5⟩ := hF
        have s9 := hp 9 rfl
        refine d_need (small := [(20, (.pointer (some ⟨p, 0, none⟩)))]) ⟨look_row rfl 9 rfl s9, trivial⟩ ?_
        refine tp rfl (lv_nilCheck rfl) ?_
        exact d_closes ⟨look_row rfl 9 rfl s9, trivial⟩ 10 rfl rfl rfl hS (AgreeR.refl _) (t_sat (fun _ h => h) (hK (bs6, cp7, bs10, cp11, bs14, cp15) ⟨hf0, hf1, hf2, hf3, hf4, hf5⟩))
      · -- 11
        rintro ⟨bs6, cp7, bs10, cp11, bs14, cp15⟩ S hF hS D hp K hK
        try dsimp only at hF ⊢
        obtain ⟨hf0, hf1, hf2, hf3, hf4, hf5⟩ := hF
        have s10 := hp 10 rfl
        refine d_need (small := [(21, (.pointer (some ⟨p, 0, none⟩)))]) ⟨look_row rfl 10 rfl s10, trivial⟩ ?_
        refine tp rfl (lv_fieldAddr (o' := 1) Try.underlying57 rfl Try.sizeOf55 rfl rfl) ?_
        exact d_closes ⟨look_row rfl 10 rfl s10, trivial⟩ 11 rfl rfl rfl hS (AgreeR.refl _) (t_sat (fun _ h => h) (hK (bs6, cp7, bs10, cp11, bs14, cp15) ⟨hf0, hf1, hf2, hf3, hf4, hf5⟩))
      · -- 12
        rintro ⟨bs6, cp7, bs10, cp11, bs14, cp15⟩ S hF hS D hp K hK
        try dsimp only at hF ⊢
        obtain ⟨hf0, hf1, hf2, hf3, hf4, hf5⟩ := hF
        have s11 := hp 11 rfl
        refine d_need (small := [(22, (.pointer (some ⟨p, 1, none⟩)))]) ⟨look_row rfl 11 rfl s11, trivial⟩ ?_
        refine tp rfl (lv_load Try.isAgg55 rfl (gives_blk (mem_cF (nf hS D (k := 19) (i := 12) rfl) (.head _)) rfl)) ?_
        exact d_closes ⟨look_row rfl 11 rfl s11, trivial⟩ 12 rfl rfl rfl hS (AgreeR.refl _) (t_sat (fun _ h => h) (hK (bs6, cp7, bs10, cp11, bs14, cp15) ⟨hf0, hf1, hf2, hf3, hf4, hf5⟩))
      · -- 13
        rintro ⟨bs6, cp7, bs10, cp11, bs14, cp15⟩ S hF hS D hp K hK
        try dsimp only at hF ⊢
        obtain ⟨hf0, hf1, hf2, hf3, hf4, hf5⟩ := hF
        refine d_need (small := [(5, (.int .i64 ((kp : Nat) : Int)))]) ⟨look_b rfl rfl, trivial⟩ ?_
        refine tp rfl (lv_move rfl) ?_
        exact d_closes ⟨look_b rfl rfl, trivial⟩ 13 rfl rfl rfl hS (AgreeR.refl _) (t_sat (fun _ h => h) (hK (bs6, cp7, bs10, cp11, bs14, cp15) ⟨hf0, hf1, hf2, hf3, hf4, hf5⟩))
      · -- 14
        rintro ⟨bs6, cp7, bs10, cp11, bs14, cp15⟩ S hF hS D hp K hK
        try dsimp only at hF ⊢
        obtain ⟨hf0, hf1, hf2, hf3, hf4, hf5⟩ := hF
        have s13 := hp 13 rfl
        refine d_need (small := [(24, (.int .i64 ((kp : Nat) : Int)))]) ⟨look_row rfl 13 rfl s13, trivial⟩ ?_
        refine tp rfl (lv_add (c := ((kp + 1 : Nat) : Int)) rfl rfl (wr_i64_succ (by omega))) ?_
        exact d_closes ⟨look_row rfl 13 rfl s13, trivial⟩ 14 rfl rfl rfl hS (AgreeR.refl _) (t_sat (fun _ h => h) (hK (bs6, cp7, bs10, cp11, bs14, cp15) ⟨hf0, hf1, hf2, hf3, hf4, hf5⟩))
      · -- 15
        rintro ⟨bs6, cp7, bs10, cp11, bs14, cp15⟩ S hF hS D hp K hK
        try dsimp only at hF ⊢
        obtain ⟨hf0, hf1, hf2, hf3, hf4, hf5⟩ := hF
        have s12 := hp 12 rfl
        have s14 := hp 14 rfl
        refine d_need (small := [(23, (.slice bs1 ms.length cp2)), (25, (.int .i64 ((kp + 1 : Nat) : Int)))]) ⟨look_row rfl 12 rfl s12, look_row rfl 14 rfl s14, trivial⟩ ?_
        refine tp rfl (lv_slice (l := kp + 1) (h := ms.length) (m := cp2) (v := (.slice (sbase bs1 (kp + 1) cp2 3) (ms.length - (kp + 1)) (cp2 - (kp + 1)))) Try.underlying55 Try.sizeOf59 rfl rfl rfl rfl (.inr ⟨rfl, rfl⟩) (.inr ⟨rfl, rfl⟩) (.inl ⟨_, _, rfl, (by omega), (by omega), (by omega)⟩) (by simp) rfl) ?_
        exact d_closes ⟨look_row rfl 12 rfl s12, look_row rfl 14 rfl s14, trivial⟩ 15 rfl rfl rfl hS (AgreeR.refl _) (t_sat (fun _ h => h) (hK (bs6, cp7, bs10, cp11, bs14, cp15) ⟨hf0, hf1, hf2, hf3, hf4, hf5⟩))
      · -- 16
        rintro ⟨bs6, cp7, bs10, cp11, bs14, cp15⟩ S hF hS D hp K hK
        try dsimp only at hF ⊢
        obtain ⟨hf0, hf1, hf2, hf3, hf4, hf5⟩ := hF
        have s8 := hp 8 rfl
        have s1 := D 8 1 rfl s8
        have hok8 := hf0 s1
        have hle9 := hf1 s1
        have hok12 := hf2 s8
        have hle13 := hf3 s8
        have s15 := hp 15 rfl
        refine d_need (small := [(19, (.slice bs10 kp cp11)), (26, (.slice (sbase bs1 (kp + 1) cp2 3) (ms.length - (kp + 1)) (cp2 - (kp + 1))))]) ⟨look_row rfl 8 rfl s8, look_row rfl 15 rfl s15, trivial⟩ ?_
        refine t_cF (nf hS D (k := 19) (i := 16) rfl) ?_
        refine t_f2 ?_
        refine t_cF hS ?_
        refine t_cT s8 ?_
        refine tm rfl (mv_append (i := Try.t59) Try.underlying55 Try.type59 rfl rfl rfl (by decide) rfl rfl (fun hz => slok_sbase hok3 (by omega) hz) (by first | exact recs_len m3F_len _ | (rw [recs_len m3F_len]; congr 1; first | (simp; done) | (simp; omega))) (rd_sb_recs (l := kp + 1) (m := cp2) m3F_len (rd_sl (.tail _ (.tail _ (.head _)))) hok3 rfl hle4) (recs_one m3F_one) (by rw [show Try.t59.bytes = 24 from rfl]; omega)) ?_
        rintro _ _ ⟨bs14, cp15, hok16, hle17, rfl, rfl⟩
        rw [← recs_append]
        refine t_f1 ?_
        refine t_wF (A := (Blk p [(.int .i64 q), (.slice bs14 (kp + (ms.length - (kp + 1))) cp15), (.int .i64 ((a : Nat) : Int))] 57)) (nf hS D (k := 19) (i := 16) rfl) ?_
        refine t_f1 ?_
        refine t_f2 ?_
        refine t_f2 ?_
        exact d_closes ⟨look_row rfl 8 rfl s8, look_row rfl 15 rfl s15, trivial⟩ 16 rfl rfl rfl hS (by exact ⟨.inl rfl, .inl rfl, .inl rfl, .inl rfl, .inl rfl, .inl rfl, .inl rfl, .inl rfl, .inl rfl, .inl rfl, .inl rfl, .inl rfl, .inl rfl, .inl rfl, .inl rfl, .inl rfl, .inr ⟨rfl, rfl, hS⟩, .inl rfl, .inl rfl, trivial⟩) (t_sat (fun _ h => h) (hK (bs6, cp7, bs10, cp11, bs14, cp15) ⟨hf0, hf1, hf2, hf3, (fun _ => hok16), (fun _ => hle17)⟩))
      · -- 17
        rintro ⟨bs6, cp7, bs10, cp11, bs14, cp15⟩ S hF hS D hp K hK
        try dsimp only at hF ⊢
        obtain ⟨hf0, hf1, hf2, hf3, hf4, hf5⟩ := hF
        have s0 := hp 0 rfl
        refine d_need (small := [(11, (.pointer (some ⟨p, 0, none⟩)))]) ⟨look_row rfl 0 rfl s0, trivial⟩ ?_
        refine tp rfl (lv_nilCheck rfl) ?_
        exact d_closes ⟨look_row rfl 0 rfl s0, trivial⟩ 17 rfl rfl rfl hS (AgreeR.refl _) (t_sat (fun _ h => h) (hK (bs6, cp7, bs10, cp11, bs14, cp15) ⟨hf0, hf1, hf2, hf3, hf4, hf5⟩))
      · -- 18
        rintro ⟨bs6, cp7, bs10, cp11, bs14, cp15⟩ S hF hS D hp K hK
        try dsimp only at hF ⊢
        obtain ⟨hf0, hf1, hf2, hf3, hf4, hf5⟩ := hF
        have s17 := hp 17 rfl
        refine d_need (small := [(28, (.pointer (some ⟨p, 0, none⟩)))]) ⟨look_row rfl 17 rfl s17, trivial⟩ ?_
        refine tp rfl (lv_fieldAddr (o' := 1) Try.underlying57 rfl Try.sizeOf55 rfl rfl) ?_
        exact d_closes ⟨look_row rfl 17 rfl s17, trivial⟩ 18 rfl rfl rfl hS (AgreeR.refl _) (t_sat (fun _ h => h) (hK (bs6, cp7, bs10, cp11, bs14, cp15) ⟨hf0, hf1, hf2, hf3, hf4, hf5⟩))
      · -- 19
        rintro ⟨bs6, cp7, bs10, cp11, bs14, cp15⟩ S hF hS D hp K hK
        try dsimp only at hF ⊢
        obtain ⟨hf0, hf1, hf2, hf3, hf4, hf5⟩ := hF
        have s1 := hp 1 rfl
        have hok8 := hf0 s1
        have hle9 := hf1 s1
        have s8 := hp 8 rfl
        have hok12 := hf2 s8
        have hle13 := hf3 s8
        have s16 := hp 16 rfl
        have hok16 := hf4 s16
        have hle17 := hf5 s16
        have s18 := hp 18 rfl
        refine d_need (small := [(27, (.slice bs14 (kp + (ms.length - (kp + 1))) cp15)), (29, (.pointer (some ⟨p, 1, none⟩)))]) ⟨look_row rfl 16 rfl s16, look_row rfl 18 rfl s18, trivial⟩ ?_
        refine t_cF hS ?_
        refine ts (sv_blk Try.sizeOf55 rfl rfl rfl (Nat.le_of_ble_eq_true rfl) rfl) ?_
        exact d_closes0 ⟨look_row rfl 16 rfl s16, look_row rfl 18 rfl s18, trivial⟩ rfl (t_sat (fun _ h => h) (hK (bs6, cp7, bs10, cp11, bs14, cp15) ⟨hf0, hf1, hf2, hf3, hf4, hf5⟩))
    · -- behind
      rintro ⟨bs6, cp7, bs10, cp11, bs14, cp15⟩ hF
      try dsimp only at hF ⊢
      obtain ⟨hf0, hf1, hf2, hf3, hf4, hf5⟩ := hF
      have hok8 := hf0 rfl
      have hle9 := hf1 rfl
      have hok12 := hf2 rfl
      have hle13 := hf3 rfl
      have hok16 := hf4 rfl
      have hle17 := hf5 rfl
      refine t_weak (E' := [(0, (.pointer (some ⟨p, 0, none⟩))), (1, (.int .i64 id)), (4, (.int .i64 0)), (5, (.int .i64 ((kp : Nat) : Int))), (10, (.bool false))]) ⟨rfl, rfl, rfl, rfl, rfl, trivial⟩ ?_
      refine q_then_n (hK5 _ _ ?_)
      refine c_seq (fun K6 hK6 => ?_)
      refine c_seq (fun K7 hK7 => ?_)
      refine c_region ?_
      have hnl : kp + (ms.length - (kp + 1)) = (ms.eraseIdx kp).length := by rw [hel]; omega
      rw [show (ms.take kp) ++ (ms.drop (kp + 1)) = ms.eraseIdx kp from (List.eraseIdx_eq_take_drop_succ ms kp).symm, hnl]
      rw [hnl] at hok16 hle17
      refine tp rfl (lv_move rfl) ?_
      refine tp rfl (lv_move rfl) ?_
      refine tp rfl (lv_nilCheck rfl) ?_
      refine tp rfl (lv_fieldAddr (o' := 2) Try.underlying57 rfl Try.sizeOf3 rfl rfl) ?_
      refine tp rfl (lv_load Try.isAgg3 rfl (gives_blk (.head _) rfl)) ?_
      by_cases h6 : ((kp : Nat) : Int) < ((a : Nat) : Int)
      · -- yes
        refine tp rfl (lv_lss rfl rfl (decide_eq_true h6)) ?_
        refine t_done ?_
        refine q_then_n (hK7 _ _ ?_)
        refine c_true rfl ?_
        refine c_region ?_
        refine tp rfl (lv_move rfl) ?_
        refine tp rfl (lv_nilCheck rfl) ?_
        refine tp rfl (lv_fieldAddr (o' := 2) Try.underlying57 rfl Try.sizeOf3 rfl rfl) ?_
        refine tp rfl (lv_load Try.isAgg3 rfl (gives_blk (.head _) rfl)) ?_
        refine tp rfl (lv_sub (c := ((a - 1 : Nat) : Int)) rfl rfl ((wr_i64 (by omega) (by omega)).trans (by omega))) ?_
        refine tp rfl (lv_nilCheck rfl) ?_
        refine tp rfl (lv_fieldAddr (o' := 2) Try.underlying57 rfl Try.sizeOf3 rfl rfl) ?_
        refine ts (sv_blk Try.sizeOf3 rfl rfl rfl (Nat.le_of_ble_eq_true rfl) rfl) ?_
        refine t_done ?_
        refine q_then_n (hK6 _ _ ?_)
        refine c_seq (fun K8 hK8 => ?_)
        refine c_seq (fun K9 hK9 => ?_)
        by_cases h7 : ((a - 1 : Nat) : Int) ≥ (((ms.eraseIdx kp).length : Nat) : Int)
        · -- yes
         refine c_draw (γ := Unit) (n := 10) Try.mixed rfl rfl (fun _ S => True) (fun _ => [(0, 43, (.pointer (some ⟨p, 0, none⟩))), (1, 44, (.pointer (some ⟨p, 0, none⟩))), (2, 45, (.pointer (some ⟨p, 2, none⟩))), (3, 46, (.int .i64 ((a - 1 : Nat) : Int))), (4, 47, (.pointer (some ⟨p, 0, none⟩))), (5, 48, (.pointer (some ⟨p, 0, none⟩))), (6, 49, (.pointer (some ⟨p, 1, none⟩))), (7, 50, (.slice bs14 ((ms.eraseIdx kp).length) cp15)), (8, 51, (.int .i64 (((ms.eraseIdx kp).length : Nat) : Int))), (9, 52, (.bool true))]) (fun _ S => (Blk p [(.int .i64 q), (.slice bs14 ((ms.eraseIdx kp).length) cp15), (.int .i64 ((a - 1 : Nat) : Int))] 57) :: (SlV 59 3 (.slice bs1 ms.length cp2) ms.length (recs m3F ms)) :: (SlV 59 3 (.slice bs14 ((ms.eraseIdx kp).length) cp15) ((ms.eraseIdx kp).length) (recs m3F (ms.eraseIdx kp))) :: R) (()) trivial (fun _ h => h) (fun _ _ h => h) ?_ ?_
         · -- steps
          refine ⟨?_, ?_, ?_, ?_, ?_, ?_, ?_, ?_, ?_, ?_, trivial⟩
          · -- 0
           rintro _ S hF hS D hp K hK
           try dsimp only at hF ⊢
           refine d_need (small := [(0, (.pointer (some ⟨p, 0, none⟩)))]) ⟨look_b rfl rfl, trivial⟩ ?_
           refine tp rfl (lv_move rfl) ?_
           exact d_closes ⟨look_b rfl rfl, trivial⟩ 0 rfl rfl rfl hS (AgreeR.refl _) (t_sat (fun _ h => h) (hK () trivial))
          · -- 1
           rintro _ S hF hS D hp K hK
           try dsimp only at hF ⊢
           have s0 := hp 0 rfl
           refine d_need (small := [(43, (.pointer (some ⟨p, 0, none⟩)))]) ⟨look_row rfl 0 rfl s0, trivial⟩ ?_
           refine tp rfl (lv_nilCheck rfl) ?_
           exact d_closes ⟨look_row rfl 0 rfl s0, trivial⟩ 1 rfl rfl rfl hS (AgreeR.refl _) (t_sat (fun _ h => h) (hK () trivial))
          · -- 2
           rintro _ S hF hS D hp K hK
           try dsimp only at hF ⊢
           have s1 := hp 1 rfl
           refine d_need (small := [(44, (.pointer (some ⟨p, 0, none⟩)))]) ⟨look_row rfl 1 rfl s1, trivial⟩ ?_
           refine tp rfl (lv_fieldAddr (o' := 2) Try.underlying57 rfl Try.sizeOf3 rfl rfl) ?_
           exact d_closes ⟨look_row rfl 1 rfl s1, trivial⟩ 2 rfl rfl rfl hS (AgreeR.refl _) (t_sat (fun _ h => h) (hK () trivial))
          · -- 3
           rintro _ S hF hS D hp K hK
           try dsimp only at hF ⊢
           have s2 := hp 2 rfl
           refine d_need (small := [(45, (.pointer (some ⟨p, 2, none⟩)))]) ⟨look_row rfl 2 rfl s2, trivial⟩ ?_
           refine tp rfl (lv_load Try.isAgg3 rfl (gives_blk (.head _) rfl)) ?_
           exact d_closes ⟨look_row rfl 2 rfl s2, trivial⟩ 3 rfl rfl rfl hS (AgreeR.refl _) (t_sat (fun _ h => h) (hK () trivial))
          · -- 4
           rintro _ S hF hS D hp K hK
           try dsimp only at hF ⊢
           refine d_need (small := [(0, (.pointer (some ⟨p, 0, none⟩)))]) ⟨look_b rfl rfl, trivial⟩ ?_
           refine tp rfl (lv_move rfl) ?_
           exact d_closes ⟨look_b rfl rfl, trivial⟩ 4 rfl rfl rfl hS (AgreeR.refl _) (t_sat (fun _ h => h) (hK () trivial))
          · -- 5
           rintro _ S hF hS D hp K hK
           try dsimp only at hF ⊢
           have s4 := hp 4 rfl
           refine d_need (small := [(47, (.pointer (some ⟨p, 0, none⟩)))]) ⟨look_row rfl 4 rfl s4, trivial⟩ ?_
           refine tp rfl (lv_nilCheck rfl) ?_
           exact d_closes ⟨look_row rfl 4 rfl s4, trivial⟩ 5 rfl rfl rfl hS (AgreeR.refl _) (t_sat (fun _ h => h) (hK () trivial))
          · -- 6
           rintro _ S hF hS D hp K hK
           try dsimp only at hF ⊢
           have s5 := hp 5 rfl
           refine d_need (small := [(48, (.pointer (some ⟨p, 0, none⟩)))]) ⟨look_row rfl 5 rfl s5, trivial⟩ ?_
           refine tp rfl (lv_fieldAddr (o' := 1) Try.underlying57 rfl Try.sizeOf55 rfl rfl) ?_
           exact d_closes ⟨look_row rfl 5 rfl s5, trivial⟩ 6 rfl rfl rfl hS (AgreeR.refl _) (t_sat (fun _ h => h) (hK () trivial))
          · -- 7
           rintro _ S hF hS D hp K hK
           try dsimp only at hF ⊢
           have s6 := hp 6 rfl
           refine d_need (small := [(49, (.pointer (some ⟨p, 1, none⟩)))]) ⟨look_row rfl 6 rfl s6, trivial⟩ ?_
           refine tp rfl (lv_load Try.isAgg55 rfl (gives_blk (.head _) rfl)) ?_
           exact d_closes ⟨look_row rfl 6 rfl s6, trivial⟩ 7 rfl rfl rfl hS (AgreeR.refl _) (t_sat (fun _ h => h) (hK () trivial))
          · -- 8
           rintro _ S hF hS D hp K hK
           try dsimp only at hF ⊢
           have s7 := hp 7 rfl
           refine d_need (small := [(50, (.slice bs14 ((ms.eraseIdx kp).length) cp15))]) ⟨look_row rfl 7 rfl s7, trivial⟩ ?_
           refine tp rfl (lv_len Try.underlying55 rfl rfl) ?_
           exact d_closes ⟨look_row rfl 7 rfl s7, trivial⟩ 8 rfl rfl rfl hS (AgreeR.refl _) (t_sat (fun _ h => h) (hK () trivial))
          · -- 9
           rintro _ S hF hS D hp K hK
           try dsimp only at hF ⊢
           have s3 := hp 3 rfl
           have s8 := hp 8 rfl
           refine d_need (small := [(46, (.int .i64 ((a - 1 : Nat) : Int))), (51, (.int .i64 (((ms.eraseIdx kp).length : Nat) : Int)))]) ⟨look_row rfl 3 rfl s3, look_row rfl 8 rfl s8, trivial⟩ ?_
           refine tp rfl (lv_geq rfl rfl (decide_eq_true h7)) ?_
           exact d_closes ⟨look_row rfl 3 rfl s3, look_row rfl 8 rfl s8, trivial⟩ 9 rfl rfl rfl hS (AgreeR.refl _) (t_sat (fun _ h => h) (hK () trivial))
         · -- behind
          rintro _ hF
          try dsimp only at hF ⊢
          refine t_weak (E' := [(0, (.pointer (some ⟨p, 0, none⟩))), (1, (.int .i64 id)), (4, (.int .i64 0)), (5, (.int .i64 ((kp : Nat) : Int))), (10, (.bool false)), (35, (.bool true)), (52, (.bool true))]) ⟨rfl, rfl, rfl, rfl, rfl, rfl, rfl, trivial⟩ ?_
          refine q_then_n (hK9 _ _ ?_)
          refine c_true rfl ?_
          refine c_region ?_
          refine tp rfl (lv_move rfl) ?_
          refine tp rfl (lv_nilCheck rfl) ?_
          refine tp rfl (lv_fieldAddr (o' := 2) Try.underlying57 rfl Try.sizeOf3 rfl rfl) ?_
          refine ts (sv_blk Try.sizeOf3 rfl rfl rfl (Nat.le_of_ble_eq_true rfl) rfl) ?_
          refine t_done ?_
          refine q_then_n (hK8 _ _ ?_)
          refine c_seq (fun K10 hK10 => ?_)
          refine c_region ?_
          refine tp rfl (lv_assign rfl) ?_
          refine t_done ?_
          refine q_then_n (hK10 _ _ ?_)
          refine c_ret ?_
          have hlv : 0 = leaveA ms a id := by
                                        unfold leaveA; rw [hkp, Int.toNat_natCast, if_neg (by omega)]
                                        by_cases h1 : kp < a
                                        · simp only [if_pos h1]; first | (rw [if_pos (by omega)]; done) | (rw [if_pos (by omega)]; omega) | (rw [if_neg (by omega)]; done) | (rw [if_neg (by omega)]; omega)
                                        · simp only [if_neg h1]; first | (rw [if_pos (by omega)]; done) | (rw [if_pos (by omega)]; omega) | (rw [if_neg (by omega)]; done) | (rw [if_neg (by omega)]; omega)
          refine t_f2 ?_
          refine t_f1 ?_
          refine t_shutRT (congrArg (fun x : Nat => Value.int .i64 ((x : Nat) : Int)) hlv) rfl hok16 hle17 ?_
          rw [show ms.eraseIdx kp = leaveM ms id from by unfold leaveM; rw [hkp, Int.toNat_natCast, if_neg (by omega)]]
          refine t_f1 ?_
          refine t_drop ?_
          refine q_ret rfl rfl ?_
          exact ⟨by unfold leaveEr; split <;> first | rfl | (exfalso; omega), rfl⟩
        · -- no
         refine c_draw (γ := Unit) (n := 10) Try.mixed rfl rfl (fun _ S => True) (fun _ => [(0, 43, (.pointer (some ⟨p, 0, none⟩))), (1, 44, (.pointer (some ⟨p, 0, none⟩))), (2, 45, (.pointer (some ⟨p, 2, none⟩))), (3, 46, (.int .i64 ((a - 1 : Nat) : Int))), (4, 47, (.pointer (some ⟨p, 0, none⟩))), (5, 48, (.pointer (some ⟨p, 0, none⟩))), (6, 49, (.pointer (some ⟨p, 1, none⟩))), (7, 50, (.slice bs14 ((ms.eraseIdx kp).length) cp15)), (8, 51, (.int .i64 (((ms.eraseIdx kp).length : Nat) : Int))), (9, 52, (.bool false))]) (fun _ S => (Blk p [(.int .i64 q), (.slice bs14 ((ms.eraseIdx kp).length) cp15), (.int .i64 ((a - 1 : Nat) : Int))] 57) :: (SlV 59 3 (.slice bs1 ms.length cp2) ms.length (recs m3F ms)) :: (SlV 59 3 (.slice bs14 ((ms.eraseIdx kp).length) cp15) ((ms.eraseIdx kp).length) (recs m3F (ms.eraseIdx kp))) :: R) (()) trivial (fun _ h => h) (fun _ _ h => h) ?_ ?_
         · -- steps
          refine ⟨?_, ?_, ?_, ?_, ?_, ?_, ?_, ?_, ?_, ?_, trivial⟩
          · -- 0
           rintro _ S hF hS D hp K hK
           try dsimp only at hF ⊢
           refine d_need (small := [(0, (.pointer (some ⟨p, 0, none⟩)))]) ⟨look_b rfl rfl, trivial⟩ ?_
           refine tp rfl (lv_move rfl) ?_
           exact d_closes ⟨look_b rfl rfl, trivial⟩ 0 rfl rfl rfl hS (AgreeR.refl _) (t_sat (fun _ h => h) (hK () trivial))
          · -- 1
           rintro _ S hF hS D hp K hK
           try dsimp only at hF ⊢
           have s0 := hp 0 rfl
           refine d_need (small := [(43, (.pointer (some ⟨p, 0, none⟩)))]) ⟨look_row rfl 0 rfl s0, trivial⟩ ?_
           refine tp rfl (lv_nilCheck rfl) ?_
           exact d_closes ⟨look_row rfl 0 rfl s0, trivial⟩ 1 rfl rfl rfl hS (AgreeR.refl _) (t_sat (fun _ h => h) (hK () trivial))
          · -- 2
           rintro _ S hF hS D hp K hK
           try dsimp only at hF ⊢
           have s1 := hp 1 rfl
           refine d_need (small := [(44, (.pointer (some ⟨p, 0, none⟩)))]) ⟨look_row rfl 1 rfl s1, trivial⟩ ?_
           refine tp rfl (lv_fieldAddr (o' := 2) Try.underlying57 rfl Try.sizeOf3 rfl rfl) ?_
           exact d_closes ⟨look_row rfl 1 rfl s1, trivial⟩ 2 rfl rfl rfl hS (AgreeR.refl _) (t_sat (fun _ h => h) (hK () trivial))
          · -- 3
           rintro _ S hF hS D hp K hK
           try dsimp only at hF ⊢
           have s2 := hp 2 rfl
           refine d_need (small := [(45, (.pointer (some ⟨p, 2, none⟩)))]) ⟨look_row rfl 2 rfl s2, trivial⟩ ?_
           refine tp rfl (lv_load Try.isAgg3 rfl (gives_blk (.head _) rfl)) ?_
           exact d_closes ⟨look_row rfl 2 rfl s2, trivial⟩ 3 rfl rfl rfl hS (AgreeR.refl _) (t_sat (fun _ h => h) (hK () trivial))
          · -- 4
           rintro _ S hF hS D hp K hK
           try dsimp only at hF ⊢
           refine d_need (small := [(0, (.pointer (some ⟨p, 0, none⟩)))]) ⟨look_b rfl rfl, trivial⟩ ?_
           refine tp rfl (lv_move rfl) ?_
           exact d_closes ⟨look_b rfl rfl, trivial⟩ 4 rfl rfl rfl hS (AgreeR.refl _) (t_sat (fun _ h => h) (hK () trivial))
          · -- 5
           rintro _ S hF hS D hp K hK
           try dsimp only at hF ⊢
           have s4 := hp 4 rfl
           refine d_need (small := [(47, (.pointer (some ⟨p, 0, none⟩)))]) ⟨look_row rfl 4 rfl s4, trivial⟩ ?_
           refine tp rfl (lv_nilCheck rfl) ?_
           exact d_closes ⟨look_row rfl 4 rfl s4, trivial⟩ 5 rfl rfl rfl hS (AgreeR.refl _) (t_sat (fun _ h => h) (hK () trivial))
          · -- 6
           rintro _ S hF hS D hp K hK
           try dsimp only at hF ⊢
           have s5 := hp 5 rfl
           refine d_need (small := [(48, (.pointer (some ⟨p, 0, none⟩)))]) ⟨look_row rfl 5 rfl s5, trivial⟩ ?_
           refine tp rfl (lv_fieldAddr (o' := 1) Try.underlying57 rfl Try.sizeOf55 rfl rfl) ?_
           exact d_closes ⟨look_row rfl 5 rfl s5, trivial⟩ 6 rfl rfl rfl hS (AgreeR.refl _) (t_sat (fun _ h => h) (hK () trivial))
          · -- 7
           rintro _ S hF hS D hp K hK
           try dsimp only at hF ⊢
           have s6 := hp 6 rfl
           refine d_need (small := [(49, (.pointer (some ⟨p, 1, none⟩)))]) ⟨look_row rfl 6 rfl s6, trivial⟩ ?_
           refine tp rfl (lv_load Try.isAgg55 rfl (gives_blk (.head _) rfl)) ?_
           exact d_closes ⟨look_row rfl 6 rfl s6, trivial⟩ 7 rfl rfl rfl hS (AgreeR.refl _) (t_sat (fun _ h => h) (hK () trivial))
          · -- 8
           rintro _ S hF hS D hp K hK
           try dsimp only at hF ⊢
           have s7 := hp 7 rfl
           refine d_need (small := [(50, (.slice bs14 ((ms.eraseIdx kp).length) cp15))]) ⟨look_row rfl 7 rfl s7, trivial⟩ ?_
           refine tp rfl (lv_len Try.underlying55 rfl rfl) ?_
           exact d_closes ⟨look_row rfl 7 rfl s7, trivial⟩ 8 rfl rfl rfl hS (AgreeR.refl _) (t_sat (fun _ h => h) (hK () trivial))
          · -- 9
           rintro _ S hF hS D hp K hK
           try dsimp only at hF ⊢
           have s3 := hp 3 rfl
           have s8 := hp 8 rfl
           refine d_need (small := [(46, (.int .i64 ((a - 1 : Nat) : Int))), (51, (.int .i64 (((ms.eraseIdx kp).length : Nat) : Int)))]) ⟨look_row rfl 3 rfl s3, look_row rfl 8 rfl s8, trivial⟩ ?_
           refine tp rfl (lv_geq rfl rfl (decide_eq_false h7)) ?_
           exact d_closes ⟨look_row rfl 3 rfl s3, look_row rfl 8 rfl s8, trivial⟩ 9 rfl rfl rfl hS (AgreeR.refl _) (t_sat (fun _ h => h) (hK () trivial))
         · -- behind
          rintro _ hF
          try dsimp only at hF ⊢
          refine t_weak (E' := [(0, (.pointer (some ⟨p, 0, none⟩))), (1, (.int .i64 id)), (4, (.int .i64 0)), (5, (.int .i64 ((kp : Nat) : Int))), (10, (.bool false)), (35, (.bool true)), (52, (.bool false))]) ⟨rfl, rfl, rfl, rfl, rfl, rfl, rfl, trivial⟩ ?_
          refine q_then_n (hK9 _ _ ?_)
          refine c_false rfl ?_
          refine c_skip ?_
          refine q_then_n (hK8 _ _ ?_)
          refine c_seq (fun K10 hK10 => ?_)
          refine c_region ?_
          refine tp rfl (lv_assign rfl) ?_
          refine t_done ?_
          refine q_then_n (hK10 _ _ ?_)
          refine c_ret ?_
          have hlv : a - 1 = leaveA ms a id := by
                                        unfold leaveA; rw [hkp, Int.toNat_natCast, if_neg (by omega)]
                                        by_cases h1 : kp < a
                                        · simp only [if_pos h1]; first | (rw [if_pos (by omega)]; done) | (rw [if_pos (by omega)]; omega) | (rw [if_neg (by omega)]; done) | (rw [if_neg (by omega)]; omega)
                                        · simp only [if_neg h1]; first | (rw [if_pos (by omega)]; done) | (rw [if_pos (by omega)]; omega) | (rw [if_neg (by omega)]; done) | (rw [if_neg (by omega)]; omega)
          refine t_f2 ?_
          refine t_f1 ?_
          refine t_shutRT (congrArg (fun x : Nat => Value.int .i64 ((x : Nat) : Int)) hlv) rfl hok16 hle17 ?_
          rw [show ms.eraseIdx kp = leaveM ms id from by unfold leaveM; rw [hkp, Int.toNat_natCast, if_neg (by omega)]]
          refine t_f1 ?_
          refine t_drop ?_
          refine q_ret rfl rfl ?_
          exact ⟨by unfold leaveEr; split <;> first | rfl | (exfalso; omega), rfl⟩
      · -- no
        refine tp rfl (lv_lss rfl rfl (decide_eq_false h6)) ?_
        refine t_done ?_
        refine q_then_n (hK7 _ _ ?_)
        refine c_false rfl ?_
        refine c_skip ?_
        refine q_then_n (hK6 _ _ ?_)
        refine c_seq (fun K8 hK8 => ?_)
        refine c_seq (fun K9 hK9 => ?_)
        by_cases h8 : ((a : Nat) : Int) ≥ (((ms.eraseIdx kp).length : Nat) : Int)
        · -- yes
         refine c_draw (γ := Unit) (n := 10) Try.mixed rfl rfl (fun _ S => True) (fun _ => [(0, 43, (.pointer (some ⟨p, 0, none⟩))), (1, 44, (.pointer (some ⟨p, 0, none⟩))), (2, 45, (.pointer (some ⟨p, 2, none⟩))), (3, 46, (.int .i64 ((a : Nat) : Int))), (4, 47, (.pointer (some ⟨p, 0, none⟩))), (5, 48, (.pointer (some ⟨p, 0, none⟩))), (6, 49, (.pointer (some ⟨p, 1, none⟩))), (7, 50, (.slice bs14 ((ms.eraseIdx kp).length) cp15)), (8, 51, (.int .i64 (((ms.eraseIdx kp).length : Nat) : Int))), (9, 52, (.bool true))]) (fun _ S => (Blk p [(.int .i64 q), (.slice bs14 ((ms.eraseIdx kp).length) cp15), (.int .i64 ((a : Nat) : Int))] 57) :: (SlV 59 3 (.slice bs1 ms.length cp2) ms.length (recs m3F ms)) :: (SlV 59 3 (.slice bs14 ((ms.eraseIdx kp).length) cp15) ((ms.eraseIdx kp).length) (recs m3F (ms.eraseIdx kp))) :: R) (()) trivial (fun _ h => h) (fun _ _ h => h) ?_ ?_
         · -- steps
          refine ⟨?_, ?_, ?_, ?_, ?_, ?_, ?_, ?_, ?_, ?_, trivial⟩
          · -- 0
           rintro _ S hF hS D hp K hK
           try dsimp only at hF ⊢
           refine d_need (small := [(0, (.pointer (some ⟨p, 0, none⟩)))]) ⟨look_b rfl rfl, trivial⟩ ?_
           refine tp rfl (lv_move rfl) ?_
           exact d_closes ⟨look_b rfl rfl, trivial⟩ 0 rfl rfl rfl hS (AgreeR.refl _) (t_sat (fun _ h => h) (hK () trivial))
          · -- 1
           rintro _ S hF hS D hp K hK
           try dsimp only at hF ⊢
           have s0 := hp 0 rfl
           refine d_need (small := [(43, (.pointer (some ⟨p, 0, none⟩)))]) ⟨look_row rfl 0 rfl s0, trivial⟩ ?_
           refine tp rfl (lv_nilCheck rfl) ?_
           exact d_closes ⟨look_row rfl 0 rfl s0, trivial⟩ 1 rfl rfl rfl hS (AgreeR.refl _) (t_sat (fun _ h => h) (hK () trivial))
          · -- 2
           rintro _ S hF hS D hp K hK
           try dsimp only at hF ⊢
           have s1 := hp 1 rfl
           refine d_need (small := [(44, (.pointer (some ⟨p, 0, none⟩)))]) ⟨look_row rfl 1 rfl s1, trivial⟩ ?_
           refine tp rfl (lv_fieldAddr (o' := 2) Try.underlying57 rfl Try.sizeOf3 rfl rfl) ?_
           exact d_closes ⟨look_row rfl 1 rfl s1, trivial⟩ 2 rfl rfl rfl hS (AgreeR.refl _) (t_sat (fun _ h => h) (hK () trivial))
          · -- 3
           rintro _ S hF hS D hp K hK
           try dsimp only at hF ⊢
           have s2 := hp 2 rfl
           refine d_need (small := [(45, (.pointer (some ⟨p, 2, none⟩)))]) ⟨look_row rfl 2 rfl s2, trivial⟩ ?_
           refine tp rfl (lv_load Try.isAgg3 rfl (gives_blk (.head _) rfl)) ?_
           exact d_closes ⟨look_row rfl 2 rfl s2, trivial⟩ 3 rfl rfl rfl hS (AgreeR.refl _) (t_sat (fun _ h => h) (hK () trivial))
          · -- 4
           rintro _ S hF hS D hp K hK
           try dsimp only at hF ⊢
           refine d_need (small := [(0, (.pointer (some ⟨p, 0, none⟩)))]) ⟨look_b rfl rfl, trivial⟩ ?_
           refine tp rfl (lv_move rfl) ?_
           exact d_closes ⟨look_b rfl rfl, trivial⟩ 4 rfl rfl rfl hS (AgreeR.refl _) (t_sat (fun _ h => h) (hK () trivial))
          · -- 5
           rintro _ S hF hS D hp K hK
           try dsimp only at hF ⊢
           have s4 := hp 4 rfl
           refine d_need (small := [(47, (.pointer (some ⟨p, 0, none⟩)))]) ⟨look_row rfl 4 rfl s4, trivial⟩ ?_
           refine tp rfl (lv_nilCheck rfl) ?_
           exact d_closes ⟨look_row rfl 4 rfl s4, trivial⟩ 5 rfl rfl rfl hS (AgreeR.refl _) (t_sat (fun _ h => h) (hK () trivial))
          · -- 6
           rintro _ S hF hS D hp K hK
           try dsimp only at hF ⊢
           have s5 := hp 5 rfl
           refine d_need (small := [(48, (.pointer (some ⟨p, 0, none⟩)))]) ⟨look_row rfl 5 rfl s5, trivial⟩ ?_
           refine tp rfl (lv_fieldAddr (o' := 1) Try.underlying57 rfl Try.sizeOf55 rfl rfl) ?_
           exact d_closes ⟨look_row rfl 5 rfl s5, trivial⟩ 6 rfl rfl rfl hS (AgreeR.refl _) (t_sat (fun _ h => h) (hK () trivial))
          · -- 7
           rintro _ S hF hS D hp K hK
           try dsimp only at hF ⊢
           have s6 := hp 6 rfl
           refine d_need (small := [(49, (.pointer (some ⟨p, 1, none⟩)))]) ⟨look_row rfl 6 rfl s6, trivial⟩ ?_
           refine tp rfl (lv_load Try.isAgg55 rfl (gives_blk (.head _) rfl)) ?_
           exact d_closes ⟨look_row rfl 6 rfl s6, trivial⟩ 7 rfl rfl rfl hS (AgreeR.refl _) (t_sat (fun _ h => h) (hK () trivial))
          · -- 8
           rintro _ S hF hS D hp K hK
           try dsimp only at hF ⊢
           have s7 := hp 7 rfl
           refine d_need (small := [(50, (.slice bs14 ((ms.eraseIdx kp).length) cp15))]) ⟨look_row rfl 7 rfl s7, trivial⟩ ?_
           refine tp rfl (lv_len Try.underlying55 rfl rfl) ?_
           exact d_closes ⟨look_row rfl 7 rfl s7, trivial⟩ 8 rfl rfl rfl hS (AgreeR.refl _) (t_sat (fun _ h => h) (hK () trivial))
          · -- 9
           rintro _ S hF hS D hp K hK
           try dsimp only at hF ⊢
           have s3 := hp 3 rfl
           have s8 := hp 8 rfl
           refine d_need (small := [(46, (.int .i64 ((a : Nat) : Int))), (51, (.int .i64 (((ms.eraseIdx kp).length : Nat) : Int)))]) ⟨look_row rfl 3 rfl s3, look_row rfl 8 rfl s8, trivial⟩ ?_
           refine tp rfl (lv_geq rfl rfl (decide_eq_true h8)) ?_
           exact d_closes ⟨look_row rfl 3 rfl s3, look_row rfl 8 rfl s8, trivial⟩ 9 rfl rfl rfl hS (AgreeR.refl _) (t_sat (fun _ h => h) (hK () trivial))
         · -- behind
          rintro _ hF
          try dsimp only at hF ⊢
          refine t_weak (E' := [(0, (.pointer (some ⟨p, 0, none⟩))), (1, (.int .i64 id)), (4, (.int .i64 0)), (5, (.int .i64 ((kp : Nat) : Int))), (10, (.bool false)), (35, (.bool false)), (52, (.bool true))]) ⟨rfl, rfl, rfl, rfl, rfl, rfl, rfl, trivial⟩ ?_
          refine q_then_n (hK9 _ _ ?_)
          refine c_true rfl ?_
          refine c_region ?_
          refine tp rfl (lv_move rfl) ?_
          refine tp rfl (lv_nilCheck rfl) ?_
          refine tp rfl (lv_fieldAddr (o' := 2) Try.underlying57 rfl Try.sizeOf3 rfl rfl) ?_
          refine ts (sv_blk Try.sizeOf3 rfl rfl rfl (Nat.le_of_ble_eq_true rfl) rfl) ?_
          refine t_done ?_
          refine q_then_n (hK8 _ _ ?_)
          refine c_seq (fun K10 hK10 => ?_)
          refine c_region ?_
          refine tp rfl (lv_assign rfl) ?_
          refine t_done ?_
          refine q_then_n (hK10 _ _ ?_)
          refine c_ret ?_
          have hlv : 0 = leaveA ms a id := by
                                        unfold leaveA; rw [hkp, Int.toNat_natCast, if_neg (by omega)]
                                        by_cases h1 : kp < a
                                        · simp only [if_pos h1]; first | (rw [if_pos (by omega)]; done) | (rw [if_pos (by omega)]; omega) | (rw [if_neg (by omega)]; done) | (rw [if_neg (by omega)]; omega)
                                        · simp only [if_neg h1]; first | (rw [if_pos (by omega)]; done) | (rw [if_pos (by omega)]; omega) | (rw [if_neg (by omega)]; done) | (rw [if_neg (by omega)]; omega)
          refine t_f2 ?_
          refine t_f1 ?_
          refine t_shutRT (congrArg (fun x : Nat => Value.int .i64 ((x : Nat) : Int)) hlv) rfl hok16 hle17 ?_
          rw [show ms.eraseIdx kp = leaveM ms id from by unfold leaveM; rw [hkp, Int.toNat_natCast, if_neg (by omega)]]
          refine t_f1 ?_
          refine t_drop ?_
          refine q_ret rfl rfl ?_
          exact ⟨by unfold leaveEr; split <;> first | rfl | (exfalso; omega), rfl⟩
        · -- no
         refine c_draw (γ := Unit) (n := 10) Try.mixed rfl rfl (fun _ S => True) (fun _ => [(0, 43, (.pointer (some ⟨p, 0, none⟩))), (1, 44, (.pointer (some ⟨p, 0, none⟩))), (2, 45, (.pointer (some ⟨p, 2, none⟩))), (3, 46, (.int .i64 ((a : Nat) : Int))), (4, 47, (.pointer (some ⟨p, 0, none⟩))), (5, 48, (.pointer (some ⟨p, 0, none⟩))), (6, 49, (.pointer (some ⟨p, 1, none⟩))), (7, 50, (.slice bs14 ((ms.eraseIdx kp).length) cp15)), (8, 51, (.int .i64 (((ms.eraseIdx kp).length : Nat) : Int))), (9, 52, (.bool false))]) (fun _ S => (Blk p [(.int .i64 q), (.slice bs14 ((ms.eraseIdx kp).length) cp15), (.int .i64 ((a : Nat) : Int))] 57) :: (SlV 59 3 (.slice bs1 ms.length cp2) ms.length (recs m3F ms)) :: (SlV 59 3 (.slice bs14 ((ms.eraseIdx kp).length) cp15) ((ms.eraseIdx kp).length) (recs m3F (ms.eraseIdx kp))) :: R) (()) trivial (fun _ h => h) (fun _ _ h => h) ?_ ?_
         · -- steps
          refine ⟨?_, ?_, ?_, ?_, ?_, ?_, ?_, ?_, ?_, ?_, trivial⟩
          · -- 0
           rintro _ S hF hS D hp K hK
           try dsimp only at hF ⊢
           refine d_need (small := [(0, (.pointer (some ⟨p, 0, none⟩)))]) ⟨look_b rfl rfl, trivial⟩ ?_
           refine tp rfl (lv_move rfl) ?_
           exact d_closes ⟨look_b rfl rfl, trivial⟩ 0 rfl rfl rfl hS (AgreeR.refl _) (t_sat (fun _ h => h) (hK () trivial))
          · -- 1
           rintro _ S hF hS D hp K hK
           try dsimp only at hF ⊢
           have s0 := hp 0 rfl
           refine d_need (small := [(43, (.pointer (some ⟨p, 0, none⟩)))]) ⟨look_row rfl 0 rfl s0, trivial⟩ ?_
           refine tp rfl (lv_nilCheck rfl) ?_
           exact d_closes ⟨look_row rfl 0 rfl s0, trivial⟩ 1 rfl rfl rfl hS (AgreeR.refl _) (t_sat (fun _ h => h) (hK () trivial))
          · -- 2
           rintro _ S hF hS D hp K hK
           try dsimp only at hF ⊢
           have s1 := hp 1 rfl
           refine d_need (small := [(44, (.pointer (some ⟨p, 0, none⟩)))]) ⟨look_row rfl 1 rfl s1, trivial⟩ ?_
           refine tp rfl (lv_fieldAddr (o' := 2) Try.underlying57 rfl Try.sizeOf3 rfl rfl) ?_
           exact d_closes ⟨look_row rfl 1 rfl s1, trivial⟩ 2 rfl rfl rfl hS (AgreeR.refl _) (t_sat (fun _ h => h) (hK () trivial))
          · -- 3
           rintro _ S hF hS D hp K hK
           try dsimp only at hF ⊢
           have s2 := hp 2 rfl
           refine d_need (small := [(45, (.pointer (some ⟨p, 2, none⟩)))]) ⟨look_row rfl 2 rfl s2, trivial⟩ ?_
           refine tp rfl (lv_load Try.isAgg3 rfl (gives_blk (.head _) rfl)) ?_
           exact d_closes ⟨look_row rfl 2 rfl s2, trivial⟩ 3 rfl rfl rfl hS (AgreeR.refl _) (t_sat (fun _ h => h) (hK () trivial))
          · -- 4
           rintro _ S hF hS D hp K hK
           try dsimp only at hF ⊢
           refine d_need (small := [(0, (.pointer (some ⟨p, 0, none⟩)))]) ⟨look_b rfl rfl, trivial⟩ ?_
           refine tp rfl (lv_move rfl) ?_
           exact d_closes ⟨look_b rfl rfl, trivial⟩ 4 rfl rfl rfl hS (AgreeR.refl _) (t_sat (fun _ h => h) (hK () trivial))
          · -- 5
           rintro _ S hF hS D hp K hK
           try dsimp only at hF ⊢
           have s4 := hp 4 rfl
           refine d_need (small := [(47, (.pointer (some ⟨p, 0, none⟩)))]) ⟨look_row rfl 4 rfl s4, trivial⟩ ?_
           refine tp rfl (lv_nilCheck rfl) ?_
           exact d_closes ⟨look_row rfl 4 rfl s4, trivial⟩ 5 rfl rfl rfl hS (AgreeR.refl _) (t_sat (fun _ h => h) (hK () trivial))
          · -- 6
           rintro _ S hF hS D hp K hK
           try dsimp only at hF ⊢
           have s5 := hp 5 rfl
           refine d_need (small := [(48, (.pointer (some ⟨p, 0, none⟩)))]) ⟨look_row rfl 5 rfl s5, trivial⟩ ?_
           refine tp rfl (lv_fieldAddr (o' := 1) Try.underlying57 rfl Try.sizeOf55 rfl rfl) ?_
           exact d_closes ⟨look_row rfl 5 rfl s5, trivial⟩ 6 rfl rfl rfl hS (AgreeR.refl _) (t_sat (fun _ h => h) (hK () trivial))
          · -- 7
           rintro _ S hF hS D hp K hK
           try dsimp only at hF ⊢
           have s6 := hp 6 rfl
           refine d_need (small := [(49, (.pointer (some ⟨p, 1, none⟩)))]) ⟨look_row rfl 6 rfl s6, trivial⟩ ?_
           refine tp rfl (lv_load Try.isAgg55 rfl (gives_blk (.head _) rfl)) ?_
           exact d_closes ⟨look_row rfl 6 rfl s6, trivial⟩ 7 rfl rfl rfl hS (AgreeR.refl _) (t_sat (fun _ h => h) (hK () trivial))
          · -- 8
           rintro _ S hF hS D hp K hK
           try dsimp only at hF ⊢
           have s7 := hp 7 rfl
           refine d_need (small := [(50, (.slice bs14 ((ms.eraseIdx kp).length) cp15))]) ⟨look_row rfl 7 rfl s7, trivial⟩ ?_
           refine tp rfl (lv_len Try.underlying55 rfl rfl) ?_
           exact d_closes ⟨look_row rfl 7 rfl s7, trivial⟩ 8 rfl rfl rfl hS (AgreeR.refl _) (t_sat (fun _ h => h) (hK () trivial))
          · -- 9
           rintro _ S hF hS D hp K hK
           try dsimp only at hF ⊢
           have s3 := hp 3 rfl
           have s8 := hp 8 rfl
           refine d_need (small := [(46, (.int .i64 ((a : Nat) : Int))), (51, (.int .i64 (((ms.eraseIdx kp).length : Nat) : Int)))]) ⟨look_row rfl 3 rfl s3, look_row rfl 8 rfl s8, trivial⟩ ?_
           refine tp rfl (lv_geq rfl rfl (decide_eq_false h8)) ?_
           exact d_closes ⟨look_row rfl 3 rfl s3, look_row rfl 8 rfl s8, trivial⟩ 9 rfl rfl rfl hS (AgreeR.refl _) (t_sat (fun _ h => h) (hK () trivial))
         · -- behind
          rintro _ hF
          try dsimp only at hF ⊢
          refine t_weak (E' := [(0, (.pointer (some ⟨p, 0, none⟩))), (1, (.int .i64 id)), (4, (.int .i64 0)), (5, (.int .i64 ((kp : Nat) : Int))), (10, (.bool false)), (35, (.bool false)), (52, (.bool false))]) ⟨rfl, rfl, rfl, rfl, rfl, rfl, rfl, trivial⟩ ?_
          refine q_then_n (hK9 _ _ ?_)
          refine c_false rfl ?_
          refine c_skip ?_
          refine q_then_n (hK8 _ _ ?_)
          refine c_seq (fun K10 hK10 => ?_)
          refine c_region ?_
          refine tp rfl (lv_assign rfl) ?_
          refine t_done ?_
          refine q_then_n (hK10 _ _ ?_)
          refine c_ret ?_
          have hlv : a = leaveA ms a id := by
                                        unfold leaveA; rw [hkp, Int.toNat_natCast, if_neg (by omega)]
                                        by_cases h1 : kp < a
                                        · simp only [if_pos h1]; first | (rw [if_pos (by omega)]; done) | (rw [if_pos (by omega)]; omega) | (rw [if_neg (by omega)]; done) | (rw [if_neg (by omega)]; omega)
                                        · simp only [if_neg h1]; first | (rw [if_pos (by omega)]; done) | (rw [if_pos (by omega)]; omega) | (rw [if_neg (by omega)]; done) | (rw [if_neg (by omega)]; omega)
          refine t_f2 ?_
          refine t_f1 ?_
          refine t_shutRT (congrArg (fun x : Nat => Value.int .i64 ((x : Nat) : Int)) hlv) rfl hok16 hle17 ?_
          rw [show ms.eraseIdx kp = leaveM ms id from by unfold leaveM; rw [hkp, Int.toNat_natCast, if_neg (by omega)]]
          refine t_f1 ?_
          refine t_drop ?_
          refine q_ret rfl rfl ?_
          exact ⟨by unfold leaveEr; split <;> first | rfl | (exfalso; omega), rfl⟩
end Go.Proofs.Ytkhceihokoheaaa
