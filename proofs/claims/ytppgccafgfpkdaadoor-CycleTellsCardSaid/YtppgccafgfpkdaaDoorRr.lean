/- The document's graph: contracts. -/
import Derived.Test.YtppgccafgfpkdaaDoorLa
import Derived.Test.YtppgccafgfpkdaaDoorRnd
import Derived.Test.YtppgccafgfpkdaaDoorCyc3
set_option maxRecDepth 100000
set_option linter.unusedVariables false
set_option linter.unusedSimpArgs false
namespace Go.Proofs.YtppgccafgfpkdaaDoor
open Go Go.Proofs Sp
theorem rnew_ok {R : List HP} (n : Int) :
    Ok Tryd.prog 11 [(.int .i64 n)] R
      (fun v M => ∃ p, v = .pointer (some ⟨p, 0, none⟩) ∧ M = RefO p (clampN n) ([] : Es) :: R) := by
  have hcl : clampN n ≤ 64 := by unfold clampN; omega
  have hce : min (max n 0) 64 = ((clampN n : Nat) : Int) := by unfold clampN; omega
  refine ok_of (N := 8) Tryd.func11 rfl rfl rfl (fun W => ?_)
  refine c_seq (fun K1 hK1 => ?_)
  refine c_region ?_
  refine tp rfl (lv_assign rfl) ?_
  refine t_done ?_
  refine q_then_n (hK1 _ _ ?_)
  refine c_seq (fun K2 hK2 => ?_)
  refine c_region ?_
  refine tp rfl (lv_move rfl) ?_
  refine tp rfl (lv_max (c := max n 0) rfl rfl rfl) ?_
  refine tp rfl (lv_min (c := ((clampN n : Nat) : Int)) rfl rfl hce) ?_
  refine tp rfl (lv_build (cs := [(.int .i64 ((clampN n : Nat) : Int)), (.slice none 0 0)]) (pl := [(0, 1), (1, 1)]) Tryd.underlying52 Tryd.zeroValue52 (fun _ => by simp) rfl rfl) ?_
  refine tm rfl (mv_box rfl rfl) ?_
  rintro _ _ ⟨b1, rfl, rfl⟩
  refine tp rfl (lv_assign rfl) ?_
  refine t_done ?_
  refine q_then_n (hK2 _ _ ?_)
  refine c_ret ?_
  refine t_sat (fun _ h => sat_nilsl 54 2 h) ?_
  refine t_f1 ?_
  refine t_shutR (es := []) slok_none (Nat.le_refl _) ?_
  refine q_ret rfl rfl ?_
  exact ⟨_, rfl, rfl⟩

theorem rthere_ok {R : List HP} {p N : Nat} {bl : Option Addr} {cl : Nat} {es : Es} (a : Int) :
    Ok Tryd.prog 27 [(.pointer (some ⟨p, 0, none⟩)), (.int .i64 a)] ((Blk p [(.int .i64 ((N : Nat) : Int)), (.slice bl es.length cl)] 52) :: (SlV 54 2 (.slice bl es.length cl) es.length (pairs es)) :: R)
      (fun v M => v = .bool (valid N a) ∧ M = Blk p [.int .i64 ((N : Nat) : Int), .slice bl es.length cl] 52 :: SlV 54 2 (.slice bl es.length cl) es.length (pairs es) :: R) := by
  refine ok_of (N := 15) Tryd.func27 rfl rfl rfl (fun W => ?_)
  refine c_seq (fun K1 hK1 => ?_)
  refine c_region ?_
  refine tp rfl (lv_assign rfl) ?_
  refine t_done ?_
  refine q_then_n (hK1 _ _ ?_)
  refine c_seq (fun K2 hK2 => ?_)
  refine c_region ?_
  refine tp rfl (lv_move rfl) ?_
  by_cases h1 : a ≥ 0
  · -- yes
    refine tp rfl (lv_geq rfl rfl (decide_eq_true h1)) ?_
    refine tp rfl (lv_move rfl) ?_
    refine t_guard rfl rfl ?_
    refine tp rfl (lv_move rfl) ?_
    refine t_guard rfl rfl ?_
    refine tp rfl (lv_move rfl) ?_
    refine t_guard rfl rfl ?_
    refine tp rfl (lv_nilCheck rfl) ?_
    refine t_guard rfl rfl ?_
    refine tp rfl (lv_fieldAddr (o' := 0) Tryd.underlying52 rfl Tryd.sizeOf3 rfl rfl) ?_
    refine t_guard rfl rfl ?_
    refine tp rfl (lv_load Tryd.isAgg3 rfl (gives_blk (.head _) rfl)) ?_
    refine t_guard rfl rfl ?_
    refine tp rfl (lv_lss rfl rfl rfl) ?_
    refine tp rfl (lv_pick_t rfl rfl) ?_
    refine tp rfl (lv_assign rfl) ?_
    refine t_done ?_
    refine q_then_n (hK2 _ _ ?_)
    refine c_ret ?_
    refine q_ret rfl rfl ?_
    exact ⟨by first | (unfold valid; simp [*]; done) | (unfold valid; simp [*]; omega), rfl⟩
  · -- no
    refine tp rfl (lv_geq rfl rfl (decide_eq_false h1)) ?_
    refine tp rfl (lv_move rfl) ?_
    refine t_skip rfl rfl rfl ?_
    refine t_skip rfl rfl rfl ?_
    refine t_skip rfl rfl rfl ?_
    refine t_skip rfl rfl rfl ?_
    refine t_skip rfl rfl rfl ?_
    refine t_skip rfl rfl rfl ?_
    refine tp rfl (lv_pick_f rfl rfl) ?_
    refine tp rfl (lv_assign rfl) ?_
    refine t_done ?_
    refine q_then_n (hK2 _ _ ?_)
    refine c_ret ?_
    refine q_ret rfl rfl ?_
    exact ⟨by first | (unfold valid; simp [*]; done) | (unfold valid; simp [*]; omega), rfl⟩

set_option maxHeartbeats 4000000 in
theorem rhas_ok {R : List HP} {p N : Nat} {bl : Option Addr} {cl : Nat} {es : Es} (a b : Int) (okl : SlOk bl es.length) (hE : es.length ≤ 1000) :
    Ok Tryd.prog 28 [(.pointer (some ⟨p, 0, none⟩)), (.int .i64 a), (.int .i64 b)] ((Blk p [(.int .i64 ((N : Nat) : Int)), (.slice bl es.length cl)] 52) :: (SlV 54 2 (.slice bl es.length cl) es.length (pairs es)) :: R)
      (fun v M => v = .bool (hasE es (a, b)) ∧ M = Blk p [.int .i64 ((N : Nat) : Int), .slice bl es.length cl] 52 :: SlV 54 2 (.slice bl es.length cl) es.length (pairs es) :: R) := by
  refine ok_of (N := 39) Tryd.func28 rfl rfl rfl (fun W => ?_)
  refine c_seq (fun K1 hK1 => ?_)
  refine c_region ?_
  refine tp rfl (lv_assign rfl) ?_
  refine t_done ?_
  refine q_then_n (hK1 _ _ ?_)
  refine c_seq (fun K2 hK2 => ?_)
  refine c_seq (fun K3 hK3 => ?_)
  refine c_region ?_
  refine tp rfl (lv_assign rfl) ?_
  refine t_done ?_
  refine q_then_n (hK3 _ _ ?_)
  refine c_block ?_
  refine c_loop (γ := (Nat)) (fun (k : Nat) => k ≤ es.length ∧ (∀ j, j < k → ¬ ((es.getD j (0, 0)).1 = a ∧ (es.getD j (0, 0)).2 = b))) (fun (k : Nat) => [(0, (.pointer (some ⟨p, 0, none⟩))), (1, (.int .i64 a)), (2, (.int .i64 b)), (7, (.int .i64 ((k : Nat) : Int)))]) (fun (k : Nat) => (Blk p [(.int .i64 ((N : Nat) : Int)), (.slice bl es.length cl)] 52) :: (SlV 54 2 (.slice bl es.length cl) es.length (pairs es)) :: R) (fun (k : Nat) => es.length - k) (0) ⟨by omega, fun j hj => by omega⟩ ⟨rfl, rfl, rfl, rfl, trivial⟩ (fun _ h => h) ?_
  rintro k K4 hF hK4
  try dsimp only at hF hK4 ⊢
  obtain ⟨hk, hall⟩ := hF
  refine c_seq (fun K5 hK5 => ?_)
  refine c_seq (fun K6 hK6 => ?_)
  refine c_region ?_
  refine tp rfl (lv_move rfl) ?_
  refine tp rfl (lv_move rfl) ?_
  refine tp rfl (lv_nilCheck rfl) ?_
  refine tp rfl (lv_fieldAddr (o' := 1) Tryd.underlying52 rfl Tryd.sizeOf50 rfl rfl) ?_
  refine tp rfl (lv_load Tryd.isAgg50 rfl (gives_blk (.head _) rfl)) ?_
  refine tp rfl (lv_len Tryd.underlying50 rfl rfl) ?_
  by_cases h1 : ((k : Nat) : Int) < ((es.length : Nat) : Int)
  · -- yes
    refine tp rfl (lv_lss rfl rfl (decide_eq_true h1)) ?_
    refine t_done ?_
    refine q_then_n (hK6 _ _ ?_)
    refine c_true rfl ?_
    refine c_skip ?_
    refine q_then_n (hK5 _ _ ?_)
    refine c_seq (fun K7 hK7 => ?_)
    refine c_block ?_
    refine c_seq (fun K8 hK8 => ?_)
    refine c_region ?_
    by_cases hc2 : (((es).getD k (0, 0)).1) = a ∧ (((es).getD k (0, 0)).2) = b
    · -- both
      have hc2a := hc2.1
      have hc2b := hc2.2
      refine tp rfl (lv_move rfl) ?_
      refine tp rfl (lv_nilCheck rfl) ?_
      refine tp rfl (lv_fieldAddr (o' := 1) Tryd.underlying52 rfl Tryd.sizeOf50 rfl rfl) ?_
      refine tp rfl (lv_load Tryd.isAgg50 rfl (gives_blk (.head _) rfl)) ?_
      refine tp rfl (lv_move rfl) ?_
      refine tp rfl (lv_indexAddr (k' := k * 2) Tryd.underlying50 Tryd.sizeOf54 rfl rfl okl (by omega) (by omega) (by omega)) ?_
      refine tp rfl (lv_fieldAddr_ad (o' := k * 2) Tryd.underlying54 rfl Tryd.sizeOf3 rfl rfl) ?_
      refine tp rfl (lv_load Tryd.isAgg3 rfl (gives_sl (.tail _ (.head _)) (pairs_get0 (by omega)))) ?_
      refine tp rfl (lv_move rfl) ?_
      refine tp rfl (lv_eql rfl rfl (beq_iff_eq.2 hc2.1)) ?_
      refine tp rfl (lv_move rfl) ?_
      refine t_guard rfl rfl ?_
      refine tp rfl (lv_move rfl) ?_
      refine t_guard rfl rfl ?_
      refine tp rfl (lv_nilCheck rfl) ?_
      refine t_guard rfl rfl ?_
      refine tp rfl (lv_fieldAddr (o' := 1) Tryd.underlying52 rfl Tryd.sizeOf50 rfl rfl) ?_
      refine t_guard rfl rfl ?_
      refine tp rfl (lv_load Tryd.isAgg50 rfl (gives_blk (.head _) rfl)) ?_
      refine t_guard rfl rfl ?_
      refine tp rfl (lv_move rfl) ?_
      refine t_guard rfl rfl ?_
      refine tp rfl (lv_indexAddr (k' := k * 2) Tryd.underlying50 Tryd.sizeOf54 rfl rfl okl (by omega) (by omega) (by omega)) ?_
      refine t_guard rfl rfl ?_
      refine tp rfl (lv_fieldAddr_ad (o' := k * 2 + 1) Tryd.underlying54 rfl Tryd.sizeOf3 rfl rfl) ?_
      refine t_guard rfl rfl ?_
      refine tp rfl (lv_load Tryd.isAgg3 rfl (gives_sl (.tail _ (.head _)) (pairs_get1 (by omega)))) ?_
      refine t_guard rfl rfl ?_
      refine tp rfl (lv_move rfl) ?_
      refine t_guard rfl rfl ?_
      refine tp rfl (lv_eql rfl rfl (beq_iff_eq.2 hc2.2)) ?_
      refine tp rfl (lv_pick_t rfl rfl) ?_
      refine t_done ?_
      refine q_then_n (hK8 _ _ ?_)
      refine c_true rfl ?_
      refine c_seq (fun K9 hK9 => ?_)
      refine c_region ?_
      refine tp rfl (lv_assign rfl) ?_
      refine t_done ?_
      refine q_then_n (hK9 _ _ ?_)
      refine c_ret ?_
      refine q_in_r ?_
      refine q_then_r ?_
      refine q_then_r ?_
      refine q_in_r ?_
      refine q_then_r ?_
      refine q_ret rfl rfl ?_
      exact ⟨by rw [hasE_true (k := k) (by omega) (by assumption) (by assumption)], rfl⟩
    · -- not both
      refine t_cut0 (E' := [(0, (.pointer (some ⟨p, 0, none⟩))), (1, (.int .i64 a)), (2, (.int .i64 b)), (7, (.int .i64 ((k : Nat) : Int))), (14, (.bool true)), (38, (.bool false))]) ?_ (fun KK hKK => ?_)
      ·
        refine q_then_n (hK8 _ _ ?_)
        refine c_false rfl ?_
        refine c_skip ?_
        refine q_in_n ?_
        refine q_then_n (hK7 _ _ ?_)
        refine c_region ?_
        refine tp rfl (lv_move rfl) ?_
        refine tp rfl (lv_add (c := ((k + 1 : Nat) : Int)) rfl rfl (wr_i64_succ (by omega))) ?_
        refine tp rfl (lv_assign rfl) ?_
        refine t_done ?_
        refine q_then_n ?_
        exact t_weak (by exact ⟨rfl, rfl, rfl, rfl, trivial⟩) ((hK4 (k + 1) ⟨by omega, allE_succ hall ‹_›⟩ (by omega)))
      · -- which
        by_cases hc2A : (((es).getD k (0, 0)).1) = a
        ·
         have hc2B : ¬ ((((es).getD k (0, 0)).2) = b) := fun hh => hc2 ⟨hc2A, hh⟩
         refine tp rfl (lv_move rfl) ?_
         refine tp rfl (lv_nilCheck rfl) ?_
         refine tp rfl (lv_fieldAddr (o' := 1) Tryd.underlying52 rfl Tryd.sizeOf50 rfl rfl) ?_
         refine tp rfl (lv_load Tryd.isAgg50 rfl (gives_blk (.head _) rfl)) ?_
         refine tp rfl (lv_move rfl) ?_
         refine tp rfl (lv_indexAddr (k' := k * 2) Tryd.underlying50 Tryd.sizeOf54 rfl rfl okl (by omega) (by omega) (by omega)) ?_
         refine tp rfl (lv_fieldAddr_ad (o' := k * 2) Tryd.underlying54 rfl Tryd.sizeOf3 rfl rfl) ?_
         refine tp rfl (lv_load Tryd.isAgg3 rfl (gives_sl (.tail _ (.head _)) (pairs_get0 (by omega)))) ?_
         refine tp rfl (lv_move rfl) ?_
         refine tp rfl (lv_eql rfl rfl (beq_iff_eq.2 hc2A)) ?_
         refine tp rfl (lv_move rfl) ?_
         refine t_guard rfl rfl ?_
         refine tp rfl (lv_move rfl) ?_
         refine t_guard rfl rfl ?_
         refine tp rfl (lv_nilCheck rfl) ?_
         refine t_guard rfl rfl ?_
         refine tp rfl (lv_fieldAddr (o' := 1) Tryd.underlying52 rfl Tryd.sizeOf50 rfl rfl) ?_
         refine t_guard rfl rfl ?_
         refine tp rfl (lv_load Tryd.isAgg50 rfl (gives_blk (.head _) rfl)) ?_
         refine t_guard rfl rfl ?_
         refine tp rfl (lv_move rfl) ?_
         refine t_guard rfl rfl ?_
         refine tp rfl (lv_indexAddr (k' := k * 2) Tryd.underlying50 Tryd.sizeOf54 rfl rfl okl (by omega) (by omega) (by omega)) ?_
         refine t_guard rfl rfl ?_
         refine tp rfl (lv_fieldAddr_ad (o' := k * 2 + 1) Tryd.underlying54 rfl Tryd.sizeOf3 rfl rfl) ?_
         refine t_guard rfl rfl ?_
         refine tp rfl (lv_load Tryd.isAgg3 rfl (gives_sl (.tail _ (.head _)) (pairs_get1 (by omega)))) ?_
         refine t_guard rfl rfl ?_
         refine tp rfl (lv_move rfl) ?_
         refine t_guard rfl rfl ?_
         refine tp rfl (lv_eql rfl rfl (beq_eq_false_iff_ne.2 hc2B)) ?_
         refine tp rfl (lv_pick_t rfl rfl) ?_
         exact t_done (t_weak (by exact ⟨rfl, rfl, rfl, rfl, rfl, rfl, trivial⟩) hKK)
        ·
         refine tp rfl (lv_move rfl) ?_
         refine tp rfl (lv_nilCheck rfl) ?_
         refine tp rfl (lv_fieldAddr (o' := 1) Tryd.underlying52 rfl Tryd.sizeOf50 rfl rfl) ?_
         refine tp rfl (lv_load Tryd.isAgg50 rfl (gives_blk (.head _) rfl)) ?_
         refine tp rfl (lv_move rfl) ?_
         refine tp rfl (lv_indexAddr (k' := k * 2) Tryd.underlying50 Tryd.sizeOf54 rfl rfl okl (by omega) (by omega) (by omega)) ?_
         refine tp rfl (lv_fieldAddr_ad (o' := k * 2) Tryd.underlying54 rfl Tryd.sizeOf3 rfl rfl) ?_
         refine tp rfl (lv_load Tryd.isAgg3 rfl (gives_sl (.tail _ (.head _)) (pairs_get0 (by omega)))) ?_
         refine tp rfl (lv_move rfl) ?_
         refine tp rfl (lv_eql rfl rfl (beq_eq_false_iff_ne.2 hc2A)) ?_
         refine tp rfl (lv_move rfl) ?_
         refine t_skip rfl rfl rfl ?_
         refine t_skip rfl rfl rfl ?_
         refine t_skip rfl rfl rfl ?_
         refine t_skip rfl rfl rfl ?_
         refine t_skip rfl rfl rfl ?_
         refine t_skip rfl rfl rfl ?_
         refine t_skip rfl rfl rfl ?_
         refine t_skip rfl rfl rfl ?_
         refine t_skip rfl rfl rfl ?_
         refine t_skip rfl rfl rfl ?_
         refine tp rfl (lv_pick_f rfl rfl) ?_
         exact t_done (t_weak (by exact ⟨rfl, rfl, rfl, rfl, rfl, rfl, trivial⟩) hKK)
  · -- no
    refine tp rfl (lv_lss rfl rfl (decide_eq_false h1)) ?_
    refine t_done ?_
    refine q_then_n (hK6 _ _ ?_)
    refine c_false rfl ?_
    refine c_exit ?_
    refine q_then_x ?_
    refine q_then_x ?_
    refine q_in_x ?_
    refine q_then_n (hK2 _ _ ?_)
    refine c_seq (fun K7 hK7 => ?_)
    refine c_region ?_
    refine tp rfl (lv_assign rfl) ?_
    refine t_done ?_
    refine q_then_n (hK7 _ _ ?_)
    refine c_ret ?_
    refine q_ret rfl rfl ?_
    exact ⟨by rw [hasE_none (k := k) (by omega) hall], rfl⟩

set_option maxHeartbeats 4000000 in
theorem rout_ok {R : List HP} {p N : Nat} {bl : Option Addr} {cl : Nat} {es : Es} (a : Int) (okl : SlOk bl es.length) (hE : es.length ≤ 1000) :
    Ok Tryd.prog 35 [(.pointer (some ⟨p, 0, none⟩)), (.int .i64 a)] ((Blk p [(.int .i64 ((N : Nat) : Int)), (.slice bl es.length cl)] 52) :: (SlV 54 2 (.slice bl es.length cl) es.length (pairs es)) :: R)
      (OutSl 3 1 (outs es a).length (ints .i64 (outs es a)) (Blk p [.int .i64 ((N : Nat) : Int), .slice bl es.length cl] 52 :: SlV 54 2 (.slice bl es.length cl) es.length (pairs es) :: R)) := by
  refine ok_of (N := 39) Tryd.func35 rfl rfl rfl (fun W => ?_)
  refine c_seq (fun K1 hK1 => ?_)
  refine c_region ?_
  refine tp rfl (lv_assign rfl) ?_
  refine t_done ?_
  refine q_then_n (hK1 _ _ ?_)
  refine c_seq (fun K2 hK2 => ?_)
  refine c_region ?_
  refine tm rfl (mv_buildSlice (cs := []) Tryd.underlying33 Tryd.sizeOf3 Tryd.zeroValue3 (by decide) rfl rfl rfl rfl) ?_
  rintro _ _ ⟨bs1, cp2, hok3, hle4, rfl, rfl⟩
  refine tp rfl (lv_assign rfl) ?_
  refine t_done ?_
  refine q_then_n (hK2 _ _ ?_)
  refine c_seq (fun K3 hK3 => ?_)
  refine c_seq (fun K4 hK4 => ?_)
  refine c_region ?_
  refine tp rfl (lv_assign rfl) ?_
  refine t_done ?_
  refine q_then_n (hK4 _ _ ?_)
  refine c_block ?_
  refine c_loop (γ := (Nat) × (Option Addr) × (Nat)) (fun (k, bw, cw) => k ≤ es.length ∧ SlOk bw (outs (es.take k) a).length ∧ (outs (es.take k) a).length ≤ cw) (fun (k, bw, cw) => [(0, (.pointer (some ⟨p, 0, none⟩))), (1, (.int .i64 a)), (4, (.slice none 0 0)), (5, (.slice bw ((outs (es.take k) a).length) cw)), (6, (.int .i64 ((k : Nat) : Int)))]) (fun (k, bw, cw) => (SlV 3 1 (.slice bw ((outs (es.take k) a).length) cw) ((outs (es.take k) a).length) (ints .i64 (outs (es.take k) a))) :: (Blk p [(.int .i64 ((N : Nat) : Int)), (.slice bl es.length cl)] 52) :: (SlV 54 2 (.slice bl es.length cl) es.length (pairs es)) :: R) (fun (k, bw, cw) => es.length - k) (0, bs1, cp2) ⟨by omega, hok3, hle4⟩ ⟨rfl, rfl, rfl, rfl, rfl, trivial⟩ (fun _ h => h) ?_
  rintro ⟨k, bw, cw⟩ K5 hF hK5
  try dsimp only at hF hK5 ⊢
  obtain ⟨hk, hbw, hwc⟩ := hF
  have hol := outs_le (es.take k) a
  have htl : (es.take k).length ≤ es.length := by rw [List.length_take]; omega
  refine c_seq (fun K6 hK6 => ?_)
  refine c_seq (fun K7 hK7 => ?_)
  refine c_region ?_
  refine tp rfl (lv_move rfl) ?_
  refine tp rfl (lv_move rfl) ?_
  refine tp rfl (lv_nilCheck rfl) ?_
  refine tp rfl (lv_fieldAddr (o' := 1) Tryd.underlying52 rfl Tryd.sizeOf50 rfl rfl) ?_
  refine tp rfl (lv_load Tryd.isAgg50 rfl (gives_blk (.tail _ (.head _)) rfl)) ?_
  refine tp rfl (lv_len Tryd.underlying50 rfl rfl) ?_
  by_cases h5 : ((k : Nat) : Int) < ((es.length : Nat) : Int)
  · -- yes
    refine tp rfl (lv_lss rfl rfl (decide_eq_true h5)) ?_
    refine t_done ?_
    refine q_then_n (hK7 _ _ ?_)
    refine c_true rfl ?_
    refine c_skip ?_
    refine q_then_n (hK6 _ _ ?_)
    refine c_seq (fun K8 hK8 => ?_)
    refine c_block ?_
    refine c_seq (fun K9 hK9 => ?_)
    refine c_region ?_
    refine tp rfl (lv_move rfl) ?_
    refine tp rfl (lv_nilCheck rfl) ?_
    refine tp rfl (lv_fieldAddr (o' := 1) Tryd.underlying52 rfl Tryd.sizeOf50 rfl rfl) ?_
    refine tp rfl (lv_load Tryd.isAgg50 rfl (gives_blk (.tail _ (.head _)) rfl)) ?_
    refine tp rfl (lv_move rfl) ?_
    refine tp rfl (lv_indexAddr (k' := k * 2) Tryd.underlying50 Tryd.sizeOf54 rfl rfl okl (by omega) (by omega) (by omega)) ?_
    refine tp rfl (lv_fieldAddr_ad (o' := k * 2) Tryd.underlying54 rfl Tryd.sizeOf3 rfl rfl) ?_
    refine tp rfl (lv_load Tryd.isAgg3 rfl (gives_sl (.tail _ (.tail _ (.head _))) (pairs_get0 (by omega)))) ?_
    refine tp rfl (lv_move rfl) ?_
    by_cases h6 : (((es).getD k (0, 0)).1) = a
    · -- yes
      refine tp rfl (lv_eql rfl rfl (beq_iff_eq.2 h6)) ?_
      refine t_done ?_
      refine q_then_n (hK9 _ _ ?_)
      refine c_true rfl ?_
      refine c_region ?_
      refine tp rfl (lv_move rfl) ?_
      refine tp rfl (lv_move rfl) ?_
      refine tp rfl (lv_nilCheck rfl) ?_
      refine tp rfl (lv_fieldAddr (o' := 1) Tryd.underlying52 rfl Tryd.sizeOf50 rfl rfl) ?_
      refine tp rfl (lv_load Tryd.isAgg50 rfl (gives_blk (.tail _ (.head _)) rfl)) ?_
      refine tp rfl (lv_move rfl) ?_
      refine tp rfl (lv_indexAddr (k' := k * 2) Tryd.underlying50 Tryd.sizeOf54 rfl rfl okl (by omega) (by omega) (by omega)) ?_
      refine tp rfl (lv_fieldAddr_ad (o' := k * 2 + 1) Tryd.underlying54 rfl Tryd.sizeOf3 rfl rfl) ?_
      refine tp rfl (lv_load Tryd.isAgg3 rfl (gives_sl (.tail _ (.tail _ (.head _))) (pairs_get1 (by omega)))) ?_
      refine tm rfl (mv_buildSlice (cs := [(.int .i64 (((es).getD k (0, 0)).2))]) Tryd.underlying33 Tryd.sizeOf3 Tryd.zeroValue3 (by decide) rfl rfl rfl rfl) ?_
      rintro _ _ ⟨bs7, cp8, hok9, hle10, rfl, rfl⟩
      refine t_f1 ?_
      refine tm rfl (mv_append (i := Tryd.t3) Tryd.underlying33 Tryd.type3 rfl rfl rfl (by decide) rfl rfl hok9 (by first | (simp; done) | (simp; omega)) (rd_sl (.tail _ (.head _))) (by simp [Value.oneCell']) (by rw [show Tryd.t3.bytes = 8 from rfl]; omega)) ?_
      rintro _ _ ⟨bs11, cp12, hok13, hle14, rfl, rfl⟩
      rw [show ints .i64 (outs (es.take k) a) ++ [(.int .i64 (((es).getD k (0, 0)).2))] = ints .i64 ((outs (es.take k) a) ++ [((es).getD k (0, 0)).2]) from ints_snoc _ _ _]
      refine tp rfl (lv_assign rfl) ?_
      refine t_done ?_
      refine q_in_n ?_
      refine q_then_n (hK8 _ _ ?_)
      refine c_region ?_
      refine tp rfl (lv_move rfl) ?_
      refine tp rfl (lv_add (c := ((k + 1 : Nat) : Int)) rfl rfl (wr_i64_succ (by omega))) ?_
      refine tp rfl (lv_assign rfl) ?_
      refine t_done ?_
      refine q_then_n ?_
      refine t_f1 ?_
      refine t_drop ?_
      have hww := outs_take_yes (es := es) (a := a) (k := k) (by omega) (by assumption)
      have hwl : (outs (es.take k) a).length + 1 = (outs (es.take (k + 1)) a).length := by rw [hww]; simp
      rw [← hww, hwl]
      rw [hwl] at hok13 hle14
      exact t_weak (by exact ⟨rfl, rfl, rfl, rfl, rfl, trivial⟩) ((hK5 (k + 1, bs11, cp12) ⟨by omega, hok13, hle14⟩ (by dsimp only; omega)))
    · -- no
      refine tp rfl (lv_eql rfl rfl (beq_eq_false_iff_ne.2 h6)) ?_
      refine t_done ?_
      refine q_then_n (hK9 _ _ ?_)
      refine c_false rfl ?_
      refine c_skip ?_
      refine q_in_n ?_
      refine q_then_n (hK8 _ _ ?_)
      refine c_region ?_
      refine tp rfl (lv_move rfl) ?_
      refine tp rfl (lv_add (c := ((k + 1 : Nat) : Int)) rfl rfl (wr_i64_succ (by omega))) ?_
      refine tp rfl (lv_assign rfl) ?_
      refine t_done ?_
      refine q_then_n ?_
      rw [show outs (es.take k) a = outs (es.take (k + 1)) a from (outs_take_no (by omega) (by assumption)).symm] at hbw hwc ⊢
      exact t_weak (by exact ⟨rfl, rfl, rfl, rfl, rfl, trivial⟩) ((hK5 (k + 1, bw, cw) ⟨by omega, hbw, hwc⟩ (by dsimp only; omega)))
  · -- no
    refine tp rfl (lv_lss rfl rfl (decide_eq_false h5)) ?_
    refine t_done ?_
    refine q_then_n (hK7 _ _ ?_)
    refine c_false rfl ?_
    refine c_exit ?_
    refine q_then_x ?_
    refine q_then_x ?_
    refine q_in_x ?_
    refine q_then_n (hK3 _ _ ?_)
    refine c_seq (fun K8 hK8 => ?_)
    refine c_region ?_
    refine tp rfl (lv_move rfl) ?_
    refine tp rfl (lv_assign rfl) ?_
    refine t_done ?_
    refine q_then_n (hK8 _ _ ?_)
    refine c_ret ?_
    refine q_ret rfl rfl ?_
    rw [show es.take k = es from List.take_of_length_le (by omega)] at hbw hwc ⊢
    exact ⟨bw, cw, hbw, hwc, rfl, rfl⟩

theorem getD_mem {es : Es} {k : Nat} (h : k < es.length) : es.getD k (0, 0) ∈ es := by simp [List.getD, h]

set_option maxHeartbeats 4000000 in
theorem rreach_ok {R : List HP} {p N : Nat} {bl : Option Addr} {cl : Nat} {es : Es} (a : Int) (okl : SlOk bl es.length) (hE : es.length ≤ 1000) (hg : GOk N es) :
    Ok Tryd.prog 45 [(.pointer (some ⟨p, 0, none⟩)), (.int .i64 a)] ((Blk p [(.int .i64 ((N : Nat) : Int)), (.slice bl es.length cl)] 52) :: (SlV 54 2 (.slice bl es.length cl) es.length (pairs es)) :: R)
      (OutSl 3 1 (reachL N es a).length (ints .i64 (reachL N es a)) (Blk p [.int .i64 ((N : Nat) : Int), .slice bl es.length cl] 52 :: SlV 54 2 (.slice bl es.length cl) es.length (pairs es) :: R)) := by
  have hsm := hg.small
  refine ok_of (N := 81) Tryd.func45 rfl rfl rfl (fun W => ?_)
  refine c_seq (fun K1 hK1 => ?_)
  refine c_region ?_
  refine tp rfl (lv_assign rfl) ?_
  refine t_done ?_
  refine q_then_n (hK1 _ _ ?_)
  refine c_seq (fun K2 hK2 => ?_)
  refine c_region ?_
  refine tm rfl (mv_buildSlice (cs := []) Tryd.underlying33 Tryd.sizeOf3 Tryd.zeroValue3 (by decide) rfl rfl rfl rfl) ?_
  rintro _ _ ⟨bs1, cp2, hok3, hle4, rfl, rfl⟩
  refine tp rfl (lv_assign rfl) ?_
  refine t_done ?_
  refine q_then_n (hK2 _ _ ?_)
  refine c_seq (fun K3 hK3 => ?_)
  refine c_region ?_
  refine tp rfl (lv_move rfl) ?_
  refine tp rfl (lv_move rfl) ?_
  refine t_f2 ?_
  refine t_f2 ?_
  refine tc rfl (en_fn Tryd.call27 rfl) (rthere_ok (N := N) a) ?_
  rintro _ _ ⟨rfl, rfl⟩
  refine tp rfl (lv_assign rfl) ?_
  refine t_done ?_
  refine q_then_n (hK3 _ _ ?_)
  refine c_seq (fun K4 hK4 => ?_)
  refine c_seq (fun K5 hK5 => ?_)
  refine c_region ?_
  refine tp rfl (lv_move rfl) ?_
  refine tp rfl (lv_not (c := !(valid N a)) rfl rfl) ?_
  refine t_done ?_
  refine q_then_n (hK5 _ _ ?_)
  refine c_split rfl (fun c5 => ?_) (fun c5 => ?_)
  · -- true
    refine c_seq (fun K6 hK6 => ?_)
    refine c_region ?_
    refine tp rfl (lv_move rfl) ?_
    refine tp rfl (lv_assign rfl) ?_
    refine t_done ?_
    refine q_then_n (hK6 _ _ ?_)
    refine c_ret ?_
    refine q_then_r ?_
    refine t_f1 ?_
    refine t_f1 ?_
    refine t_f2 ?_
    refine q_ret rfl rfl ?_
    rw [show reachL N es a = [] from reachL_bad (by rw [← valid_iff]; have := c5; simpa using this)]
    exact ⟨_, _, hok3, hle4, rfl, rfl⟩
  · -- false
    refine c_skip ?_
    refine q_then_n (hK4 _ _ ?_)
    refine c_seq (fun K6 hK6 => ?_)
    refine c_region ?_
    have hva : 0 ≤ a ∧ a < N := valid_iff.1 (by simpa using c5)
    refine tp rfl (lv_move rfl) ?_
    refine tp rfl (lv_nilCheck rfl) ?_
    refine tp rfl (lv_fieldAddr (o' := 0) Tryd.underlying52 rfl Tryd.sizeOf3 rfl rfl) ?_
    refine tp rfl (lv_load Tryd.isAgg3 rfl (gives_blk (.head _) rfl)) ?_
    refine tm rfl (mv_makeSlice (i := Tryd.t4) Tryd.underlying55 Tryd.type4 rfl rfl rfl rfl rfl (by omega) (by rw [show Tryd.t4.bytes = 1 from rfl]; omega) (by omega)) ?_
    rintro _ _ ⟨bs6, cp7, hok8, hle9, rfl, rfl⟩
    rw [bools_rep]
    refine tp rfl (lv_assign rfl) ?_
    refine t_done ?_
    refine q_then_n (hK6 _ _ ?_)
    refine c_seq (fun K7 hK7 => ?_)
    refine c_region ?_
    refine tp rfl (lv_move rfl) ?_
    refine tp rfl (lv_move rfl) ?_
    refine tp rfl (lv_indexAddr (k' := a.toNat) Tryd.underlying55 Tryd.sizeOf4 rfl rfl hok8 (by omega) (by omega) (by omega)) ?_
    refine ts (sv_sl Tryd.sizeOf4 rfl rfl rfl (by simp only [bools_length, List.length_replicate, passS_length, iterS_length, startS_length]; omega) bools_set) ?_
    refine t_done ?_
    refine q_then_n (hK7 _ _ ?_)
    refine c_seq (fun K8 hK8 => ?_)
    refine c_seq (fun K9 hK9 => ?_)
    refine c_region ?_
    refine tp rfl (lv_assign rfl) ?_
    refine t_done ?_
    refine q_then_n (hK9 _ _ ?_)
    refine c_block ?_
    refine c_loop (γ := (Nat)) (fun (r : Nat) => r ≤ N) (fun (r : Nat) => [(0, (.pointer (some ⟨p, 0, none⟩))), (1, (.int .i64 a)), (4, (.slice none 0 0)), (5, (.slice bs1 0 cp2)), (6, (.bool (valid N a))), (7, (.slice bs6 N cp7)), (8, (.int .i64 ((r : Nat) : Int))), (16, (.bool (!(valid N a))))]) (fun (r : Nat) => (SlV 4 1 (.slice bs6 N cp7) N (bools (iterS es (startS N a) r))) :: (Blk p [(.int .i64 ((N : Nat) : Int)), (.slice bl es.length cl)] 52) :: (SlV 54 2 (.slice bl es.length cl) es.length (pairs es)) :: (SlV 3 1 (.slice bs1 0 cp2) 0 []) :: R) (fun (r : Nat) => N - r) (0) (by omega) ⟨rfl, rfl, rfl, rfl, rfl, rfl, rfl, rfl, trivial⟩ (fun _ h => h) ?_
    rintro r K10 hF hK10
    try dsimp only at hF hK10 ⊢
    refine c_seq (fun K11 hK11 => ?_)
    refine c_seq (fun K12 hK12 => ?_)
    refine c_region ?_
    refine tp rfl (lv_move rfl) ?_
    refine tp rfl (lv_move rfl) ?_
    refine tp rfl (lv_nilCheck rfl) ?_
    refine tp rfl (lv_fieldAddr (o' := 0) Tryd.underlying52 rfl Tryd.sizeOf3 rfl rfl) ?_
    refine tp rfl (lv_load Tryd.isAgg3 rfl (gives_blk (.tail _ (.head _)) rfl)) ?_
    by_cases h10 : ((r : Nat) : Int) < ((N : Nat) : Int)
    · -- yes
      refine tp rfl (lv_lss rfl rfl (decide_eq_true h10)) ?_
      refine t_done ?_
      refine q_then_n (hK12 _ _ ?_)
      refine c_true rfl ?_
      refine c_skip ?_
      refine q_then_n (hK11 _ _ ?_)
      refine c_seq (fun K13 hK13 => ?_)
      refine c_block ?_
      refine c_seq (fun K14 hK14 => ?_)
      refine c_region ?_
      refine tp rfl (lv_assign rfl) ?_
      refine t_done ?_
      refine q_then_n (hK14 _ _ ?_)
      refine c_block ?_
      refine c_loop (γ := (Nat)) (fun (i : Nat) => i ≤ es.length) (fun (i : Nat) => [(0, (.pointer (some ⟨p, 0, none⟩))), (1, (.int .i64 a)), (4, (.slice none 0 0)), (5, (.slice bs1 0 cp2)), (6, (.bool (valid N a))), (7, (.slice bs6 N cp7)), (8, (.int .i64 ((r : Nat) : Int))), (9, (.int .i64 ((i : Nat) : Int))), (16, (.bool (!(valid N a)))), (31, (.bool true))]) (fun (i : Nat) => (SlV 4 1 (.slice bs6 N cp7) N (bools (passS (es.take i) (iterS es (startS N a) r)))) :: (Blk p [(.int .i64 ((N : Nat) : Int)), (.slice bl es.length cl)] 52) :: (SlV 54 2 (.slice bl es.length cl) es.length (pairs es)) :: (SlV 3 1 (.slice bs1 0 cp2) 0 []) :: R) (fun (i : Nat) => es.length - i) (0) (by omega) ⟨rfl, rfl, rfl, rfl, rfl, rfl, rfl, rfl, rfl, rfl, trivial⟩ (fun _ h => h) ?_
      rintro i K15 hF hK15
      try dsimp only at hF hK15 ⊢
      refine c_seq (fun K16 hK16 => ?_)
      refine c_seq (fun K17 hK17 => ?_)
      refine c_region ?_
      refine tp rfl (lv_move rfl) ?_
      refine tp rfl (lv_move rfl) ?_
      refine tp rfl (lv_nilCheck rfl) ?_
      refine tp rfl (lv_fieldAddr (o' := 1) Tryd.underlying52 rfl Tryd.sizeOf50 rfl rfl) ?_
      refine tp rfl (lv_load Tryd.isAgg50 rfl (gives_blk (.tail _ (.head _)) rfl)) ?_
      refine tp rfl (lv_len Tryd.underlying50 rfl rfl) ?_
      by_cases h11 : ((i : Nat) : Int) < ((es.length : Nat) : Int)
      · -- yes
        refine tp rfl (lv_lss rfl rfl (decide_eq_true h11)) ?_
        refine t_done ?_
        refine q_then_n (hK17 _ _ ?_)
        refine c_true rfl ?_
        refine c_skip ?_
        refine q_then_n (hK16 _ _ ?_)
        refine c_seq (fun K18 hK18 => ?_)
        refine c_block ?_
        refine c_seq (fun K19 hK19 => ?_)
        refine c_region ?_
        have hin := hg.inn _ (getD_mem (es := es) (k := i) (by omega))
        refine tp rfl (lv_move rfl) ?_
        refine tp rfl (lv_move rfl) ?_
        refine tp rfl (lv_nilCheck rfl) ?_
        refine tp rfl (lv_fieldAddr (o' := 1) Tryd.underlying52 rfl Tryd.sizeOf50 rfl rfl) ?_
        refine tp rfl (lv_load Tryd.isAgg50 rfl (gives_blk (.tail _ (.head _)) rfl)) ?_
        refine tp rfl (lv_move rfl) ?_
        refine tp rfl (lv_indexAddr (k' := i * 2) Tryd.underlying50 Tryd.sizeOf54 rfl rfl okl (by omega) (by omega) (by omega)) ?_
        refine tp rfl (lv_fieldAddr_ad (o' := i * 2) Tryd.underlying54 rfl Tryd.sizeOf3 rfl rfl) ?_
        refine tp rfl (lv_load Tryd.isAgg3 rfl (gives_sl (.tail _ (.tail _ (.head _))) (pairs_get0 (by omega)))) ?_
        refine tp rfl (lv_indexAddr (k' := (((es).getD i (0, 0)).1).toNat) Tryd.underlying55 Tryd.sizeOf4 rfl rfl hok8 (by omega) (by omega) (by omega)) ?_
        refine tp rfl (lv_load Tryd.isAgg4 rfl (gives_sl (.head _) (bools_get (by simp only [bools_length, List.length_replicate, passS_length, iterS_length, startS_length]; omega)))) ?_
        refine t_done ?_
        refine q_then_n (hK19 _ _ ?_)
        refine c_split rfl (fun c12 => ?_) (fun c12 => ?_)
        · -- true
         refine c_region ?_
         refine tp rfl (lv_move rfl) ?_
         refine tp rfl (lv_move rfl) ?_
         refine tp rfl (lv_nilCheck rfl) ?_
         refine tp rfl (lv_fieldAddr (o' := 1) Tryd.underlying52 rfl Tryd.sizeOf50 rfl rfl) ?_
         refine tp rfl (lv_load Tryd.isAgg50 rfl (gives_blk (.tail _ (.head _)) rfl)) ?_
         refine tp rfl (lv_move rfl) ?_
         refine tp rfl (lv_indexAddr (k' := i * 2) Tryd.underlying50 Tryd.sizeOf54 rfl rfl okl (by omega) (by omega) (by omega)) ?_
         refine tp rfl (lv_fieldAddr_ad (o' := i * 2 + 1) Tryd.underlying54 rfl Tryd.sizeOf3 rfl rfl) ?_
         refine tp rfl (lv_load Tryd.isAgg3 rfl (gives_sl (.tail _ (.tail _ (.head _))) (pairs_get1 (by omega)))) ?_
         refine tp rfl (lv_indexAddr (k' := (((es).getD i (0, 0)).2).toNat) Tryd.underlying55 Tryd.sizeOf4 rfl rfl hok8 (by omega) (by omega) (by omega)) ?_
         refine ts (sv_sl Tryd.sizeOf4 rfl rfl rfl (by simp only [bools_length, List.length_replicate, passS_length, iterS_length, startS_length]; omega) bools_set) ?_
         refine t_done ?_
         refine q_in_n ?_
         refine q_then_n (hK18 _ _ ?_)
         refine c_region ?_
         refine tp rfl (lv_move rfl) ?_
         refine tp rfl (lv_add (c := ((i + 1 : Nat) : Int)) rfl rfl (wr_i64_succ (by omega))) ?_
         refine tp rfl (lv_assign rfl) ?_
         refine t_done ?_
         refine q_then_n ?_
         rw [show (passS (es.take i) (iterS es (startS N a) r)).set ((es).getD i (0, 0)).2.toNat true = passS (es.take (i + 1)) (iterS es (startS N a) r) from passS_yes (by omega) c12]
         exact t_weak (by exact ⟨rfl, rfl, rfl, rfl, rfl, rfl, rfl, rfl, rfl, rfl, trivial⟩) ((hK15 (i + 1) (by omega) (by omega)))
        · -- false
         refine c_skip ?_
         refine q_in_n ?_
         refine q_then_n (hK18 _ _ ?_)
         refine c_region ?_
         refine tp rfl (lv_move rfl) ?_
         refine tp rfl (lv_add (c := ((i + 1 : Nat) : Int)) rfl rfl (wr_i64_succ (by omega))) ?_
         refine tp rfl (lv_assign rfl) ?_
         refine t_done ?_
         refine q_then_n ?_
         rw [show passS (es.take i) (iterS es (startS N a) r) = passS (es.take (i + 1)) (iterS es (startS N a) r) from passS_no (by omega) c12]
         exact t_weak (by exact ⟨rfl, rfl, rfl, rfl, rfl, rfl, rfl, rfl, rfl, rfl, trivial⟩) ((hK15 (i + 1) (by omega) (by omega)))
      · -- no
        refine tp rfl (lv_lss rfl rfl (decide_eq_false h11)) ?_
        refine t_done ?_
        refine q_then_n (hK17 _ _ ?_)
        refine c_false rfl ?_
        refine c_exit ?_
        refine q_then_x ?_
        refine q_then_x ?_
        refine q_in_x ?_
        refine q_in_n ?_
        refine q_then_n (hK13 _ _ ?_)
        refine c_region ?_
        refine tp rfl (lv_move rfl) ?_
        refine tp rfl (lv_add (c := ((r + 1 : Nat) : Int)) rfl rfl (wr_i64_succ (by omega))) ?_
        refine tp rfl (lv_assign rfl) ?_
        refine t_done ?_
        refine q_then_n ?_
        rw [show passS (es.take i) (iterS es (startS N a) r) = iterS es (startS N a) (r + 1) from passS_all (by omega)]
        exact t_weak (by exact ⟨rfl, rfl, rfl, rfl, rfl, rfl, rfl, rfl, trivial⟩) ((hK10 (r + 1) (by omega) (by omega)))
    · -- no
      refine tp rfl (lv_lss rfl rfl (decide_eq_false h10)) ?_
      refine t_done ?_
      refine q_then_n (hK12 _ _ ?_)
      refine c_false rfl ?_
      refine c_exit ?_
      refine q_then_x ?_
      refine q_then_x ?_
      refine q_in_x ?_
      refine q_then_n (hK8 _ _ ?_)
      refine c_seq (fun K13 hK13 => ?_)
      refine c_seq (fun K14 hK14 => ?_)
      refine c_region ?_
      rw [show iterS es (startS N a) r = iterS es (startS N a) N from by rw [show r = N by omega]]
      refine tp rfl (lv_assign rfl) ?_
      refine t_done ?_
      refine q_then_n (hK14 _ _ ?_)
      refine c_block ?_
      refine c_loop (γ := (Nat) × (Option Addr) × (Nat)) (fun (x, bw, cw) => x ≤ N ∧ SlOk bw (outR (iterS es (startS N a) N) x).length ∧ (outR (iterS es (startS N a) N) x).length ≤ cw) (fun (x, bw, cw) => [(0, (.pointer (some ⟨p, 0, none⟩))), (1, (.int .i64 a)), (4, (.slice none 0 0)), (5, (.slice bw ((outR (iterS es (startS N a) N) x).length) cw)), (6, (.bool (valid N a))), (7, (.slice bs6 N cp7)), (8, (.int .i64 ((r : Nat) : Int))), (10, (.int .i64 ((x : Nat) : Int))), (16, (.bool (!(valid N a)))), (31, (.bool false))]) (fun (x, bw, cw) => (SlV 4 1 (.slice bs6 N cp7) N (bools (iterS es (startS N a) N))) :: (Blk p [(.int .i64 ((N : Nat) : Int)), (.slice bl es.length cl)] 52) :: (SlV 54 2 (.slice bl es.length cl) es.length (pairs es)) :: (SlV 3 1 (.slice bw ((outR (iterS es (startS N a) N) x).length) cw) ((outR (iterS es (startS N a) N) x).length) (ints .i64 (outR (iterS es (startS N a) N) x))) :: R) (fun (x, bw, cw) => N - x) (0, bs1, cp2) ⟨by omega, hok3, hle4⟩ ⟨rfl, rfl, rfl, rfl, rfl, rfl, rfl, rfl, rfl, rfl, trivial⟩ (fun _ h => h) ?_
      rintro ⟨x, bw, cw⟩ K15 hF hK15
      try dsimp only at hF hK15 ⊢
      obtain ⟨hx, hbw, hwc⟩ := hF
      have hol := outR_le (iterS es (startS N a) N) x
      refine c_seq (fun K16 hK16 => ?_)
      refine c_seq (fun K17 hK17 => ?_)
      refine c_region ?_
      refine tp rfl (lv_move rfl) ?_
      refine tp rfl (lv_move rfl) ?_
      refine tp rfl (lv_nilCheck rfl) ?_
      refine tp rfl (lv_fieldAddr (o' := 0) Tryd.underlying52 rfl Tryd.sizeOf3 rfl rfl) ?_
      refine tp rfl (lv_load Tryd.isAgg3 rfl (gives_blk (.tail _ (.head _)) rfl)) ?_
      by_cases h13 : ((x : Nat) : Int) < ((N : Nat) : Int)
      · -- yes
        refine tp rfl (lv_lss rfl rfl (decide_eq_true h13)) ?_
        refine t_done ?_
        refine q_then_n (hK17 _ _ ?_)
        refine c_true rfl ?_
        refine c_skip ?_
        refine q_then_n (hK16 _ _ ?_)
        refine c_seq (fun K18 hK18 => ?_)
        refine c_block ?_
        refine c_seq (fun K19 hK19 => ?_)
        refine c_region ?_
        refine tp rfl (lv_move rfl) ?_
        refine tp rfl (lv_move rfl) ?_
        refine tp rfl (lv_indexAddr (k' := x) Tryd.underlying55 Tryd.sizeOf4 rfl rfl hok8 (by omega) (by omega) (by omega)) ?_
        refine tp rfl (lv_load Tryd.isAgg4 rfl (gives_sl (.head _) (bools_get (by simp only [bools_length, List.length_replicate, passS_length, iterS_length, startS_length]; omega)))) ?_
        refine t_done ?_
        refine q_then_n (hK19 _ _ ?_)
        refine c_split rfl (fun c14 => ?_) (fun c14 => ?_)
        · -- true
         refine c_region ?_
         refine tp rfl (lv_move rfl) ?_
         refine tp rfl (lv_move rfl) ?_
         refine tm rfl (mv_buildSlice (cs := [(.int .i64 ((x : Nat) : Int))]) Tryd.underlying33 Tryd.sizeOf3 Tryd.zeroValue3 (by decide) rfl rfl rfl rfl) ?_
         rintro _ _ ⟨bs15, cp16, hok17, hle18, rfl, rfl⟩
         refine t_f4 ?_
         refine tm rfl (mv_append (i := Tryd.t3) Tryd.underlying33 Tryd.type3 rfl rfl rfl (by decide) rfl rfl hok17 (by first | (simp; done) | (simp; omega)) (rd_sl (.tail _ (.head _))) (by simp [Value.oneCell']) (by rw [show Tryd.t3.bytes = 8 from rfl]; omega)) ?_
         rintro _ _ ⟨bs19, cp20, hok21, hle22, rfl, rfl⟩
         rw [show ints .i64 (outR (iterS es (startS N a) N) x) ++ [(.int .i64 ((x : Nat) : Int))] = ints .i64 ((outR (iterS es (startS N a) N) x) ++ [((x : Nat) : Int)]) from ints_snoc _ _ _]
         refine tp rfl (lv_assign rfl) ?_
         refine t_done ?_
         refine q_in_n ?_
         refine q_then_n (hK18 _ _ ?_)
         refine c_region ?_
         refine tp rfl (lv_move rfl) ?_
         refine tp rfl (lv_add (c := ((x + 1 : Nat) : Int)) rfl rfl (wr_i64_succ (by omega))) ?_
         refine tp rfl (lv_assign rfl) ?_
         refine t_done ?_
         refine q_then_n ?_
         refine t_f1 ?_
         refine t_drop ?_
         refine t_f3 ?_
         refine t_f3 ?_
         refine t_f3 ?_
         have hww := outR_yes c14
         have hwl : (outR (iterS es (startS N a) N) x).length + 1 = (outR (iterS es (startS N a) N) (x + 1)).length := by rw [hww]; simp
         rw [← hww, hwl]
         rw [hwl] at hok21 hle22
         exact t_weak (by exact ⟨rfl, rfl, rfl, rfl, rfl, rfl, rfl, rfl, rfl, rfl, trivial⟩) ((hK15 (x + 1, bs19, cp20) ⟨by omega, hok21, hle22⟩ (by dsimp only; omega)))
        · -- false
         refine c_skip ?_
         refine q_in_n ?_
         refine q_then_n (hK18 _ _ ?_)
         refine c_region ?_
         refine tp rfl (lv_move rfl) ?_
         refine tp rfl (lv_add (c := ((x + 1 : Nat) : Int)) rfl rfl (wr_i64_succ (by omega))) ?_
         refine tp rfl (lv_assign rfl) ?_
         refine t_done ?_
         refine q_then_n ?_
         rw [show outR (iterS es (startS N a) N) x = outR (iterS es (startS N a) N) (x + 1) from (outR_no c14).symm] at hbw hwc ⊢
         exact t_weak (by exact ⟨rfl, rfl, rfl, rfl, rfl, rfl, rfl, rfl, rfl, rfl, trivial⟩) ((hK15 (x + 1, bw, cw) ⟨by omega, hbw, hwc⟩ (by dsimp only; omega)))
      · -- no
        refine tp rfl (lv_lss rfl rfl (decide_eq_false h13)) ?_
        refine t_done ?_
        refine q_then_n (hK17 _ _ ?_)
        refine c_false rfl ?_
        refine c_exit ?_
        refine q_then_x ?_
        refine q_then_x ?_
        refine q_in_x ?_
        refine q_then_n (hK13 _ _ ?_)
        refine c_seq (fun K18 hK18 => ?_)
        refine c_region ?_
        refine tp rfl (lv_move rfl) ?_
        refine tp rfl (lv_assign rfl) ?_
        refine t_done ?_
        refine q_then_n (hK18 _ _ ?_)
        refine c_ret ?_
        refine t_drop ?_
        refine t_f1 ?_
        refine t_f1 ?_
        refine t_f2 ?_
        refine q_ret rfl rfl ?_
        have hx' : x = N := by omega
        subst hx'
        rw [← outR_reach hg hva]
        exact ⟨bw, cw, hbw, hwc, rfl, rfl⟩

set_option maxHeartbeats 4000000 in
theorem rreaches_ok {R : List HP} {p N : Nat} {bl : Option Addr} {cl : Nat} {es : Es} (a b : Int) (okl : SlOk bl es.length) (hE : es.length ≤ 1000) (hg : GOk N es) :
    Ok Tryd.prog 38 [(.pointer (some ⟨p, 0, none⟩)), (.int .i64 a), (.int .i64 b)] ((Blk p [(.int .i64 ((N : Nat) : Int)), (.slice bl es.length cl)] 52) :: (SlV 54 2 (.slice bl es.length cl) es.length (pairs es)) :: R)
      (fun v M => v = .bool (reachB N es a b) ∧ M = Blk p [.int .i64 ((N : Nat) : Int), .slice bl es.length cl] 52 :: SlV 54 2 (.slice bl es.length cl) es.length (pairs es) :: R) := by
  have hsm := hg.small
  have hrl := reachL_le N es a
  refine ok_of (N := 24) Tryd.func38 rfl rfl rfl (fun W => ?_)
  refine c_seq (fun K1 hK1 => ?_)
  refine c_region ?_
  refine tp rfl (lv_assign rfl) ?_
  refine t_done ?_
  refine q_then_n (hK1 _ _ ?_)
  refine c_seq (fun K2 hK2 => ?_)
  refine c_region ?_
  refine tp rfl (lv_move rfl) ?_
  refine tp rfl (lv_move rfl) ?_
  refine t_f1 ?_
  refine t_f1 ?_
  refine tc rfl (en_fn Tryd.call45 rfl) (rreach_ok (N := N) (es := es) a okl hE hg) ?_
  rintro _ _ ⟨bs1, cp2, hok3, hle4, rfl, rfl⟩
  refine tp rfl (lv_assign rfl) ?_
  refine t_done ?_
  refine q_then_n (hK2 _ _ ?_)
  refine c_seq (fun K3 hK3 => ?_)
  refine c_seq (fun K4 hK4 => ?_)
  refine c_region ?_
  refine tp rfl (lv_assign rfl) ?_
  refine t_done ?_
  refine q_then_n (hK4 _ _ ?_)
  refine c_block ?_
  refine c_loop (γ := (Nat)) (fun (k : Nat) => k ≤ (reachL N es a).length ∧ (∀ j, j < k → ¬ (reachL N es a).getD j 0 = b)) (fun (k : Nat) => [(0, (.pointer (some ⟨p, 0, none⟩))), (1, (.int .i64 a)), (2, (.int .i64 b)), (7, (.slice bs1 ((reachL N es a).length) cp2)), (8, (.int .i64 ((k : Nat) : Int)))]) (fun (k : Nat) => (SlV 3 1 (.slice bs1 ((reachL N es a).length) cp2) ((reachL N es a).length) (ints .i64 (reachL N es a))) :: (Blk p [(.int .i64 ((N : Nat) : Int)), (.slice bl es.length cl)] 52) :: (SlV 54 2 (.slice bl es.length cl) es.length (pairs es)) :: R) (fun (k : Nat) => (reachL N es a).length - k) (0) ⟨by omega, fun j hj => by omega⟩ ⟨rfl, rfl, rfl, rfl, rfl, trivial⟩ (fun _ h => h) ?_
  rintro k K5 hF hK5
  try dsimp only at hF hK5 ⊢
  obtain ⟨hk, hall⟩ := hF
  refine c_seq (fun K6 hK6 => ?_)
  refine c_seq (fun K7 hK7 => ?_)
  refine c_region ?_
  refine tp rfl (lv_move rfl) ?_
  refine tp rfl (lv_move rfl) ?_
  refine tp rfl (lv_len Tryd.underlying33 rfl rfl) ?_
  by_cases h5 : ((k : Nat) : Int) < (((reachL N es a).length : Nat) : Int)
  · -- yes
    refine tp rfl (lv_lss rfl rfl (decide_eq_true h5)) ?_
    refine t_done ?_
    refine q_then_n (hK7 _ _ ?_)
    refine c_true rfl ?_
    refine c_skip ?_
    refine q_then_n (hK6 _ _ ?_)
    refine c_seq (fun K8 hK8 => ?_)
    refine c_block ?_
    refine c_seq (fun K9 hK9 => ?_)
    refine c_region ?_
    refine tp rfl (lv_move rfl) ?_
    refine tp rfl (lv_move rfl) ?_
    refine tp rfl (lv_indexAddr (k' := k) Tryd.underlying33 Tryd.sizeOf3 rfl rfl hok3 (by omega) (by omega) (by omega)) ?_
    refine tp rfl (lv_load Tryd.isAgg3 rfl (gives_sl (.head _) (ints_get (by omega)))) ?_
    refine tp rfl (lv_move rfl) ?_
    by_cases h6 : ((reachL N es a).getD k 0) = b
    · -- yes
      refine tp rfl (lv_eql rfl rfl (beq_iff_eq.2 h6)) ?_
      refine t_done ?_
      refine q_then_n (hK9 _ _ ?_)
      refine c_true rfl ?_
      refine c_seq (fun K10 hK10 => ?_)
      refine c_region ?_
      refine tp rfl (lv_assign rfl) ?_
      refine t_done ?_
      refine q_then_n (hK10 _ _ ?_)
      refine c_ret ?_
      refine q_in_r ?_
      refine q_then_r ?_
      refine q_then_r ?_
      refine q_in_r ?_
      refine q_then_r ?_
      refine t_drop ?_
      refine q_ret rfl rfl ?_
      exact ⟨by rw [reachB_mem_t (k := k) (by omega) (by assumption)], rfl⟩
    · -- no
      refine tp rfl (lv_eql rfl rfl (beq_eq_false_iff_ne.2 h6)) ?_
      refine t_done ?_
      refine q_then_n (hK9 _ _ ?_)
      refine c_false rfl ?_
      refine c_skip ?_
      refine q_in_n ?_
      refine q_then_n (hK8 _ _ ?_)
      refine c_region ?_
      refine tp rfl (lv_move rfl) ?_
      refine tp rfl (lv_add (c := ((k + 1 : Nat) : Int)) rfl rfl (wr_i64_succ (by omega))) ?_
      refine tp rfl (lv_assign rfl) ?_
      refine t_done ?_
      refine q_then_n ?_
      exact t_weak (by exact ⟨rfl, rfl, rfl, rfl, rfl, trivial⟩) ((hK5 (k + 1) ⟨by omega, allN_succ hall ‹_›⟩ (by omega)))
  · -- no
    refine tp rfl (lv_lss rfl rfl (decide_eq_false h5)) ?_
    refine t_done ?_
    refine q_then_n (hK7 _ _ ?_)
    refine c_false rfl ?_
    refine c_exit ?_
    refine q_then_x ?_
    refine q_then_x ?_
    refine q_in_x ?_
    refine q_then_n (hK3 _ _ ?_)
    refine c_seq (fun K8 hK8 => ?_)
    refine c_region ?_
    refine tp rfl (lv_assign rfl) ?_
    refine t_done ?_
    refine q_then_n (hK8 _ _ ?_)
    refine c_ret ?_
    refine t_drop ?_
    refine q_ret rfl rfl ?_
    exact ⟨by rw [reachB_mem_f (mem_at_not (k := k) (by omega) hall)], rfl⟩

set_option maxHeartbeats 4000000 in
theorem radd_ok {R : List HP} {p N : Nat} {es : Es} (a b : Int) (hE : es.length ≤ 1000) :
    Ok Tryd.prog 12 [(.pointer (some ⟨p, 0, none⟩)), (.int .i64 a), (.int .i64 b)] ((RefO p N es) :: R)
      (fun v M => v = .tuple #[.bool (isNew N es a b), .int .i64 (addErr N a b)] ∧ M = RefO p N (addE N es a b) :: R) := by
  refine ok_of (N := 45) Tryd.func12 rfl rfl rfl (fun W => ?_)
  refine t_openR (fun bs1 cp2 hok3 hle4 => ?_)
  refine c_seq (fun K1 hK1 => ?_)
  refine c_region ?_
  refine tp rfl (lv_assign rfl) ?_
  refine tp rfl (lv_assign rfl) ?_
  refine t_done ?_
  refine q_then_n (hK1 _ _ ?_)
  refine c_seq (fun K2 hK2 => ?_)
  refine c_region ?_
  refine tp rfl (lv_move rfl) ?_
  refine tp rfl (lv_move rfl) ?_
  refine t_f1 ?_
  refine t_f1 ?_
  refine tc rfl (en_fn Tryd.call27 rfl) (rthere_ok (N := N) a) ?_
  rintro _ _ ⟨rfl, rfl⟩
  refine tp rfl (lv_assign rfl) ?_
  refine t_done ?_
  refine q_then_n (hK2 _ _ ?_)
  refine c_seq (fun K3 hK3 => ?_)
  refine c_region ?_
  refine tp rfl (lv_move rfl) ?_
  refine tp rfl (lv_move rfl) ?_
  refine t_f1 ?_
  refine t_f1 ?_
  refine tc rfl (en_fn Tryd.call27 rfl) (rthere_ok (N := N) b) ?_
  rintro _ _ ⟨rfl, rfl⟩
  refine tp rfl (lv_assign rfl) ?_
  refine t_done ?_
  refine q_then_n (hK3 _ _ ?_)
  refine c_seq (fun K4 hK4 => ?_)
  refine c_seq (fun K5 hK5 => ?_)
  refine c_region ?_
  refine tp rfl (lv_move rfl) ?_
  refine tp rfl (lv_not (c := !(valid N a)) rfl rfl) ?_
  refine tp rfl (lv_move rfl) ?_
  rcases hb5 : valid N a with _ | _
  · -- false
    refine t_skip rfl rfl rfl ?_
    refine t_skip rfl rfl rfl ?_
    refine tp rfl (lv_pick_t rfl rfl) ?_
    refine t_done ?_
    refine q_then_n (hK5 _ _ ?_)
    refine c_true rfl ?_
    refine c_seq (fun K6 hK6 => ?_)
    refine c_region ?_
    refine tp rfl (lv_assign rfl) ?_
    refine tp rfl (lv_assign rfl) ?_
    refine t_done ?_
    refine q_then_n (hK6 _ _ ?_)
    refine c_ret ?_
    refine q_then_r ?_
    refine t_f1 ?_
    refine t_f1 ?_
    refine t_shutR hok3 hle4 ?_
    refine q_ret2 rfl rfl rfl ?_
    have e1 : isNew N es a b = false := by unfold isNew; rw [show es.contains (a, b) = hasE es (a, b) from rfl]; simp_all
    have e2 : addErr N a b = 1 := by unfold addErr; simp_all
    have e3 : addE N es a b = es := by unfold addE; rw [e1]; first | rfl | simp_all
    rw [e1, e2, e3]
    exact ⟨rfl, rfl⟩
  · -- true
    refine t_guard rfl rfl ?_
    refine tp rfl (lv_move rfl) ?_
    refine t_guard rfl rfl ?_
    refine tp rfl (lv_not (c := !(valid N b)) rfl rfl) ?_
    refine tp rfl (lv_pick_f rfl rfl) ?_
    refine t_done ?_
    refine q_then_n (hK5 _ _ ?_)
    refine c_split rfl (fun c6 => ?_) (fun c6 => ?_)
    · -- true
      refine c_seq (fun K6 hK6 => ?_)
      refine c_region ?_
      refine tp rfl (lv_assign rfl) ?_
      refine tp rfl (lv_assign rfl) ?_
      refine t_done ?_
      refine q_then_n (hK6 _ _ ?_)
      refine c_ret ?_
      refine q_then_r ?_
      refine t_f1 ?_
      refine t_f1 ?_
      refine t_shutR hok3 hle4 ?_
      refine q_ret2 rfl rfl rfl ?_
      have e1 : isNew N es a b = false := by unfold isNew; rw [show es.contains (a, b) = hasE es (a, b) from rfl]; simp_all
      have e2 : addErr N a b = 1 := by unfold addErr; simp_all
      have e3 : addE N es a b = es := by unfold addE; rw [e1]; first | rfl | simp_all
      rw [e1, e2, e3]
      exact ⟨rfl, rfl⟩
    · -- false
      refine c_skip ?_
      refine q_then_n (hK4 _ _ ?_)
      refine c_seq (fun K6 hK6 => ?_)
      refine c_region ?_
      refine tp rfl (lv_move rfl) ?_
      refine tp rfl (lv_move rfl) ?_
      refine tp rfl (lv_move rfl) ?_
      refine t_f1 ?_
      refine t_f1 ?_
      refine tc rfl (en_fn Tryd.call28 rfl) (rhas_ok (N := N) (es := es) a b hok3 hE) ?_
      rintro _ _ ⟨rfl, rfl⟩
      refine tp rfl (lv_assign rfl) ?_
      refine t_done ?_
      refine q_then_n (hK6 _ _ ?_)
      refine c_seq (fun K7 hK7 => ?_)
      refine c_seq (fun K8 hK8 => ?_)
      refine c_region ?_
      refine tp rfl (lv_move rfl) ?_
      refine tp rfl (lv_not (c := !(hasE es (a, b))) rfl rfl) ?_
      refine t_done ?_
      refine q_then_n (hK8 _ _ ?_)
      refine c_split rfl (fun c7 => ?_) (fun c7 => ?_)
      · -- true
        refine c_region ?_
        refine tp rfl (lv_move rfl) ?_
        refine tm rfl (mv_buildSlice (cs := []) Tryd.underlying50 Tryd.sizeOf54 Tryd.zeroValue54 (by decide) rfl rfl rfl rfl) ?_
        rintro _ _ ⟨bs8, cp9, hok10, hle11, rfl, rfl⟩
        refine tp rfl (lv_move rfl) ?_
        refine tp rfl (lv_nilCheck rfl) ?_
        refine tp rfl (lv_fieldAddr (o' := 1) Tryd.underlying52 rfl Tryd.sizeOf50 rfl rfl) ?_
        refine tp rfl (lv_load Tryd.isAgg50 rfl (gives_blk (.tail _ (.head _)) rfl)) ?_
        refine tm rfl (mv_append (i := Tryd.t54) Tryd.underlying50 Tryd.type54 rfl rfl rfl (by decide) rfl rfl hok3 (pairs_length _) (rd_sl (.tail _ (.tail _ (.head _)))) pairs_one (by rw [show Tryd.t54.bytes = 16 from rfl]; omega)) ?_
        rintro _ _ ⟨bs12, cp13, hok14, hle15, rfl, rfl⟩
        simp only [Nat.zero_add] at hok14 hle15 ⊢
        rw [List.nil_append]
        refine tp rfl (lv_move rfl) ?_
        refine tp rfl (lv_move rfl) ?_
        refine tp rfl (lv_build (cs := [(.int .i64 a), (.int .i64 b)]) (pl := [(0, 1), (1, 1)]) Tryd.underlying54 Tryd.zeroValue54 (fun _ => by simp) rfl rfl) ?_
        refine tm rfl (mv_buildSlice (cs := [(.int .i64 a), (.int .i64 b)]) Tryd.underlying50 Tryd.sizeOf54 Tryd.zeroValue54 (by decide) rfl rfl rfl rfl) ?_
        rintro _ _ ⟨bs16, cp17, hok18, hle19, rfl, rfl⟩
        refine t_f1 ?_
        refine tm rfl (mv_append (i := Tryd.t54) Tryd.underlying50 Tryd.type54 rfl rfl rfl (by decide) rfl rfl hok18 (by first | (simp; done) | (simp; omega)) (rd_sl (.tail _ (.head _))) (by simp [Value.oneCell']) (by rw [show Tryd.t54.bytes = 16 from rfl]; omega)) ?_
        rintro _ _ ⟨bs20, cp21, hok22, hle23, rfl, rfl⟩
        rw [show pairs es ++ [(.int .i64 a), (.int .i64 b)] = pairs (es ++ [(a, b)]) from pairs_snoc _ _ _]
        rw [show es.length + 1 = (es ++ [(a, b)]).length from by simp] at hok22 hle23 ⊢
        refine tp rfl (lv_nilCheck rfl) ?_
        refine tp rfl (lv_fieldAddr (o' := 1) Tryd.underlying52 rfl Tryd.sizeOf50 rfl rfl) ?_
        refine t_f2 ?_
        refine ts (sv_blk Tryd.sizeOf50 rfl rfl rfl (Nat.le_of_ble_eq_true rfl) rfl) ?_
        refine t_done ?_
        refine q_then_n (hK7 _ _ ?_)
        refine c_seq (fun K9 hK9 => ?_)
        refine c_region ?_
        refine tp rfl (lv_move rfl) ?_
        refine tp rfl (lv_not (c := !(hasE es (a, b))) rfl rfl) ?_
        refine tp rfl (lv_assign rfl) ?_
        refine tp rfl (lv_assign rfl) ?_
        refine t_done ?_
        refine q_then_n (hK9 _ _ ?_)
        refine c_ret ?_
        refine t_f1 ?_
        refine t_f1 ?_
        refine t_shutR hok22 hle23 ?_
        refine t_f1 ?_
        refine t_drop ?_
        refine t_f1 ?_
        refine t_drop ?_
        refine q_ret2 rfl rfl rfl ?_
        have e1 : isNew N es a b = (!(hasE es (a, b))) := by unfold isNew; rw [show es.contains (a, b) = hasE es (a, b) from rfl]; simp_all
        have e2 : addErr N a b = 0 := by unfold addErr; simp_all
        have e3 : addE N es a b = es ++ [(a, b)] := by unfold addE; rw [e1]; first | rfl | simp_all
        rw [e1, e2, e3]
        exact ⟨rfl, rfl⟩
      · -- false
        refine c_skip ?_
        refine q_then_n (hK7 _ _ ?_)
        refine c_seq (fun K9 hK9 => ?_)
        refine c_region ?_
        refine tp rfl (lv_move rfl) ?_
        refine tp rfl (lv_not (c := !(hasE es (a, b))) rfl rfl) ?_
        refine tp rfl (lv_assign rfl) ?_
        refine tp rfl (lv_assign rfl) ?_
        refine t_done ?_
        refine q_then_n (hK9 _ _ ?_)
        refine c_ret ?_
        refine t_f1 ?_
        refine t_f1 ?_
        refine t_shutR hok3 hle4 ?_
        refine q_ret2 rfl rfl rfl ?_
        have e1 : isNew N es a b = (!(hasE es (a, b))) := by unfold isNew; rw [show es.contains (a, b) = hasE es (a, b) from rfl]; simp_all
        have e2 : addErr N a b = 0 := by unfold addErr; simp_all
        have e3 : addE N es a b = es := by unfold addE; rw [e1]; first | rfl | simp_all
        rw [e1, e2, e3]
        exact ⟨rfl, rfl⟩
end Go.Proofs.YtppgccafgfpkdaaDoor
