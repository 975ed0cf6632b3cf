/- How far: the document's, a contract. -/
import Derived.Test.YtppgccafgfpkdaaDoorRr
set_option maxRecDepth 100000
set_option linter.unusedVariables false
set_option linter.unusedSimpArgs false
namespace Go.Proofs.YtppgccafgfpkdaaDoor
open Go Go.Proofs Sp
set_option maxHeartbeats 8000000 in
theorem rfar_ok {R : List HP} {p N cl : Nat} {bl : Option Addr} {es : Es} (a to : Int) (okl : SlOk bl es.length) (hE : es.length ≤ 1000) (hg : GOk N es) :
    Ok Tryd.prog 34 [(.pointer (some ⟨p, 0, none⟩)), (.int .i64 a), (.int .i64 to)] ((Blk p [(.int .i64 ((N : Nat) : Int)), (.slice bl es.length cl)] 52) :: (SlV 54 2 (.slice bl es.length cl) es.length (pairs es)) :: R)
      (fun v M => v = .int .i64 (farV N es a to) ∧ M = Blk p [.int .i64 ((N : Nat) : Int), .slice bl es.length cl] 52 :: SlV 54 2 (.slice bl es.length cl) es.length (pairs es) :: R) := by
  have hsm := hg.small
  refine ok_of (N := 102) Tryd.func34 rfl rfl rfl (fun W => ?_)
  refine c_seq (fun K1 hK1 => ?_)
  refine c_region ?_
  refine tp rfl (lv_assign rfl) ?_
  refine t_done ?_
  refine q_then_n (hK1 _ _ ?_)
  refine c_seq (fun K2 hK2 => ?_)
  refine c_seq (fun K3 hK3 => ?_)
  refine c_region ?_
  refine tp rfl (lv_move rfl) ?_
  by_cases h1 : a < 0
  · -- yes
    refine tp rfl (lv_lss rfl rfl (decide_eq_true h1)) ?_
    refine tp rfl (lv_move rfl) ?_
    refine t_skip rfl rfl rfl ?_
    refine t_skip rfl rfl rfl ?_
    refine t_skip rfl rfl rfl ?_
    refine t_skip rfl rfl rfl ?_
    refine t_skip rfl rfl rfl ?_
    refine t_skip rfl rfl rfl ?_
    refine tp rfl (lv_pick_t rfl rfl) ?_
    refine tp rfl (lv_move rfl) ?_
    refine t_skip rfl rfl rfl ?_
    refine t_skip rfl rfl rfl ?_
    refine tp rfl (lv_pick_t rfl rfl) ?_
    refine tp rfl (lv_move rfl) ?_
    refine t_skip rfl rfl rfl ?_
    refine t_skip rfl rfl rfl ?_
    refine t_skip rfl rfl rfl ?_
    refine t_skip rfl rfl rfl ?_
    refine t_skip rfl rfl rfl ?_
    refine t_skip rfl rfl rfl ?_
    refine tp rfl (lv_pick_t rfl rfl) ?_
    refine t_done ?_
    refine q_then_n (hK3 _ _ ?_)
    refine c_true rfl ?_
    refine c_seq (fun K4 hK4 => ?_)
    refine c_region ?_
    refine tp rfl (lv_assign rfl) ?_
    refine t_done ?_
    refine q_then_n (hK4 _ _ ?_)
    refine c_ret ?_
    refine q_then_r ?_
    refine q_ret rfl rfl ?_
    rw [farV_no (by rintro ⟨q1, q2⟩; have := valid_iff.1 q1; have := valid_iff.1 q2; omega)]
    exact ⟨rfl, rfl⟩
  · -- no
    refine tp rfl (lv_lss rfl rfl (decide_eq_false h1)) ?_
    refine tp rfl (lv_move rfl) ?_
    refine t_guard rfl rfl ?_
    refine tp rfl (lv_move rfl) ?_
    refine t_guard rfl rfl ?_
    refine tp rfl (lv_move rfl) ?_
    refine t_guard rfl rfl ?_
    refine tp rfl (lv_nilCheck rfl) ?_
    refine t_guard rfl rfl ?_
    refine tp rfl (lv_fieldAddr (o' := 0) Tryd.underlying52 rfl Tryd.sizeOf3 rfl rfl) ?_
    refine t_guard rfl rfl ?_
    refine tp rfl (lv_load Tryd.isAgg3 rfl (gives_blk (.head _) rfl)) ?_
    refine t_guard rfl rfl ?_
    by_cases h2 : a ≥ ((N : Nat) : Int)
    · -- yes
      refine tp rfl (lv_geq rfl rfl (decide_eq_true h2)) ?_
      refine tp rfl (lv_pick_f rfl rfl) ?_
      refine tp rfl (lv_move rfl) ?_
      refine t_skip rfl rfl rfl ?_
      refine t_skip rfl rfl rfl ?_
      refine tp rfl (lv_pick_t rfl rfl) ?_
      refine tp rfl (lv_move rfl) ?_
      refine t_skip rfl rfl rfl ?_
      refine t_skip rfl rfl rfl ?_
      refine t_skip rfl rfl rfl ?_
      refine t_skip rfl rfl rfl ?_
      refine t_skip rfl rfl rfl ?_
      refine t_skip rfl rfl rfl ?_
      refine tp rfl (lv_pick_t rfl rfl) ?_
      refine t_done ?_
      refine q_then_n (hK3 _ _ ?_)
      refine c_true rfl ?_
      refine c_seq (fun K4 hK4 => ?_)
      refine c_region ?_
      refine tp rfl (lv_assign rfl) ?_
      refine t_done ?_
      refine q_then_n (hK4 _ _ ?_)
      refine c_ret ?_
      refine q_then_r ?_
      refine q_ret rfl rfl ?_
      rw [farV_no (by rintro ⟨q1, q2⟩; have := valid_iff.1 q1; have := valid_iff.1 q2; omega)]
      exact ⟨rfl, rfl⟩
    · -- no
      refine tp rfl (lv_geq rfl rfl (decide_eq_false h2)) ?_
      refine tp rfl (lv_pick_f rfl rfl) ?_
      refine tp rfl (lv_move rfl) ?_
      refine t_guard rfl rfl ?_
      refine tp rfl (lv_move rfl) ?_
      refine t_guard rfl rfl ?_
      by_cases h3 : to < 0
      · -- yes
        refine tp rfl (lv_lss rfl rfl (decide_eq_true h3)) ?_
        refine tp rfl (lv_pick_f rfl rfl) ?_
        refine tp rfl (lv_move rfl) ?_
        refine t_skip rfl rfl rfl ?_
        refine t_skip rfl rfl rfl ?_
        refine t_skip rfl rfl rfl ?_
        refine t_skip rfl rfl rfl ?_
        refine t_skip rfl rfl rfl ?_
        refine t_skip rfl rfl rfl ?_
        refine tp rfl (lv_pick_t rfl rfl) ?_
        refine t_done ?_
        refine q_then_n (hK3 _ _ ?_)
        refine c_true rfl ?_
        refine c_seq (fun K4 hK4 => ?_)
        refine c_region ?_
        refine tp rfl (lv_assign rfl) ?_
        refine t_done ?_
        refine q_then_n (hK4 _ _ ?_)
        refine c_ret ?_
        refine q_then_r ?_
        refine q_ret rfl rfl ?_
        rw [farV_no (by rintro ⟨q1, q2⟩; have := valid_iff.1 q1; have := valid_iff.1 q2; omega)]
        exact ⟨rfl, rfl⟩
      · -- no
        refine tp rfl (lv_lss rfl rfl (decide_eq_false h3)) ?_
        refine tp rfl (lv_pick_f rfl rfl) ?_
        refine tp rfl (lv_move rfl) ?_
        refine t_guard rfl rfl ?_
        refine tp rfl (lv_move rfl) ?_
        refine t_guard rfl rfl ?_
        refine tp rfl (lv_move rfl) ?_
        refine t_guard rfl rfl ?_
        refine tp rfl (lv_nilCheck rfl) ?_
        refine t_guard rfl rfl ?_
        refine tp rfl (lv_fieldAddr (o' := 0) Tryd.underlying52 rfl Tryd.sizeOf3 rfl rfl) ?_
        refine t_guard rfl rfl ?_
        refine tp rfl (lv_load Tryd.isAgg3 rfl (gives_blk (.head _) rfl)) ?_
        refine t_guard rfl rfl ?_
        by_cases h4 : to ≥ ((N : Nat) : Int)
        · -- yes
         refine tp rfl (lv_geq rfl rfl (decide_eq_true h4)) ?_
         refine tp rfl (lv_pick_f rfl rfl) ?_
         refine t_done ?_
         refine q_then_n (hK3 _ _ ?_)
         refine c_true rfl ?_
         refine c_seq (fun K4 hK4 => ?_)
         refine c_region ?_
         refine tp rfl (lv_assign rfl) ?_
         refine t_done ?_
         refine q_then_n (hK4 _ _ ?_)
         refine c_ret ?_
         refine q_then_r ?_
         refine q_ret rfl rfl ?_
         rw [farV_no (by rintro ⟨q1, q2⟩; have := valid_iff.1 q1; have := valid_iff.1 q2; omega)]
         exact ⟨rfl, rfl⟩
        · -- no
         refine tp rfl (lv_geq rfl rfl (decide_eq_false h4)) ?_
         refine tp rfl (lv_pick_f rfl rfl) ?_
         refine t_done ?_
         refine q_then_n (hK3 _ _ ?_)
         refine c_false rfl ?_
         refine c_skip ?_
         refine q_then_n (hK2 _ _ ?_)
         refine c_seq (fun K4 hK4 => ?_)
         refine c_region ?_
         have ha : 0 ≤ a ∧ a < N := ⟨by omega, by omega⟩
         have ht : 0 ≤ to ∧ to < N := ⟨by omega, by omega⟩
         refine tp rfl (lv_move rfl) ?_
         refine tp rfl (lv_nilCheck rfl) ?_
         refine tp rfl (lv_fieldAddr (o' := 0) Tryd.underlying52 rfl Tryd.sizeOf3 rfl rfl) ?_
         refine tp rfl (lv_load Tryd.isAgg3 rfl (gives_blk (.head _) rfl)) ?_
         refine tm rfl (mv_makeSlice (i := Tryd.t3) Tryd.underlying33 Tryd.type3 rfl rfl rfl rfl rfl (by omega) (by rw [show Tryd.t3.bytes = 8 from rfl]; omega) (by omega)) ?_
         rintro _ _ ⟨bs5, cp6, hok7, hle8, rfl, rfl⟩
         rw [ints_rep]
         refine tp rfl (lv_assign rfl) ?_
         refine t_done ?_
         refine q_then_n (hK4 _ _ ?_)
         refine c_seq (fun K5 hK5 => ?_)
         refine c_seq (fun K6 hK6 => ?_)
         refine c_region ?_
         refine tp rfl (lv_assign rfl) ?_
         refine t_done ?_
         refine q_then_n (hK6 _ _ ?_)
         refine c_block ?_
         rw [show List.replicate ((N : Nat) : Int).toNat (0 : Int) = fillN N 0 from fillN_start N]
         refine c_loop (γ := (Nat)) (fun (i0 : Nat) => i0 ≤ N) (fun (i0 : Nat) => [(0, (.pointer (some ⟨p, 0, none⟩))), (1, (.int .i64 a)), (2, (.int .i64 to)), (6, (.int .i64 0)), (7, (.slice bs5 N cp6)), (8, (.int .i64 ((i0 : Nat) : Int))), (33, (.bool false))]) (fun (i0 : Nat) => (SlV 3 1 (.slice bs5 N cp6) N (ints .i64 (fillN N i0))) :: (Blk p [(.int .i64 ((N : Nat) : Int)), (.slice bl es.length cl)] 52) :: (SlV 54 2 (.slice bl es.length cl) es.length (pairs es)) :: R) (fun (i0 : Nat) => N - i0) (0) (by omega) ⟨rfl, rfl, rfl, rfl, rfl, rfl, rfl, trivial⟩ (fun _ h => h) ?_
         rintro i0 K7 hF hK7
         try dsimp only at hF hK7 ⊢
         have hfl := fillN_len (N := N) (i := i0) (by omega)
         refine c_seq (fun K8 hK8 => ?_)
         refine c_seq (fun K9 hK9 => ?_)
         refine c_region ?_
         refine tp rfl (lv_move rfl) ?_
         refine tp rfl (lv_move rfl) ?_
         refine tp rfl (lv_nilCheck rfl) ?_
         refine tp rfl (lv_fieldAddr (o' := 0) Tryd.underlying52 rfl Tryd.sizeOf3 rfl rfl) ?_
         refine tp rfl (lv_load Tryd.isAgg3 rfl (gives_blk (.tail _ (.head _)) rfl)) ?_
         by_cases h9 : ((i0 : Nat) : Int) < ((N : Nat) : Int)
         · -- yes
          refine tp rfl (lv_lss rfl rfl (decide_eq_true h9)) ?_
          refine t_done ?_
          refine q_then_n (hK9 _ _ ?_)
          refine c_true rfl ?_
          refine c_skip ?_
          refine q_then_n (hK8 _ _ ?_)
          refine c_seq (fun K10 hK10 => ?_)
          refine c_block ?_
          refine c_region ?_
          refine tp rfl (lv_move rfl) ?_
          refine tp rfl (lv_move rfl) ?_
          refine tp rfl (lv_indexAddr (k' := i0) Tryd.underlying33 Tryd.sizeOf3 rfl rfl hok7 (by omega) (by omega) (by omega)) ?_
          refine ts (sv_sl Tryd.sizeOf3 rfl rfl rfl (by rw [ints_length]; omega) ints_set) ?_
          refine t_done ?_
          refine q_in_n ?_
          refine q_then_n (hK10 _ _ ?_)
          refine c_region ?_
          refine tp rfl (lv_move rfl) ?_
          refine tp rfl (lv_add (c := ((i0 + 1 : Nat) : Int)) rfl rfl (wr_i64_succ (by omega))) ?_
          refine tp rfl (lv_assign rfl) ?_
          refine t_done ?_
          refine q_then_n ?_
          rw [fillN_next (show i0 < N by omega)]
          exact t_weak (by exact ⟨rfl, rfl, rfl, rfl, rfl, rfl, rfl, trivial⟩) ((hK7 (i0 + 1) (by omega) (by omega)))
         · -- no
          refine tp rfl (lv_lss rfl rfl (decide_eq_false h9)) ?_
          refine t_done ?_
          refine q_then_n (hK9 _ _ ?_)
          refine c_false rfl ?_
          refine c_exit ?_
          refine q_then_x ?_
          refine q_then_x ?_
          refine q_in_x ?_
          refine q_then_n (hK5 _ _ ?_)
          refine c_seq (fun K10 hK10 => ?_)
          refine c_region ?_
          rw [show fillN N i0 = List.replicate N (-1) from by rw [show i0 = N by omega]; exact fillN_end N]
          refine tp rfl (lv_move rfl) ?_
          refine tp rfl (lv_move rfl) ?_
          refine tp rfl (lv_indexAddr (k' := to.toNat) Tryd.underlying33 Tryd.sizeOf3 rfl rfl hok7 (by omega) (by omega) (by omega)) ?_
          refine ts (sv_sl Tryd.sizeOf3 rfl rfl rfl (by rw [ints_length, List.length_replicate]; omega) ints_set) ?_
          refine t_done ?_
          refine q_then_n (hK10 _ _ ?_)
          refine c_seq (fun K11 hK11 => ?_)
          refine c_seq (fun K12 hK12 => ?_)
          refine c_region ?_
          refine tp rfl (lv_assign rfl) ?_
          refine t_done ?_
          refine q_then_n (hK12 _ _ ?_)
          refine c_block ?_
          refine c_loop (γ := (Nat) × (List Int)) (fun (r, f) => r ≤ N ∧ RndOk N es to r 0 f) (fun (r, f) => [(0, (.pointer (some ⟨p, 0, none⟩))), (1, (.int .i64 a)), (2, (.int .i64 to)), (6, (.int .i64 0)), (7, (.slice bs5 N cp6)), (8, (.int .i64 ((i0 : Nat) : Int))), (9, (.int .i64 ((r : Nat) : Int))), (33, (.bool false)), (44, (.bool false))]) (fun (r, f) => (SlV 3 1 (.slice bs5 N cp6) N (ints .i64 f)) :: (Blk p [(.int .i64 ((N : Nat) : Int)), (.slice bl es.length cl)] 52) :: (SlV 54 2 (.slice bl es.length cl) es.length (pairs es)) :: R) (fun (r, f) => N - r) (0, (List.replicate N (-1)).set to.toNat 0) ⟨by omega, RndOk.start ht⟩ ⟨rfl, rfl, rfl, rfl, rfl, rfl, rfl, rfl, rfl, trivial⟩ (fun _ h => h) ?_
          rintro ⟨r, f⟩ K13 hF hK13
          try dsimp only at hF hK13 ⊢
          obtain ⟨hr, hrd⟩ := hF
          have hfl := hrd.len
          refine c_seq (fun K14 hK14 => ?_)
          refine c_seq (fun K15 hK15 => ?_)
          refine c_region ?_
          refine tp rfl (lv_move rfl) ?_
          refine tp rfl (lv_move rfl) ?_
          refine tp rfl (lv_nilCheck rfl) ?_
          refine tp rfl (lv_fieldAddr (o' := 0) Tryd.underlying52 rfl Tryd.sizeOf3 rfl rfl) ?_
          refine tp rfl (lv_load Tryd.isAgg3 rfl (gives_blk (.tail _ (.head _)) rfl)) ?_
          by_cases h10 : ((r : Nat) : Int) < ((N : Nat) : Int)
          · -- yes
           refine tp rfl (lv_lss rfl rfl (decide_eq_true h10)) ?_
           refine t_done ?_
           refine q_then_n (hK15 _ _ ?_)
           refine c_true rfl ?_
           refine c_skip ?_
           refine q_then_n (hK14 _ _ ?_)
           refine c_seq (fun K16 hK16 => ?_)
           refine c_block ?_
           refine c_seq (fun K17 hK17 => ?_)
           refine c_region ?_
           refine tp rfl (lv_assign rfl) ?_
           refine t_done ?_
           refine q_then_n (hK17 _ _ ?_)
           refine c_block ?_
           refine c_loop (γ := (Nat) × (List Int)) (fun (i, g) => i ≤ es.length ∧ RndOk N es to r i g) (fun (i, g) => [(0, (.pointer (some ⟨p, 0, none⟩))), (1, (.int .i64 a)), (2, (.int .i64 to)), (6, (.int .i64 0)), (7, (.slice bs5 N cp6)), (8, (.int .i64 ((i0 : Nat) : Int))), (9, (.int .i64 ((r : Nat) : Int))), (10, (.int .i64 ((i : Nat) : Int))), (33, (.bool false)), (44, (.bool false)), (58, (.bool true))]) (fun (i, g) => (SlV 3 1 (.slice bs5 N cp6) N (ints .i64 g)) :: (Blk p [(.int .i64 ((N : Nat) : Int)), (.slice bl es.length cl)] 52) :: (SlV 54 2 (.slice bl es.length cl) es.length (pairs es)) :: R) (fun (i, g) => es.length - i) (0, f) ⟨by omega, hrd⟩ ⟨rfl, rfl, rfl, rfl, rfl, rfl, rfl, rfl, rfl, rfl, rfl, trivial⟩ (fun _ h => h) ?_
           rintro ⟨i, g⟩ K18 hF hK18
           try dsimp only at hF hK18 ⊢
           obtain ⟨hi, hri⟩ := hF
           have hgl := hri.len
           have hbe : i < es.length → _ := fun h => hg.inn _ (getD_mem h)
           refine c_seq (fun K19 hK19 => ?_)
           refine c_seq (fun K20 hK20 => ?_)
           refine c_region ?_
           refine tp rfl (lv_move rfl) ?_
           refine tp rfl (lv_move rfl) ?_
           refine tp rfl (lv_nilCheck rfl) ?_
           refine tp rfl (lv_fieldAddr (o' := 1) Tryd.underlying52 rfl Tryd.sizeOf50 rfl rfl) ?_
           refine tp rfl (lv_load Tryd.isAgg50 rfl (gives_blk (.tail _ (.head _)) rfl)) ?_
           refine tp rfl (lv_len Tryd.underlying50 rfl rfl) ?_
           by_cases h11 : ((i : Nat) : Int) < ((es.length : Nat) : Int)
           · -- yes
            refine tp rfl (lv_lss rfl rfl (decide_eq_true h11)) ?_
            refine t_done ?_
            refine q_then_n (hK20 _ _ ?_)
            refine c_true rfl ?_
            refine c_skip ?_
            refine q_then_n (hK19 _ _ ?_)
            refine c_seq (fun K21 hK21 => ?_)
            refine c_block ?_
            refine c_seq (fun K22 hK22 => ?_)
            refine c_region ?_
            refine tp rfl (lv_move rfl) ?_
            refine tp rfl (lv_nilCheck rfl) ?_
            refine tp rfl (lv_fieldAddr (o' := 1) Tryd.underlying52 rfl Tryd.sizeOf50 rfl rfl) ?_
            refine tp rfl (lv_load Tryd.isAgg50 rfl (gives_blk (.tail _ (.head _)) rfl)) ?_
            refine tp rfl (lv_move rfl) ?_
            refine tp rfl (lv_indexAddr (k' := i * 2) Tryd.underlying50 Tryd.sizeOf54 rfl rfl okl (by omega) (by omega) (by omega)) ?_
            refine tp rfl (lv_loadAgg_ad (cs := [(.int .i64 (((es).getD i (0, 0)).1)), (.int .i64 (((es).getD i (0, 0)).2))]) Tryd.isAgg54 Tryd.sizeOf54 rfl (gives_all2 (gives_sl (.tail _ (.tail _ (.head _))) (pairs_get0 (by omega))) (gives_sl (.tail _ (.tail _ (.head _))) (pairs_get1 (by omega))))) ?_
            refine tm rfl (mv_alloc Tryd.zeroValue54 rfl) ?_
            rintro _ _ ⟨b12, rfl, rfl⟩
            refine ts (sv_blkAgg (news := [(.int .i64 (((es).getD i (0, 0)).1)), (.int .i64 (((es).getD i (0, 0)).2))]) Tryd.sizeOf54 rfl rfl rfl rfl (Nat.le_of_ble_eq_true rfl) rfl) ?_
            refine t_done ?_
            refine q_then_n (hK22 _ _ ?_)
            refine c_seq (fun K23 hK23 => ?_)
            refine c_region ?_
            by_cases hc13 : ((g).getD ((((es).getD i (0, 0)).2).toNat) 0) = ((r : Nat) : Int) ∧ ((g).getD ((((es).getD i (0, 0)).1).toNat) 0) < 0
            · -- both
             have hc13a := hc13.1
             have hc13b := hc13.2
             refine tp rfl (lv_move rfl) ?_
             refine tp rfl (lv_fieldAddr (o' := 1) Tryd.underlying54 rfl Tryd.sizeOf3 rfl rfl) ?_
             refine tp rfl (lv_load Tryd.isAgg3 rfl (gives_blk (.head _) rfl)) ?_
             refine tp rfl (lv_indexAddr (k' := (((es).getD i (0, 0)).2).toNat) Tryd.underlying33 Tryd.sizeOf3 rfl rfl hok7 (by have := hbe (by omega); omega) (by have := hbe (by omega); omega) (by have := hbe (by omega); omega)) ?_
             refine tp rfl (lv_load Tryd.isAgg3 rfl (gives_sl (.tail _ (.head _)) (ints_get (by have := hbe (by omega); omega)))) ?_
             refine tp rfl (lv_move rfl) ?_
             refine tp rfl (lv_eql rfl rfl (beq_iff_eq.2 hc13.1)) ?_
             refine tp rfl (lv_move rfl) ?_
             refine t_guard rfl rfl ?_
             refine tp rfl (lv_move rfl) ?_
             refine t_guard rfl rfl ?_
             refine tp rfl (lv_fieldAddr (o' := 0) Tryd.underlying54 rfl Tryd.sizeOf3 rfl rfl) ?_
             refine t_guard rfl rfl ?_
             refine tp rfl (lv_load Tryd.isAgg3 rfl (gives_blk (.head _) rfl)) ?_
             refine t_guard rfl rfl ?_
             refine tp rfl (lv_indexAddr (k' := (((es).getD i (0, 0)).1).toNat) Tryd.underlying33 Tryd.sizeOf3 rfl rfl hok7 (by have := hbe (by omega); omega) (by have := hbe (by omega); omega) (by have := hbe (by omega); omega)) ?_
             refine t_guard rfl rfl ?_
             refine tp rfl (lv_load Tryd.isAgg3 rfl (gives_sl (.tail _ (.head _)) (ints_get (by have := hbe (by omega); omega)))) ?_
             refine t_guard rfl rfl ?_
             refine tp rfl (lv_lss rfl rfl (decide_eq_true hc13.2)) ?_
             refine tp rfl (lv_pick_t rfl rfl) ?_
             refine t_done ?_
             refine q_then_n (hK23 _ _ ?_)
             refine c_true rfl ?_
             refine c_region ?_
             refine tp rfl (lv_move rfl) ?_
             refine tp rfl (lv_fieldAddr (o' := 0) Tryd.underlying54 rfl Tryd.sizeOf3 rfl rfl) ?_
             refine tp rfl (lv_load Tryd.isAgg3 rfl (gives_blk (.head _) rfl)) ?_
             refine tp rfl (lv_move rfl) ?_
             refine tp rfl (lv_add (c := ((r : Nat) : Int) + 1) rfl rfl (wr_i64 (by omega) (by omega))) ?_
             refine tp rfl (lv_indexAddr (k' := (((es).getD i (0, 0)).1).toNat) Tryd.underlying33 Tryd.sizeOf3 rfl rfl hok7 (by have := hbe (by omega); omega) (by have := hbe (by omega); omega) (by have := hbe (by omega); omega)) ?_
             refine t_f1 ?_
             refine ts (sv_sl Tryd.sizeOf3 rfl rfl rfl (by rw [ints_length]; have := hbe (by omega); omega) ints_set) ?_
             refine t_done ?_
             refine q_in_n ?_
             refine q_then_n (hK21 _ _ ?_)
             refine c_region ?_
             refine tp rfl (lv_move rfl) ?_
             refine tp rfl (lv_add (c := ((i + 1 : Nat) : Int)) rfl rfl (wr_i64_succ (by omega))) ?_
             refine tp rfl (lv_assign rfl) ?_
             refine t_done ?_
             refine q_then_n ?_
             refine t_f1 ?_
             refine t_drop ?_
             exact t_weak (by exact ⟨rfl, rfl, rfl, rfl, rfl, rfl, rfl, rfl, rfl, rfl, rfl, trivial⟩) ((hK18 (i + 1, (g).set ((((es).getD i (0, 0)).1).toNat) (((r : Nat) : Int) + 1)) ⟨by omega, hri.yes hg (by omega) (by assumption) (by assumption)⟩ (by dsimp only; omega)))
            · -- not both
             refine t_cut0 (E' := [(0, (.pointer (some ⟨p, 0, none⟩))), (1, (.int .i64 a)), (2, (.int .i64 to)), (6, (.int .i64 0)), (7, (.slice bs5 N cp6)), (8, (.int .i64 ((i0 : Nat) : Int))), (9, (.int .i64 ((r : Nat) : Int))), (10, (.int .i64 ((i : Nat) : Int))), (11, (.pointer (some ⟨b12, 0, none⟩))), (33, (.bool false)), (44, (.bool false)), (58, (.bool true)), (67, (.bool true)), (91, (.bool false))]) ?_ (fun KK hKK => ?_)
             ·
              refine q_then_n (hK23 _ _ ?_)
              refine c_false rfl ?_
              refine c_skip ?_
              refine q_in_n ?_
              refine q_then_n (hK21 _ _ ?_)
              refine c_region ?_
              refine tp rfl (lv_move rfl) ?_
              refine tp rfl (lv_add (c := ((i + 1 : Nat) : Int)) rfl rfl (wr_i64_succ (by omega))) ?_
              refine tp rfl (lv_assign rfl) ?_
              refine t_done ?_
              refine q_then_n ?_
              refine t_drop ?_
              exact t_weak (by exact ⟨rfl, rfl, rfl, rfl, rfl, rfl, rfl, rfl, rfl, rfl, rfl, trivial⟩) ((hK18 (i + 1, g) ⟨by omega, hri.no hg (by omega) (by assumption)⟩ (by dsimp only; omega)))
             · -- which
              by_cases hc13A : ((g).getD ((((es).getD i (0, 0)).2).toNat) 0) = ((r : Nat) : Int)
              ·
               have hc13B : ¬ (((g).getD ((((es).getD i (0, 0)).1).toNat) 0) < 0) := fun hh => hc13 ⟨hc13A, hh⟩
               refine tp rfl (lv_move rfl) ?_
               refine tp rfl (lv_fieldAddr (o' := 1) Tryd.underlying54 rfl Tryd.sizeOf3 rfl rfl) ?_
               refine tp rfl (lv_load Tryd.isAgg3 rfl (gives_blk (.head _) rfl)) ?_
               refine tp rfl (lv_indexAddr (k' := (((es).getD i (0, 0)).2).toNat) Tryd.underlying33 Tryd.sizeOf3 rfl rfl hok7 (by have := hbe (by omega); omega) (by have := hbe (by omega); omega) (by have := hbe (by omega); omega)) ?_
               refine tp rfl (lv_load Tryd.isAgg3 rfl (gives_sl (.tail _ (.head _)) (ints_get (by have := hbe (by omega); omega)))) ?_
               refine tp rfl (lv_move rfl) ?_
               refine tp rfl (lv_eql rfl rfl (beq_iff_eq.2 hc13A)) ?_
               refine tp rfl (lv_move rfl) ?_
               refine t_guard rfl rfl ?_
               refine tp rfl (lv_move rfl) ?_
               refine t_guard rfl rfl ?_
               refine tp rfl (lv_fieldAddr (o' := 0) Tryd.underlying54 rfl Tryd.sizeOf3 rfl rfl) ?_
               refine t_guard rfl rfl ?_
               refine tp rfl (lv_load Tryd.isAgg3 rfl (gives_blk (.head _) rfl)) ?_
               refine t_guard rfl rfl ?_
               refine tp rfl (lv_indexAddr (k' := (((es).getD i (0, 0)).1).toNat) Tryd.underlying33 Tryd.sizeOf3 rfl rfl hok7 (by have := hbe (by omega); omega) (by have := hbe (by omega); omega) (by have := hbe (by omega); omega)) ?_
               refine t_guard rfl rfl ?_
               refine tp rfl (lv_load Tryd.isAgg3 rfl (gives_sl (.tail _ (.head _)) (ints_get (by have := hbe (by omega); omega)))) ?_
               refine t_guard rfl rfl ?_
               refine tp rfl (lv_lss rfl rfl (decide_eq_false hc13B)) ?_
               refine tp rfl (lv_pick_t rfl rfl) ?_
               exact t_done (t_weak (by exact ⟨rfl, rfl, rfl, rfl, rfl, rfl, rfl, rfl, rfl, rfl, rfl, rfl, rfl, rfl, trivial⟩) hKK)
              ·
               refine tp rfl (lv_move rfl) ?_
               refine tp rfl (lv_fieldAddr (o' := 1) Tryd.underlying54 rfl Tryd.sizeOf3 rfl rfl) ?_
               refine tp rfl (lv_load Tryd.isAgg3 rfl (gives_blk (.head _) rfl)) ?_
               refine tp rfl (lv_indexAddr (k' := (((es).getD i (0, 0)).2).toNat) Tryd.underlying33 Tryd.sizeOf3 rfl rfl hok7 (by have := hbe (by omega); omega) (by have := hbe (by omega); omega) (by have := hbe (by omega); omega)) ?_
               refine tp rfl (lv_load Tryd.isAgg3 rfl (gives_sl (.tail _ (.head _)) (ints_get (by have := hbe (by omega); omega)))) ?_
               refine tp rfl (lv_move rfl) ?_
               refine tp rfl (lv_eql rfl rfl (beq_eq_false_iff_ne.2 hc13A)) ?_
               refine tp rfl (lv_move rfl) ?_
               refine t_skip rfl rfl rfl ?_
               refine t_skip rfl rfl rfl ?_
               refine t_skip rfl rfl rfl ?_
               refine t_skip rfl rfl rfl ?_
               refine t_skip rfl rfl rfl ?_
               refine t_skip rfl rfl rfl ?_
               refine tp rfl (lv_pick_f rfl rfl) ?_
               exact t_done (t_weak (by exact ⟨rfl, rfl, rfl, rfl, rfl, rfl, rfl, rfl, rfl, rfl, rfl, rfl, rfl, rfl, trivial⟩) hKK)
           · -- no
            refine tp rfl (lv_lss rfl rfl (decide_eq_false h11)) ?_
            refine t_done ?_
            refine q_then_n (hK20 _ _ ?_)
            refine c_false rfl ?_
            refine c_exit ?_
            refine q_then_x ?_
            refine q_then_x ?_
            refine q_in_x ?_
            refine q_in_n ?_
            refine q_then_n (hK16 _ _ ?_)
            refine c_region ?_
            refine tp rfl (lv_move rfl) ?_
            refine tp rfl (lv_add (c := ((r + 1 : Nat) : Int)) rfl rfl (wr_i64_succ (by omega))) ?_
            refine tp rfl (lv_assign rfl) ?_
            refine t_done ?_
            refine q_then_n ?_
            exact t_weak (by exact ⟨rfl, rfl, rfl, rfl, rfl, rfl, rfl, rfl, rfl, trivial⟩) ((hK13 (r + 1, g) ⟨by omega, hri.round (by omega)⟩ (by dsimp only; omega)))
          · -- no
           refine tp rfl (lv_lss rfl rfl (decide_eq_false h10)) ?_
           refine t_done ?_
           refine q_then_n (hK15 _ _ ?_)
           refine c_false rfl ?_
           refine c_exit ?_
           refine q_then_x ?_
           refine q_then_x ?_
           refine q_in_x ?_
           refine q_then_n (hK11 _ _ ?_)
           refine c_seq (fun K16 hK16 => ?_)
           refine c_region ?_
           refine tp rfl (lv_move rfl) ?_
           refine tp rfl (lv_move rfl) ?_
           refine tp rfl (lv_indexAddr (k' := a.toNat) Tryd.underlying33 Tryd.sizeOf3 rfl rfl hok7 (by omega) (by omega) (by omega)) ?_
           refine tp rfl (lv_load Tryd.isAgg3 rfl (gives_sl (.head _) (ints_get (by omega)))) ?_
           refine tp rfl (lv_assign rfl) ?_
           refine t_done ?_
           refine q_then_n (hK16 _ _ ?_)
           refine c_ret ?_
           refine t_drop ?_
           refine q_ret rfl rfl ?_
           rw [show f = farL N es to from (by have h2 := hrd; rw [show r = N by omega] at h2; exact h2.end_ hg ht), farL_at ha, farV_yes ha ht]
           exact ⟨rfl, rfl⟩
end Go.Proofs.YtppgccafgfpkdaaDoor
