/- The order: the document's, a contract. -/
import Derived.Test.YtppgccafgfpkdaaDoorRs
set_option maxRecDepth 100000
set_option linter.unusedVariables false
set_option linter.unusedSimpArgs false
namespace Go.Proofs.YtppgccafgfpkdaaDoor
open Go Go.Proofs Sp
set_option maxHeartbeats 8000000 in
theorem rorder_ok {R : List HP} {p N cl : Nat} {bl : Option Addr} {es : Es} (okl : SlOk bl es.length) (hE : es.length ≤ 1000) (hg : GOk N es) :
    Ok Tryd.prog 14 [(.pointer (some ⟨p, 0, none⟩))] ((Blk p [(.int .i64 ((N : Nat) : Int)), (.slice bl es.length cl)] 52) :: (SlV 54 2 (.slice bl es.length cl) es.length (pairs es)) :: R)
      (fun v M => ∃ bs cp, SlOk bs (ordR N es).length ∧ (ordR N es).length ≤ cp ∧ v = .tuple #[.slice bs (ordR N es).length cp, .bool (ordB N es)] ∧ M = SlV 3 1 (.slice bs (ordR N es).length cp) (ordR N es).length (ints .i64 (ordR N es)) :: Blk p [.int .i64 ((N : Nat) : Int), .slice bl es.length cl] 52 :: SlV 54 2 (.slice bl es.length cl) es.length (pairs es) :: R) := by
  have hsm := hg.small
  refine ok_of (N := 85) Tryd.func14 rfl rfl rfl (fun W => ?_)
  refine c_seq (fun K1 hK1 => ?_)
  refine c_region ?_
  refine tp rfl (lv_assign rfl) ?_
  refine tp rfl (lv_assign rfl) ?_
  refine t_done ?_
  refine q_then_n (hK1 _ _ ?_)
  refine c_seq (fun K2 hK2 => ?_)
  refine c_region ?_
  refine tm rfl (mv_buildSlice (cs := []) Tryd.underlying33 Tryd.sizeOf3 Tryd.zeroValue3 (by decide) rfl rfl rfl rfl) ?_
  rintro _ _ ⟨bs1, cp2, hok3, hle4, rfl, rfl⟩
  refine tp rfl (lv_assign rfl) ?_
  refine t_done ?_
  refine q_then_n (hK2 _ _ ?_)
  refine c_seq (fun K3 hK3 => ?_)
  refine c_region ?_
  refine tp rfl (lv_move rfl) ?_
  refine tp rfl (lv_nilCheck rfl) ?_
  refine tp rfl (lv_fieldAddr (o' := 0) Tryd.underlying52 rfl Tryd.sizeOf3 rfl rfl) ?_
  refine tp rfl (lv_load Tryd.isAgg3 rfl (gives_blk (.tail _ (.head _)) rfl)) ?_
  refine tm rfl (mv_makeSlice (i := Tryd.t4) Tryd.underlying55 Tryd.type4 rfl rfl rfl rfl rfl (by omega) (by rw [show Tryd.t4.bytes = 1 from rfl]; omega) (by omega)) ?_
  rintro _ _ ⟨bs5, cp6, hok7, hle8, rfl, rfl⟩
  rw [bools_rep]
  refine tp rfl (lv_assign rfl) ?_
  refine t_done ?_
  refine q_then_n (hK3 _ _ ?_)
  refine c_seq (fun K4 hK4 => ?_)
  refine c_block ?_
  rw [show List.replicate ((N : Nat) : Int).toNat false = stB N (ordN N es 0) from stB_nil N]
  refine c_loop (γ := (Nat) × (Option Addr) × (Nat)) (fun (m, bo, co) => m ≤ N ∧ (ordN N es m).length = m ∧ SlOk bo m ∧ m ≤ co) (fun (m, bo, co) => [(0, (.pointer (some ⟨p, 0, none⟩))), (4, (.slice bo m co)), (5, (.slice bs5 N cp6))]) (fun (m, bo, co) => (SlV 4 1 (.slice bs5 N cp6) N (bools (stB N (ordN N es m)))) :: (SlV 3 1 (.slice bo m co) m (ints .i64 (ordN N es m))) :: (Blk p [(.int .i64 ((N : Nat) : Int)), (.slice bl es.length cl)] 52) :: (SlV 54 2 (.slice bl es.length cl) es.length (pairs es)) :: R) (fun (m, bo, co) => N - m) (0, bs1, cp2) ⟨by omega, rfl, hok3, hle4⟩ ⟨rfl, rfl, rfl, trivial⟩ (fun _ h => h) ?_
  rintro ⟨m, bo, co⟩ K5 hF hK5
  try dsimp only at hF hK5 ⊢
  obtain ⟨hm0, hm1, hok, hle⟩ := hF
  have hord := ordN_ok N es m
  have hsl := stB_len N (ordN N es m)
  refine c_seq (fun K6 hK6 => ?_)
  refine c_seq (fun K7 hK7 => ?_)
  refine c_region ?_
  refine tp rfl (lv_move rfl) ?_
  refine tp rfl (lv_len Tryd.underlying33 rfl rfl) ?_
  refine tp rfl (lv_move rfl) ?_
  refine tp rfl (lv_nilCheck rfl) ?_
  refine tp rfl (lv_fieldAddr (o' := 0) Tryd.underlying52 rfl Tryd.sizeOf3 rfl rfl) ?_
  refine tp rfl (lv_load Tryd.isAgg3 rfl (gives_blk (.tail _ (.tail _ (.head _))) rfl)) ?_
  by_cases h9 : ((m : Nat) : Int) < ((N : Nat) : Int)
  · -- yes
    refine tp rfl (lv_lss rfl rfl (decide_eq_true h9)) ?_
    refine t_done ?_
    refine q_then_n (hK7 _ _ ?_)
    refine c_true rfl ?_
    refine c_skip ?_
    refine q_then_n (hK6 _ _ ?_)
    refine c_block ?_
    refine c_seq (fun K8 hK8 => ?_)
    refine c_region ?_
    refine tp rfl (lv_assign rfl) ?_
    refine t_done ?_
    refine q_then_n (hK8 _ _ ?_)
    refine c_seq (fun K9 hK9 => ?_)
    refine c_seq (fun K10 hK10 => ?_)
    refine c_region ?_
    refine tp rfl (lv_assign rfl) ?_
    refine t_done ?_
    refine q_then_n (hK10 _ _ ?_)
    refine c_block ?_
    refine c_loop (γ := (Nat) × (Int)) (fun (a, v) => a ≤ N ∧ NxA (fun a => freeB es (ordN N es m) (a : Int)) a v) (fun (a, v) => [(0, (.pointer (some ⟨p, 0, none⟩))), (4, (.slice bo m co)), (5, (.slice bs5 N cp6)), (6, (.int .i64 v)), (7, (.int .i64 ((a : Nat) : Int))), (22, (.bool true))]) (fun (a, v) => (SlV 4 1 (.slice bs5 N cp6) N (bools (stB N (ordN N es m)))) :: (SlV 3 1 (.slice bo m co) m (ints .i64 (ordN N es m))) :: (Blk p [(.int .i64 ((N : Nat) : Int)), (.slice bl es.length cl)] 52) :: (SlV 54 2 (.slice bl es.length cl) es.length (pairs es)) :: R) (fun (a, v) => N - a) (0, (-1)) ⟨by omega, NxA.zero _⟩ ⟨rfl, rfl, rfl, rfl, rfl, rfl, trivial⟩ (fun _ h => h) ?_
    rintro ⟨a, v⟩ K11 hF hK11
    try dsimp only at hF hK11 ⊢
    obtain ⟨ha, hnx⟩ := hF
    refine c_seq (fun K12 hK12 => ?_)
    refine c_seq (fun K13 hK13 => ?_)
    refine c_region ?_
    refine tp rfl (lv_move rfl) ?_
    refine tp rfl (lv_move rfl) ?_
    refine tp rfl (lv_nilCheck rfl) ?_
    refine tp rfl (lv_fieldAddr (o' := 0) Tryd.underlying52 rfl Tryd.sizeOf3 rfl rfl) ?_
    refine tp rfl (lv_load Tryd.isAgg3 rfl (gives_blk (.tail _ (.tail _ (.head _))) rfl)) ?_
    by_cases h10 : ((a : Nat) : Int) < ((N : Nat) : Int)
    · -- yes
      refine tp rfl (lv_lss rfl rfl (decide_eq_true h10)) ?_
      refine t_done ?_
      refine q_then_n (hK13 _ _ ?_)
      refine c_true rfl ?_
      refine c_skip ?_
      refine q_then_n (hK12 _ _ ?_)
      refine c_seq (fun K14 hK14 => ?_)
      refine c_block ?_
      refine c_seq (fun K15 hK15 => ?_)
      refine c_region ?_
      refine tp rfl (lv_move rfl) ?_
      refine tp rfl (lv_move rfl) ?_
      refine tp rfl (lv_indexAddr (k' := a) Tryd.underlying55 Tryd.sizeOf4 rfl rfl hok7 (by omega) (by omega) (by omega)) ?_
      refine tp rfl (lv_load Tryd.isAgg4 rfl (gives_as (v := .bool ((ordN N es m).contains ((a : Nat) : Int))) (by rw [stB_get (by omega)]) (gives_sl (.head _) (bools_get (by omega))))) ?_
      refine tp rfl (lv_not (c := !((ordN N es m).contains ((a : Nat) : Int))) rfl rfl) ?_
      refine tp rfl (lv_assign rfl) ?_
      refine t_done ?_
      refine q_then_n (hK15 _ _ ?_)
      refine c_seq (fun K16 hK16 => ?_)
      refine c_seq (fun K17 hK17 => ?_)
      refine c_region ?_
      refine tp rfl (lv_assign rfl) ?_
      refine t_done ?_
      refine q_then_n (hK17 _ _ ?_)
      refine c_block ?_
      refine c_loop (γ := (Nat)) (fun (i : Nat) => i ≤ es.length) (fun (i : Nat) => [(0, (.pointer (some ⟨p, 0, none⟩))), (4, (.slice bo m co)), (5, (.slice bs5 N cp6)), (6, (.int .i64 v)), (7, (.int .i64 ((a : Nat) : Int))), (8, (.bool (mayN es (ordN N es m) ((a : Nat) : Int) i))), (9, (.int .i64 ((i : Nat) : Int))), (22, (.bool true)), (28, (.bool true))]) (fun (i : Nat) => (SlV 4 1 (.slice bs5 N cp6) N (bools (stB N (ordN N es m)))) :: (SlV 3 1 (.slice bo m co) m (ints .i64 (ordN N es m))) :: (Blk p [(.int .i64 ((N : Nat) : Int)), (.slice bl es.length cl)] 52) :: (SlV 54 2 (.slice bl es.length cl) es.length (pairs es)) :: R) (fun (i : Nat) => es.length - i) (0) (by omega) ⟨rfl, rfl, rfl, rfl, rfl, (congrArg (fun b => some (Value.bool b)) (mayN_zero _ _ _).symm), rfl, rfl, rfl, trivial⟩ (fun _ h => h) ?_
      rintro i K18 hF hK18
      try dsimp only at hF hK18 ⊢
      have hbe : i < es.length → _ := fun h => hg.inn _ (getD_mem h)
      refine c_seq (fun K19 hK19 => ?_)
      refine c_seq (fun K20 hK20 => ?_)
      refine c_region ?_
      refine tp rfl (lv_move rfl) ?_
      refine tp rfl (lv_move rfl) ?_
      refine tp rfl (lv_nilCheck rfl) ?_
      refine tp rfl (lv_fieldAddr (o' := 1) Tryd.underlying52 rfl Tryd.sizeOf50 rfl rfl) ?_
      refine tp rfl (lv_load Tryd.isAgg50 rfl (gives_blk (.tail _ (.tail _ (.head _))) rfl)) ?_
      refine tp rfl (lv_len Tryd.underlying50 rfl rfl) ?_
      by_cases h11 : ((i : Nat) : Int) < ((es.length : Nat) : Int)
      · -- yes
        refine tp rfl (lv_lss rfl rfl (decide_eq_true h11)) ?_
        refine t_done ?_
        refine q_then_n (hK20 _ _ ?_)
        refine c_true rfl ?_
        refine c_skip ?_
        refine q_then_n (hK19 _ _ ?_)
        refine c_seq (fun K21 hK21 => ?_)
        refine c_block ?_
        refine c_seq (fun K22 hK22 => ?_)
        refine c_region ?_
        refine tp rfl (lv_move rfl) ?_
        refine tp rfl (lv_nilCheck rfl) ?_
        refine tp rfl (lv_fieldAddr (o' := 1) Tryd.underlying52 rfl Tryd.sizeOf50 rfl rfl) ?_
        refine tp rfl (lv_load Tryd.isAgg50 rfl (gives_blk (.tail _ (.tail _ (.head _))) rfl)) ?_
        refine tp rfl (lv_move rfl) ?_
        refine tp rfl (lv_indexAddr (k' := i * 2) Tryd.underlying50 Tryd.sizeOf54 rfl rfl okl (by omega) (by omega) (by omega)) ?_
        refine tp rfl (lv_fieldAddr_ad (o' := i * 2) Tryd.underlying54 rfl Tryd.sizeOf3 rfl rfl) ?_
        refine tp rfl (lv_load Tryd.isAgg3 rfl (gives_sl (.tail _ (.tail _ (.tail _ (.head _)))) (pairs_get0 (by omega)))) ?_
        refine tp rfl (lv_move rfl) ?_
        by_cases he1 : (((es).getD i (0, 0)).1) = ((a : Nat) : Int)
        · -- yes
         refine tp rfl (lv_eql rfl rfl (beq_iff_eq.2 he1)) ?_
         refine tp rfl (lv_move rfl) ?_
         refine t_guard rfl rfl ?_
         refine tp rfl (lv_move rfl) ?_
         refine t_guard rfl rfl ?_
         refine tp rfl (lv_move rfl) ?_
         refine t_guard rfl rfl ?_
         refine tp rfl (lv_nilCheck rfl) ?_
         refine t_guard rfl rfl ?_
         refine tp rfl (lv_fieldAddr (o' := 1) Tryd.underlying52 rfl Tryd.sizeOf50 rfl rfl) ?_
         refine t_guard rfl rfl ?_
         refine tp rfl (lv_load Tryd.isAgg50 rfl (gives_blk (.tail _ (.tail _ (.head _))) rfl)) ?_
         refine t_guard rfl rfl ?_
         refine tp rfl (lv_move rfl) ?_
         refine t_guard rfl rfl ?_
         refine tp rfl (lv_indexAddr (k' := i * 2) Tryd.underlying50 Tryd.sizeOf54 rfl rfl okl (by omega) (by omega) (by omega)) ?_
         refine t_guard rfl rfl ?_
         refine tp rfl (lv_fieldAddr_ad (o' := i * 2 + 1) Tryd.underlying54 rfl Tryd.sizeOf3 rfl rfl) ?_
         refine t_guard rfl rfl ?_
         refine tp rfl (lv_load Tryd.isAgg3 rfl (gives_sl (.tail _ (.tail _ (.tail _ (.head _)))) (pairs_get1 (by omega)))) ?_
         refine t_guard rfl rfl ?_
         refine tp rfl (lv_indexAddr (k' := (((es).getD i (0, 0)).2).toNat) Tryd.underlying55 Tryd.sizeOf4 rfl rfl hok7 (by have := hbe (by omega); omega) (by have := hbe (by omega); omega) (by have := hbe (by omega); omega)) ?_
         refine t_guard rfl rfl ?_
         refine tp rfl (lv_load Tryd.isAgg4 rfl (gives_as (v := .bool ((ordN N es m).contains (es.getD i (0, 0)).2)) (by rw [stB_at (by have := hbe (by omega); omega)]) (gives_sl (.head _) (bools_get (by have := hbe (by omega); omega))))) ?_
         refine t_guard rfl rfl ?_
         refine tp rfl (lv_not (c := !((ordN N es m).contains (es.getD i (0, 0)).2)) rfl rfl) ?_
         refine tp rfl (lv_pick_t rfl rfl) ?_
         refine t_done ?_
         refine q_then_n (hK22 _ _ ?_)
         refine c_split rfl (fun c12 => ?_) (fun c12 => ?_)
         · -- true
          refine c_region ?_
          refine tp rfl (lv_assign rfl) ?_
          refine t_done ?_
          refine q_in_n ?_
          refine q_then_n (hK21 _ _ ?_)
          refine c_region ?_
          refine tp rfl (lv_move rfl) ?_
          refine tp rfl (lv_add (c := ((i + 1 : Nat) : Int)) rfl rfl (wr_i64_succ (by omega))) ?_
          refine tp rfl (lv_assign rfl) ?_
          refine t_done ?_
          refine q_then_n ?_
          have hcn : (ordN N es m).contains (es.getD i (0, 0)).2 = false := by have h8 := c12; cases hq : (ordN N es m).contains (es.getD i (0, 0)).2 <;> simp_all
          exact t_weak (by exact ⟨rfl, rfl, rfl, rfl, rfl, (congrArg (fun b => some (Value.bool b)) (show false = (mayN es (ordN N es m) ((a : Nat) : Int) (i + 1)) from by rw [mayN_succ (by omega)]; rw [hcn, show ((es.getD i (0, 0)).1 == ((a : Nat) : Int)) = true from beq_iff_eq.2 he1]; simp)), rfl, rfl, rfl, trivial⟩) ((hK18 (i + 1) (by omega) (by omega)))
         · -- false
          refine c_skip ?_
          refine q_in_n ?_
          refine q_then_n (hK21 _ _ ?_)
          refine c_region ?_
          refine tp rfl (lv_move rfl) ?_
          refine tp rfl (lv_add (c := ((i + 1 : Nat) : Int)) rfl rfl (wr_i64_succ (by omega))) ?_
          refine tp rfl (lv_assign rfl) ?_
          refine t_done ?_
          refine q_then_n ?_
          have hcn : (ordN N es m).contains (es.getD i (0, 0)).2 = true := by have h8 := c12; cases hq : (ordN N es m).contains (es.getD i (0, 0)).2 <;> simp_all
          exact t_weak (by exact ⟨rfl, rfl, rfl, rfl, rfl, (congrArg (fun b => some (Value.bool b)) (show (mayN es (ordN N es m) ((a : Nat) : Int) i) = (mayN es (ordN N es m) ((a : Nat) : Int) (i + 1)) from by rw [mayN_succ (by omega)]; rw [hcn, Bool.or_true, Bool.and_true])), rfl, rfl, rfl, trivial⟩) ((hK18 (i + 1) (by omega) (by omega)))
        · -- no
         refine tp rfl (lv_eql rfl rfl (beq_eq_false_iff_ne.2 he1)) ?_
         refine tp rfl (lv_move rfl) ?_
         refine t_skip rfl rfl rfl ?_
         refine t_skip rfl rfl rfl ?_
         refine t_skip rfl rfl rfl ?_
         refine t_skip rfl rfl rfl ?_
         refine t_skip rfl rfl rfl ?_
         refine t_skip rfl rfl rfl ?_
         refine t_skip rfl rfl rfl ?_
         refine t_skip rfl rfl rfl ?_
         refine t_skip rfl rfl rfl ?_
         refine t_skip rfl rfl rfl ?_
         refine t_skip rfl rfl rfl ?_
         refine t_skip rfl rfl rfl ?_
         refine tp rfl (lv_pick_f rfl rfl) ?_
         refine t_done ?_
         refine q_then_n (hK22 _ _ ?_)
         refine c_false rfl ?_
         refine c_skip ?_
         refine q_in_n ?_
         refine q_then_n (hK21 _ _ ?_)
         refine c_region ?_
         refine tp rfl (lv_move rfl) ?_
         refine tp rfl (lv_add (c := ((i + 1 : Nat) : Int)) rfl rfl (wr_i64_succ (by omega))) ?_
         refine tp rfl (lv_assign rfl) ?_
         refine t_done ?_
         refine q_then_n ?_
         exact t_weak (by exact ⟨rfl, rfl, rfl, rfl, rfl, (congrArg (fun b => some (Value.bool b)) (show (mayN es (ordN N es m) ((a : Nat) : Int) i) = (mayN es (ordN N es m) ((a : Nat) : Int) (i + 1)) from by rw [mayN_succ (by omega)]; rw [show ((es.getD i (0, 0)).1 == ((a : Nat) : Int)) = false from beq_eq_false_iff_ne.2 he1]; simp)), rfl, rfl, rfl, trivial⟩) ((hK18 (i + 1) (by omega) (by omega)))
      · -- no
        refine tp rfl (lv_lss rfl rfl (decide_eq_false h11)) ?_
        refine t_done ?_
        refine q_then_n (hK20 _ _ ?_)
        refine c_false rfl ?_
        refine c_exit ?_
        refine q_then_x ?_
        refine q_then_x ?_
        refine q_in_x ?_
        refine q_then_n (hK16 _ _ ?_)
        refine c_seq (fun K21 hK21 => ?_)
        refine c_region ?_
        refine tp rfl (lv_move rfl) ?_
        refine tp rfl (lv_move rfl) ?_
        rcases hb13 : mayN es (ordN N es m) ((a : Nat) : Int) i with _ | _
        · -- false
         refine t_skip rfl rfl rfl ?_
         refine t_skip rfl rfl rfl ?_
         refine tp rfl (lv_pick_f rfl rfl) ?_
         refine t_done ?_
         refine q_then_n (hK21 _ _ ?_)
         refine c_false rfl ?_
         refine c_skip ?_
         refine q_in_n ?_
         refine q_then_n (hK14 _ _ ?_)
         refine c_region ?_
         refine tp rfl (lv_move rfl) ?_
         refine tp rfl (lv_add (c := ((a + 1 : Nat) : Int)) rfl rfl (wr_i64_succ (by omega))) ?_
         refine tp rfl (lv_assign rfl) ?_
         refine t_done ?_
         refine q_then_n ?_
         exact t_weak (by exact ⟨rfl, rfl, rfl, rfl, rfl, rfl, trivial⟩) ((hK11 (a + 1, v) ⟨by omega, (by first | exact hnx.keep hv | exact hnx.no (by rw [← mayN_end (show es.length ≤ i by omega)]; exact hb13))⟩ (by dsimp only; omega)))
        · -- true
         refine t_guard rfl rfl ?_
         refine tp rfl (lv_move rfl) ?_
         refine t_guard rfl rfl ?_
         by_cases hv : v < 0
         · -- yes
          refine tp rfl (lv_lss rfl rfl (decide_eq_true hv)) ?_
          refine tp rfl (lv_pick_t rfl rfl) ?_
          refine t_done ?_
          refine q_then_n (hK21 _ _ ?_)
          refine c_true rfl ?_
          refine c_region ?_
          refine tp rfl (lv_move rfl) ?_
          refine tp rfl (lv_assign rfl) ?_
          refine t_done ?_
          refine q_in_n ?_
          refine q_then_n (hK14 _ _ ?_)
          refine c_region ?_
          refine tp rfl (lv_move rfl) ?_
          refine tp rfl (lv_add (c := ((a + 1 : Nat) : Int)) rfl rfl (wr_i64_succ (by omega))) ?_
          refine tp rfl (lv_assign rfl) ?_
          refine t_done ?_
          refine q_then_n ?_
          exact t_weak (by exact ⟨rfl, rfl, rfl, rfl, rfl, rfl, trivial⟩) ((hK11 (a + 1, ((a : Nat) : Int)) ⟨by omega, hnx.new hv (by rw [← mayN_end (show es.length ≤ i by omega)]; exact hb13)⟩ (by dsimp only; omega)))
         · -- no
          refine tp rfl (lv_lss rfl rfl (decide_eq_false hv)) ?_
          refine tp rfl (lv_pick_t rfl rfl) ?_
          refine t_done ?_
          refine q_then_n (hK21 _ _ ?_)
          refine c_false rfl ?_
          refine c_skip ?_
          refine q_in_n ?_
          refine q_then_n (hK14 _ _ ?_)
          refine c_region ?_
          refine tp rfl (lv_move rfl) ?_
          refine tp rfl (lv_add (c := ((a + 1 : Nat) : Int)) rfl rfl (wr_i64_succ (by omega))) ?_
          refine tp rfl (lv_assign rfl) ?_
          refine t_done ?_
          refine q_then_n ?_
          exact t_weak (by exact ⟨rfl, rfl, rfl, rfl, rfl, rfl, trivial⟩) ((hK11 (a + 1, v) ⟨by omega, (by first | exact hnx.keep hv | exact hnx.no (by rw [← mayN_end (show es.length ≤ i by omega)]; exact hb13))⟩ (by dsimp only; omega)))
    · -- no
      refine tp rfl (lv_lss rfl rfl (decide_eq_false h10)) ?_
      refine t_done ?_
      refine q_then_n (hK13 _ _ ?_)
      refine c_false rfl ?_
      refine c_exit ?_
      refine q_then_x ?_
      refine q_then_x ?_
      refine q_in_x ?_
      refine q_then_n (hK9 _ _ ?_)
      refine c_seq (fun K14 hK14 => ?_)
      refine c_seq (fun K15 hK15 => ?_)
      refine c_region ?_
      refine tp rfl (lv_move rfl) ?_
      by_cases h14 : v < 0
      · -- yes
        refine tp rfl (lv_lss rfl rfl (decide_eq_true h14)) ?_
        refine t_done ?_
        refine q_then_n (hK15 _ _ ?_)
        refine c_true rfl ?_
        refine c_seq (fun K16 hK16 => ?_)
        refine c_region ?_
        have hno := hnx.none (N := N) (by omega) ‹_›
        have hoL := ordL_stuck hm0 hno
        have hlN : (ordL N es).length = m := by rw [hoL]; exact hm1
        refine tp rfl (lv_assign rfl) ?_
        refine tp rfl (lv_assign rfl) ?_
        refine t_done ?_
        refine q_then_n (hK16 _ _ ?_)
        refine c_ret ?_
        refine q_then_r ?_
        refine q_in_r ?_
        refine q_then_r ?_
        refine q_in_r ?_
        refine q_then_r ?_
        refine t_sat (fun _ h => sat_nilsl 3 1 h) ?_
        refine t_f1 ?_
        refine t_drop ?_
        refine t_f1 ?_
        refine t_drop ?_
        refine q_ret2 rfl rfl rfl ?_
        refine ⟨none, 0, ?_, ?_, ?_, ?_⟩
        · exact (by rw [show ordR N es = [] from if_neg (by omega)]; exact slok_none)
        · exact (by rw [show ordR N es = [] from if_neg (by omega)]; exact Nat.le_refl _)
        · rw [show ordR N es = [] from if_neg (by omega), show ordB N es = false from decide_eq_false (by omega)]; rfl
        · rw [show ordR N es = [] from if_neg (by omega)]; rfl
      · -- no
        refine tp rfl (lv_lss rfl rfl (decide_eq_false h14)) ?_
        refine t_done ?_
        refine q_then_n (hK15 _ _ ?_)
        refine c_false rfl ?_
        refine c_skip ?_
        refine q_then_n (hK14 _ _ ?_)
        refine c_seq (fun K16 hK16 => ?_)
        refine c_region ?_
        obtain ⟨hv0, hvN, hns⟩ := hnx.some (N := N) (by omega) ‹_›
        have hor : ordN N es (m + 1) = (ordN N es m) ++ [v] := by rw [ordN_next hns, Int.toNat_of_nonneg hv0]
        refine tp rfl (lv_move rfl) ?_
        refine tp rfl (lv_move rfl) ?_
        refine tp rfl (lv_indexAddr (k' := v.toNat) Tryd.underlying55 Tryd.sizeOf4 rfl rfl hok7 (by omega) (by omega) (by omega)) ?_
        refine ts (sv_sl Tryd.sizeOf4 rfl rfl rfl (by rw [bools_length]; omega) bools_set) ?_
        refine t_done ?_
        refine q_then_n (hK16 _ _ ?_)
        refine c_region ?_
        refine tp rfl (lv_move rfl) ?_
        refine tp rfl (lv_move rfl) ?_
        refine tm rfl (mv_buildSlice (cs := [(.int .i64 v)]) Tryd.underlying33 Tryd.sizeOf3 Tryd.zeroValue3 (by decide) rfl rfl rfl rfl) ?_
        rintro _ _ ⟨bs15, cp16, hok17, hle18, rfl, rfl⟩
        refine t_f2 ?_
        refine tm rfl (mv_append (i := Tryd.t3) Tryd.underlying33 Tryd.type3 rfl rfl rfl (by decide) rfl rfl hok17 (by first | (simp; done) | (simp; omega)) (rd_sl (.tail _ (.head _))) (by simp [Value.oneCell']) (by rw [show Tryd.t3.bytes = 8 from rfl]; omega)) ?_
        rintro _ _ ⟨bs19, cp20, hok21, hle22, rfl, rfl⟩
        rw [show ints .i64 (ordN N es m) ++ [(.int .i64 v)] = ints .i64 ((ordN N es m) ++ [v]) from ints_snoc _ _ _]
        refine tp rfl (lv_assign rfl) ?_
        refine t_done ?_
        refine q_in_n ?_
        refine q_then_n ?_
        refine t_f1 ?_
        refine t_drop ?_
        refine t_f1 ?_
        have hst : (stB N (ordN N es m)).set v.toNat true = stB N ((ordN N es m) ++ [v]) := by rw [stB_add (by omega), Int.toNat_of_nonneg hv0]
        rw [hst, ← hor]
        exact t_weak (by exact ⟨rfl, rfl, rfl, trivial⟩) ((hK5 (m + 1, bs19, cp20) ⟨by omega, by rw [hor, List.length_append, hm1]; rfl, hok21, hle22⟩ (by dsimp only; omega)))
  · -- no
    refine tp rfl (lv_lss rfl rfl (decide_eq_false h9)) ?_
    refine t_done ?_
    refine q_then_n (hK7 _ _ ?_)
    refine c_false rfl ?_
    refine c_exit ?_
    refine q_then_x ?_
    refine q_then_x ?_
    refine q_in_x ?_
    refine q_then_n (hK4 _ _ ?_)
    refine c_seq (fun K8 hK8 => ?_)
    refine c_region ?_
    refine tp rfl (lv_move rfl) ?_
    refine tp rfl (lv_assign rfl) ?_
    refine tp rfl (lv_assign rfl) ?_
    refine t_done ?_
    refine q_then_n (hK8 _ _ ?_)
    refine c_ret ?_
    refine t_drop ?_
    refine q_ret2 rfl rfl rfl ?_
    have hmN : m = N := by omega
    have hoL : ordL N es = (ordN N es m) := by unfold ordL; rw [hmN]
    have hlN : (ordL N es).length = N := by rw [hoL, hm1]; exact hmN
    have hR : ordR N es = (ordN N es m) := by rw [show ordR N es = ordL N es from if_pos hlN]; exact hoL
    have hBt : ordB N es = true := decide_eq_true hlN
    refine ⟨bo, co, ?_, ?_, ?_, ?_⟩
    · rw [hR, hm1]; exact hok
    · rw [hR, hm1]; exact hle
    · rw [hR, hm1, hBt]
    · rw [hR, hm1]
end Go.Proofs.YtppgccafgfpkdaaDoor
