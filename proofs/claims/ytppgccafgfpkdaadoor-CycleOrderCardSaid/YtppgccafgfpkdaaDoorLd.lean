/- CycleOrder: the law's walk. -/
import Derived.Test.YtppgccafgfpkdaaDoorLa
set_option maxRecDepth 100000
set_option linter.unusedVariables false
set_option linter.unusedSimpArgs false
namespace Go.Proofs.YtppgccafgfpkdaaDoor
open Go Go.Proofs Sp
set_option maxHeartbeats 20000000 in
theorem order_law {R : List HP} (n : Int) {beb : Option Addr} {ceb : Nat} (es : List (Int × Int)) (heb : Rd R beb (pairs es)) (okeb : SlOk beb es.length) (leb : es.length ≤ 9223372036854775807) (lceb : es.length ≤ ceb) (hT : Tab R) :
    Ok Tryd.prog 4 [(.int .i64 n), (.slice beb es.length ceb)] R
      (fun v M => v = .bool true ∧ M = R) := by
  have hgk : GOk (clampN (min n 30)) (madeE (clampN (min n 30)) (es.take 100)) := GOk.made (clampN_le _) _
  have hcn := clampN_le (min n 30)
  refine ok_of (N := 134) Tryd.func4 rfl rfl rfl (fun W => ?_)
  refine c_seq (fun K1 hK1 => ?_)
  refine c_region ?_
  refine tp rfl (lv_assign rfl) ?_
  refine t_done ?_
  refine q_then_n (hK1 _ _ ?_)
  refine c_seq (fun K2 hK2 => ?_)
  refine c_region ?_
  refine tc rfl (en_fn Tryd.call9 rfl) (shown_ok hT) ?_
  rintro _ _ ⟨rfl, hMR⟩
  rw [hMR]; clear hMR
  refine tp rfl (lv_assign rfl) ?_
  refine t_done ?_
  refine q_then_n (hK2 _ _ ?_)
  refine c_seq (fun K3 hK3 => ?_)
  refine c_region ?_
  refine tp rfl (lv_move rfl) ?_
  refine tp rfl (lv_move rfl) ?_
  refine tc rfl (en_fn Tryd.call10 rfl) (made_ok n es heb (fun hz => okeb (by first | exact hz | omega)) (by first | omega | decide)) ?_
  rintro _ _ ⟨p1, rfl, rfl⟩
  refine tp rfl (lv_assign rfl) ?_
  refine t_done ?_
  refine q_then_n (hK3 _ _ ?_)
  refine c_seq (fun K4 hK4 => ?_)
  refine c_seq (fun K5 hK5 => ?_)
  refine c_region ?_
  refine tp rfl (lv_move rfl) ?_
  refine tp rfl (lv_eqnil Tryd.underlying24 rfl rfl) ?_
  refine t_done ?_
  refine q_then_n (hK5 _ _ ?_)
  refine c_false rfl ?_
  refine c_skip ?_
  refine q_then_n (hK4 _ _ ?_)
  refine c_seq (fun K6 hK6 => ?_)
  refine c_region ?_
  obtain ⟨EE, hEE⟩ : ∃ x, madeE (clampN (min n 30)) (es.take 100) = x := ⟨_, rfl⟩
  rw [hEE] at hgk ⊢
  obtain ⟨NN, hNN⟩ : ∃ x, clampN (min n 30) = x := ⟨_, rfl⟩
  rw [hNN] at hgk hcn ⊢
  refine tp rfl (lv_move rfl) ?_
  refine tc rfl (en_fn Tryd.call13 rfl) (order_ok (N := NN) (E := EE)) ?_
  rintro _ _ ⟨bs2, cp3, hok4, hle5, rfl, rfl⟩
  refine tp rfl (lv_move rfl) ?_
  refine tp rfl (lv_extract rfl rfl) ?_
  refine tp rfl (lv_extract rfl rfl) ?_
  refine tp rfl (lv_assign rfl) ?_
  refine tp rfl (lv_assign rfl) ?_
  refine t_done ?_
  refine q_then_n (hK6 _ _ ?_)
  refine c_seq (fun K7 hK7 => ?_)
  refine c_region ?_
  refine tp rfl (lv_move rfl) ?_
  refine t_f1 ?_
  refine tc rfl (en_fn Tryd.call19 rfl) (on_ok (N := NN) (E := EE)  (Tab.cons hT)) ?_
  rintro _ _ ⟨bs6, cp7, hok8, hle9, rfl, rfl⟩
  refine tp rfl (lv_assign rfl) ?_
  refine t_done ?_
  refine q_then_n (hK7 _ _ ?_)
  refine c_seq (fun K8 hK8 => ?_)
  refine c_seq (fun K9 hK9 => ?_)
  refine c_region ?_
  have hord := ordR_ok NN EE
  have hole := hord.le
  have hot := @ordR_t NN EE
  have hof := @ordR_f NN EE
  have hoon := ord_on hgk
  have honl := onL_le NN EE
  refine tp rfl (lv_move rfl) ?_
  refine tp rfl (lv_move rfl) ?_
  refine tp rfl (lv_len Tryd.underlying33 rfl rfl) ?_
  refine tp rfl (lv_eql rfl rfl rfl) ?_
  refine tp rfl (lv_neb Tryd.underlying4 rfl rfl (show (_ != _) = false from by rw [hoon]; simp)) ?_
  refine tp rfl (lv_move rfl) ?_
  refine t_guard rfl rfl ?_
  refine tp rfl (lv_move rfl) ?_
  refine t_guard rfl rfl ?_
  refine tp rfl (lv_move rfl) ?_
  rcases hb10 : ordB NN EE with _ | _
  · -- false
    refine t_skip rfl rfl rfl ?_
    refine t_skip rfl rfl rfl ?_
    refine t_skip rfl rfl rfl ?_
    refine t_skip rfl rfl rfl ?_
    refine t_skip rfl rfl rfl ?_
    refine t_guard rfl rfl ?_
    refine tp rfl (lv_pick_f rfl rfl) ?_
    refine tp rfl (lv_pick_f rfl rfl) ?_
    refine tp rfl (lv_move rfl) ?_
    refine t_guard rfl rfl ?_
    refine tp rfl (lv_move rfl) ?_
    refine t_guard rfl rfl ?_
    refine tp rfl (lv_not (c := true) rfl rfl) ?_
    refine t_guard rfl rfl ?_
    refine tp rfl (lv_move rfl) ?_
    refine t_guard rfl rfl ?_
    refine tp rfl (lv_move rfl) ?_
    refine t_guard rfl rfl ?_
    refine tp rfl (lv_len Tryd.underlying33 rfl rfl) ?_
    refine t_guard rfl rfl ?_
    refine tp rfl (lv_neq rfl rfl (bne_eq_false_iff_eq.2 (by have := hof ‹_›; omega))) ?_
    refine t_guard rfl rfl ?_
    refine tp rfl (lv_pick_t rfl rfl) ?_
    refine tp rfl (lv_pick_f rfl rfl) ?_
    refine t_done ?_
    refine q_then_n (hK9 _ _ ?_)
    refine c_false rfl ?_
    refine c_skip ?_
    refine q_then_n (hK8 _ _ ?_)
    refine c_seq (fun K10 hK10 => ?_)
    refine c_region ?_
    refine tp rfl (lv_buildArr0 (cs := (ints .i64 (List.replicate 64 0))) Tryd.underlying44 Tryd.zeroValue44 Tryd.sizeOf3 rfl) ?_
    refine tm rfl (mv_alloc (cs := (ints .i64 (List.replicate 64 0))) Tryd.zeroValue44 rfl) ?_
    rintro _ _ ⟨b11, rfl, rfl⟩
    refine ts (sv_blkAgg (news := (ints .i64 (List.replicate 64 0))) (cs' := (ints .i64 (List.replicate 64 0))) Tryd.sizeOf44 rfl rfl rfl (by decide) (by decide) rfl) ?_
    refine t_done ?_
    refine q_then_n (hK10 _ _ ?_)
    refine c_seq (fun K11 hK11 => ?_)
    refine c_seq (fun K12 hK12 => ?_)
    refine c_region ?_
    refine tp rfl (lv_assign rfl) ?_
    refine t_done ?_
    refine q_then_n (hK12 _ _ ?_)
    refine c_block ?_
    refine c_loop (γ := (Nat) × (List Int)) (fun (i, pl) => i ≤ (ordR NN EE).length ∧ PlN (ordR NN EE) i pl) (fun (i, pl) => [(0, (.int .i64 n)), (1, (.slice beb es.length ceb)), (5, (.bool true)), (6, (.pointer (some ⟨p1, 0, none⟩))), (7, (.slice bs2 ((ordR NN EE).length) cp3)), (8, (.bool false)), (9, (.slice bs6 ((onL NN EE).length) cp7)), (10, (.pointer (some ⟨b11, 0, none⟩))), (11, (.int .i64 ((i : Nat) : Int))), (20, (.bool false)), (51, (.bool false))]) (fun (i, pl) => (Blk b11 (ints .i64 pl) 44) :: (SlV 3 1 (.slice bs6 ((onL NN EE).length) cp7) ((onL NN EE).length) (ints .i64 (onL NN EE))) :: (GraphO p1 NN EE) :: (SlV 3 1 (.slice bs2 ((ordR NN EE).length) cp3) ((ordR NN EE).length) (ints .i64 (ordR NN EE))) :: R) (fun (i, pl) => (ordR NN EE).length - i) (0, List.replicate 64 0) ⟨by omega, PlN.zero _⟩ ⟨rfl, rfl, rfl, rfl, rfl, rfl, rfl, rfl, rfl, rfl, rfl, trivial⟩ (fun _ h => h) ?_
    rintro ⟨i, pl⟩ K13 hF hK13
    try dsimp only at hF hK13 ⊢
    obtain ⟨hi, hpl⟩ := hF
    have hpll := hpl.len
    have hoi : i < (ordR NN EE).length → 0 ≤ (ordR NN EE).getD i 0 ∧ (ordR NN EE).getD i 0 < NN := fun h => ord_at hord h
    refine c_seq (fun K14 hK14 => ?_)
    refine c_seq (fun K15 hK15 => ?_)
    refine c_region ?_
    refine tp rfl (lv_move rfl) ?_
    refine tp rfl (lv_move rfl) ?_
    refine tp rfl (lv_len Tryd.underlying33 rfl rfl) ?_
    by_cases h12 : ((i : Nat) : Int) < (((ordR NN EE).length : Nat) : Int)
    · -- yes
      refine tp rfl (lv_lss rfl rfl (decide_eq_true h12)) ?_
      refine t_done ?_
      refine q_then_n (hK15 _ _ ?_)
      refine c_true rfl ?_
      refine c_skip ?_
      refine q_then_n (hK14 _ _ ?_)
      refine c_seq (fun K16 hK16 => ?_)
      refine c_block ?_
      refine c_seq (fun K17 hK17 => ?_)
      refine c_seq (fun K18 hK18 => ?_)
      refine c_region ?_
      refine tp rfl (lv_move rfl) ?_
      refine tp rfl (lv_move rfl) ?_
      refine tp rfl (lv_indexAddr (k' := i) Tryd.underlying33 Tryd.sizeOf3 rfl rfl hok4 (by omega) (by omega) (by omega)) ?_
      refine tp rfl (lv_load Tryd.isAgg3 rfl (gives_sl (.tail _ (.tail _ (.tail _ (.head _)))) (ints_get (by omega)))) ?_
      refine tp rfl (lv_lss rfl rfl (decide_eq_false (by have := hoi (by omega); omega))) ?_
      refine tp rfl (lv_move rfl) ?_
      refine t_guard rfl rfl ?_
      refine tp rfl (lv_move rfl) ?_
      refine t_guard rfl rfl ?_
      refine tp rfl (lv_move rfl) ?_
      refine t_guard rfl rfl ?_
      refine tp rfl (lv_indexAddr (k' := i) Tryd.underlying33 Tryd.sizeOf3 rfl rfl hok4 (by omega) (by omega) (by omega)) ?_
      refine t_guard rfl rfl ?_
      refine tp rfl (lv_load Tryd.isAgg3 rfl (gives_sl (.tail _ (.tail _ (.tail _ (.head _)))) (ints_get (by omega)))) ?_
      refine t_guard rfl rfl ?_
      refine tp rfl (lv_geq rfl rfl (decide_eq_false (by have := hoi (by omega); omega))) ?_
      refine tp rfl (lv_pick_f rfl rfl) ?_
      refine tp rfl (lv_move rfl) ?_
      refine t_guard rfl rfl ?_
      refine tp rfl (lv_move rfl) ?_
      refine t_guard rfl rfl ?_
      refine tp rfl (lv_move rfl) ?_
      refine t_guard rfl rfl ?_
      refine tp rfl (lv_indexAddr (k' := i) Tryd.underlying33 Tryd.sizeOf3 rfl rfl hok4 (by omega) (by omega) (by omega)) ?_
      refine t_guard rfl rfl ?_
      refine tp rfl (lv_load Tryd.isAgg3 rfl (gives_sl (.tail _ (.tail _ (.tail _ (.head _)))) (ints_get (by omega)))) ?_
      refine t_guard rfl rfl ?_
      refine tp rfl (lv_indexArr (k' := ((ordR NN EE).getD i 0).toNat) Tryd.underlying44 Tryd.sizeOf3 rfl rfl (by have := hoi (by omega); omega) (by have := hoi (by omega); omega) (by have := hoi (by omega); omega)) ?_
      refine t_guard rfl rfl ?_
      refine tp rfl (lv_load Tryd.isAgg3 rfl (gives_blk (.head _) (ints_get (by have := hoi (by omega); omega)))) ?_
      refine t_guard rfl rfl ?_
      refine tp rfl (lv_neq rfl rfl (bne_eq_false_iff_eq.2 (hpl.free hord hcn (by omega)))) ?_
      refine tp rfl (lv_pick_f rfl rfl) ?_
      refine t_done ?_
      refine q_then_n (hK18 _ _ ?_)
      refine c_false rfl ?_
      refine c_skip ?_
      refine q_then_n (hK17 _ _ ?_)
      refine c_region ?_
      refine tp rfl (lv_move rfl) ?_
      refine tp rfl (lv_move rfl) ?_
      refine tp rfl (lv_indexAddr (k' := i) Tryd.underlying33 Tryd.sizeOf3 rfl rfl hok4 (by omega) (by omega) (by omega)) ?_
      refine tp rfl (lv_load Tryd.isAgg3 rfl (gives_sl (.tail _ (.tail _ (.tail _ (.head _)))) (ints_get (by omega)))) ?_
      refine tp rfl (lv_move rfl) ?_
      refine tp rfl (lv_add (c := ((i : Nat) : Int) + 1) rfl rfl (wr_i64 (by omega) (by omega))) ?_
      refine tp rfl (lv_indexArr (k' := ((ordR NN EE).getD i 0).toNat) Tryd.underlying44 Tryd.sizeOf3 rfl rfl (by have := hoi (by omega); omega) (by have := hoi (by omega); omega) (by have := hoi (by omega); omega)) ?_
      refine ts (sv_blk Tryd.sizeOf3 rfl rfl rfl (by rw [ints_length]; have := hoi (by omega); omega) ints_set) ?_
      refine t_done ?_
      refine q_in_n ?_
      refine q_then_n (hK16 _ _ ?_)
      refine c_region ?_
      refine tp rfl (lv_move rfl) ?_
      refine tp rfl (lv_add (c := ((i + 1 : Nat) : Int)) rfl rfl (wr_i64_succ (by omega))) ?_
      refine tp rfl (lv_assign rfl) ?_
      refine t_done ?_
      refine q_then_n ?_
      exact t_weak (by exact ⟨rfl, rfl, rfl, rfl, rfl, rfl, rfl, rfl, rfl, rfl, rfl, trivial⟩) ((hK13 (i + 1, pl.set ((ordR NN EE).getD i 0).toNat (((i : Nat) : Int) + 1)) ⟨by omega, hpl.next hord hcn (by omega)⟩ (by dsimp only; omega)))
    · -- no
      refine tp rfl (lv_lss rfl rfl (decide_eq_false h12)) ?_
      refine t_done ?_
      refine q_then_n (hK15 _ _ ?_)
      refine c_false rfl ?_
      refine c_exit ?_
      refine q_then_x ?_
      refine q_then_x ?_
      refine q_in_x ?_
      refine q_then_n (hK11 _ _ ?_)
      refine c_seq (fun K16 hK16 => ?_)
      refine c_seq (fun K17 hK17 => ?_)
      refine c_region ?_
      refine tp rfl (lv_assign rfl) ?_
      refine t_done ?_
      refine q_then_n (hK17 _ _ ?_)
      refine c_block ?_
      refine c_loop (γ := (Nat)) (fun (x : Nat) => x ≤ NN) (fun (x : Nat) => [(0, (.int .i64 n)), (1, (.slice beb es.length ceb)), (5, (.bool true)), (6, (.pointer (some ⟨p1, 0, none⟩))), (7, (.slice bs2 ((ordR NN EE).length) cp3)), (8, (.bool false)), (9, (.slice bs6 ((onL NN EE).length) cp7)), (10, (.pointer (some ⟨b11, 0, none⟩))), (11, (.int .i64 ((i : Nat) : Int))), (12, (.int .i64 ((x : Nat) : Int))), (20, (.bool false)), (51, (.bool false)), (56, (.bool false))]) (fun (x : Nat) => (Blk b11 (ints .i64 pl) 44) :: (SlV 3 1 (.slice bs6 ((onL NN EE).length) cp7) ((onL NN EE).length) (ints .i64 (onL NN EE))) :: (GraphO p1 NN EE) :: (SlV 3 1 (.slice bs2 ((ordR NN EE).length) cp3) ((ordR NN EE).length) (ints .i64 (ordR NN EE))) :: R) (fun (x : Nat) => NN - x) (0) (by omega) ⟨rfl, rfl, rfl, rfl, rfl, rfl, rfl, rfl, rfl, rfl, rfl, rfl, rfl, trivial⟩ (fun _ h => h) ?_
      rintro x K18 hF hK18
      try dsimp only at hF hK18 ⊢
      refine c_seq (fun K19 hK19 => ?_)
      refine c_seq (fun K20 hK20 => ?_)
      refine c_region ?_
      refine tp rfl (lv_move rfl) ?_
      refine tp rfl (lv_move rfl) ?_
      refine t_f2 ?_
      refine tc rfl (en_fn Tryd.call21 rfl) (n_ok) ?_
      rintro _ _ ⟨rfl, rfl⟩
      by_cases h13 : ((x : Nat) : Int) < ((NN : Nat) : Int)
      · -- yes
        refine tp rfl (lv_lss rfl rfl (decide_eq_true h13)) ?_
        refine tp rfl (lv_move rfl) ?_
        refine t_guard rfl rfl ?_
        refine tp rfl (lv_move rfl) ?_
        refine t_guard rfl rfl ?_
        by_cases h14 : ((x : Nat) : Int) < 64
        · -- yes
         refine tp rfl (lv_lss rfl rfl (decide_eq_true h14)) ?_
         refine tp rfl (lv_pick_t rfl rfl) ?_
         refine tp rfl (lv_move rfl) ?_
         refine t_guard rfl rfl ?_
         refine tp rfl (lv_move rfl) ?_
         refine tp rfl (lv_pick_t rfl rfl) ?_
         refine t_done ?_
         refine q_then_n (hK20 _ _ ?_)
         refine c_false rfl ?_
         refine c_exit ?_
         refine q_then_x ?_
         refine q_then_x ?_
         refine q_in_x ?_
         refine q_then_n (hK16 _ _ ?_)
         refine c_seq (fun K21 hK21 => ?_)
         refine c_region ?_
         refine tp rfl (lv_move rfl) ?_
         refine tp rfl (lv_assign rfl) ?_
         refine t_done ?_
         refine q_then_n (hK21 _ _ ?_)
         refine c_ret ?_
         refine t_drop ?_
         refine t_drop ?_
         refine t_drop ?_
         refine t_drop ?_
         refine q_ret rfl rfl ?_
         exact ⟨rfl, rfl⟩
        · -- no
         refine tp rfl (lv_lss rfl rfl (decide_eq_false h14)) ?_
         refine tp rfl (lv_pick_t rfl rfl) ?_
         refine tp rfl (lv_move rfl) ?_
         refine t_skip rfl rfl rfl ?_
         refine tp rfl (lv_pick_f rfl rfl) ?_
         refine t_done ?_
         refine q_then_n (hK20 _ _ ?_)
         refine c_false rfl ?_
         refine c_exit ?_
         refine q_then_x ?_
         refine q_then_x ?_
         refine q_in_x ?_
         refine q_then_n (hK16 _ _ ?_)
         refine c_seq (fun K21 hK21 => ?_)
         refine c_region ?_
         refine tp rfl (lv_move rfl) ?_
         refine tp rfl (lv_assign rfl) ?_
         refine t_done ?_
         refine q_then_n (hK21 _ _ ?_)
         refine c_ret ?_
         refine t_drop ?_
         refine t_drop ?_
         refine t_drop ?_
         refine t_drop ?_
         refine q_ret rfl rfl ?_
         exact ⟨rfl, rfl⟩
      · -- no
        refine tp rfl (lv_lss rfl rfl (decide_eq_false h13)) ?_
        refine tp rfl (lv_move rfl) ?_
        refine t_skip rfl rfl rfl ?_
        refine t_skip rfl rfl rfl ?_
        refine tp rfl (lv_pick_f rfl rfl) ?_
        refine tp rfl (lv_move rfl) ?_
        refine t_skip rfl rfl rfl ?_
        refine tp rfl (lv_pick_f rfl rfl) ?_
        refine t_done ?_
        refine q_then_n (hK20 _ _ ?_)
        refine c_false rfl ?_
        refine c_exit ?_
        refine q_then_x ?_
        refine q_then_x ?_
        refine q_in_x ?_
        refine q_then_n (hK16 _ _ ?_)
        refine c_seq (fun K21 hK21 => ?_)
        refine c_region ?_
        refine tp rfl (lv_move rfl) ?_
        refine tp rfl (lv_assign rfl) ?_
        refine t_done ?_
        refine q_then_n (hK21 _ _ ?_)
        refine c_ret ?_
        refine t_drop ?_
        refine t_drop ?_
        refine t_drop ?_
        refine t_drop ?_
        refine q_ret rfl rfl ?_
        exact ⟨rfl, rfl⟩
  · -- true
    refine t_guard rfl rfl ?_
    refine tp rfl (lv_move rfl) ?_
    refine t_guard rfl rfl ?_
    refine tp rfl (lv_len Tryd.underlying33 rfl rfl) ?_
    refine t_guard rfl rfl ?_
    refine tp rfl (lv_move rfl) ?_
    refine t_guard rfl rfl ?_
    refine t_f1 ?_
    refine tc rfl (en_fn Tryd.call21 rfl) (n_ok) ?_
    rintro _ _ ⟨rfl, rfl⟩
    refine t_guard rfl rfl ?_
    refine tp rfl (lv_neq rfl rfl (bne_eq_false_iff_eq.2 (by have := hot ‹_›; omega))) ?_
    refine t_guard rfl rfl ?_
    refine tp rfl (lv_pick_t rfl rfl) ?_
    refine tp rfl (lv_pick_f rfl rfl) ?_
    refine tp rfl (lv_move rfl) ?_
    refine t_guard rfl rfl ?_
    refine tp rfl (lv_move rfl) ?_
    refine t_guard rfl rfl ?_
    refine tp rfl (lv_not (c := false) rfl rfl) ?_
    refine t_guard rfl rfl ?_
    refine tp rfl (lv_move rfl) ?_
    refine t_skip rfl rfl rfl ?_
    refine t_skip rfl rfl rfl ?_
    refine t_skip rfl rfl rfl ?_
    refine t_guard rfl rfl ?_
    refine tp rfl (lv_pick_f rfl rfl) ?_
    refine tp rfl (lv_pick_f rfl rfl) ?_
    refine t_done ?_
    refine q_then_n (hK9 _ _ ?_)
    refine c_false rfl ?_
    refine c_skip ?_
    refine q_then_n (hK8 _ _ ?_)
    refine c_seq (fun K10 hK10 => ?_)
    refine c_region ?_
    refine tp rfl (lv_buildArr0 (cs := (ints .i64 (List.replicate 64 0))) Tryd.underlying44 Tryd.zeroValue44 Tryd.sizeOf3 rfl) ?_
    refine tm rfl (mv_alloc (cs := (ints .i64 (List.replicate 64 0))) Tryd.zeroValue44 rfl) ?_
    rintro _ _ ⟨b15, rfl, rfl⟩
    refine ts (sv_blkAgg (news := (ints .i64 (List.replicate 64 0))) (cs' := (ints .i64 (List.replicate 64 0))) Tryd.sizeOf44 rfl rfl rfl (by decide) (by decide) rfl) ?_
    refine t_done ?_
    refine q_then_n (hK10 _ _ ?_)
    refine c_seq (fun K11 hK11 => ?_)
    refine c_seq (fun K12 hK12 => ?_)
    refine c_region ?_
    refine tp rfl (lv_assign rfl) ?_
    refine t_done ?_
    refine q_then_n (hK12 _ _ ?_)
    refine c_block ?_
    refine c_loop (γ := (Nat) × (List Int)) (fun (i, pl) => i ≤ (ordR NN EE).length ∧ PlN (ordR NN EE) i pl) (fun (i, pl) => [(0, (.int .i64 n)), (1, (.slice beb es.length ceb)), (5, (.bool true)), (6, (.pointer (some ⟨p1, 0, none⟩))), (7, (.slice bs2 ((ordR NN EE).length) cp3)), (8, (.bool true)), (9, (.slice bs6 ((onL NN EE).length) cp7)), (10, (.pointer (some ⟨b15, 0, none⟩))), (11, (.int .i64 ((i : Nat) : Int))), (20, (.bool false)), (51, (.bool false))]) (fun (i, pl) => (Blk b15 (ints .i64 pl) 44) :: (GraphO p1 NN EE) :: (SlV 3 1 (.slice bs6 ((onL NN EE).length) cp7) ((onL NN EE).length) (ints .i64 (onL NN EE))) :: (SlV 3 1 (.slice bs2 ((ordR NN EE).length) cp3) ((ordR NN EE).length) (ints .i64 (ordR NN EE))) :: R) (fun (i, pl) => (ordR NN EE).length - i) (0, List.replicate 64 0) ⟨by omega, PlN.zero _⟩ ⟨rfl, rfl, rfl, rfl, rfl, rfl, rfl, rfl, rfl, rfl, rfl, trivial⟩ (fun _ h => h) ?_
    rintro ⟨i, pl⟩ K13 hF hK13
    try dsimp only at hF hK13 ⊢
    obtain ⟨hi, hpl⟩ := hF
    have hpll := hpl.len
    have hoi : i < (ordR NN EE).length → 0 ≤ (ordR NN EE).getD i 0 ∧ (ordR NN EE).getD i 0 < NN := fun h => ord_at hord h
    refine c_seq (fun K14 hK14 => ?_)
    refine c_seq (fun K15 hK15 => ?_)
    refine c_region ?_
    refine tp rfl (lv_move rfl) ?_
    refine tp rfl (lv_move rfl) ?_
    refine tp rfl (lv_len Tryd.underlying33 rfl rfl) ?_
    by_cases h16 : ((i : Nat) : Int) < (((ordR NN EE).length : Nat) : Int)
    · -- yes
      refine tp rfl (lv_lss rfl rfl (decide_eq_true h16)) ?_
      refine t_done ?_
      refine q_then_n (hK15 _ _ ?_)
      refine c_true rfl ?_
      refine c_skip ?_
      refine q_then_n (hK14 _ _ ?_)
      refine c_seq (fun K16 hK16 => ?_)
      refine c_block ?_
      refine c_seq (fun K17 hK17 => ?_)
      refine c_seq (fun K18 hK18 => ?_)
      refine c_region ?_
      refine tp rfl (lv_move rfl) ?_
      refine tp rfl (lv_move rfl) ?_
      refine tp rfl (lv_indexAddr (k' := i) Tryd.underlying33 Tryd.sizeOf3 rfl rfl hok4 (by omega) (by omega) (by omega)) ?_
      refine tp rfl (lv_load Tryd.isAgg3 rfl (gives_sl (.tail _ (.tail _ (.tail _ (.head _)))) (ints_get (by omega)))) ?_
      refine tp rfl (lv_lss rfl rfl (decide_eq_false (by have := hoi (by omega); omega))) ?_
      refine tp rfl (lv_move rfl) ?_
      refine t_guard rfl rfl ?_
      refine tp rfl (lv_move rfl) ?_
      refine t_guard rfl rfl ?_
      refine tp rfl (lv_move rfl) ?_
      refine t_guard rfl rfl ?_
      refine tp rfl (lv_indexAddr (k' := i) Tryd.underlying33 Tryd.sizeOf3 rfl rfl hok4 (by omega) (by omega) (by omega)) ?_
      refine t_guard rfl rfl ?_
      refine tp rfl (lv_load Tryd.isAgg3 rfl (gives_sl (.tail _ (.tail _ (.tail _ (.head _)))) (ints_get (by omega)))) ?_
      refine t_guard rfl rfl ?_
      refine tp rfl (lv_geq rfl rfl (decide_eq_false (by have := hoi (by omega); omega))) ?_
      refine tp rfl (lv_pick_f rfl rfl) ?_
      refine tp rfl (lv_move rfl) ?_
      refine t_guard rfl rfl ?_
      refine tp rfl (lv_move rfl) ?_
      refine t_guard rfl rfl ?_
      refine tp rfl (lv_move rfl) ?_
      refine t_guard rfl rfl ?_
      refine tp rfl (lv_indexAddr (k' := i) Tryd.underlying33 Tryd.sizeOf3 rfl rfl hok4 (by omega) (by omega) (by omega)) ?_
      refine t_guard rfl rfl ?_
      refine tp rfl (lv_load Tryd.isAgg3 rfl (gives_sl (.tail _ (.tail _ (.tail _ (.head _)))) (ints_get (by omega)))) ?_
      refine t_guard rfl rfl ?_
      refine tp rfl (lv_indexArr (k' := ((ordR NN EE).getD i 0).toNat) Tryd.underlying44 Tryd.sizeOf3 rfl rfl (by have := hoi (by omega); omega) (by have := hoi (by omega); omega) (by have := hoi (by omega); omega)) ?_
      refine t_guard rfl rfl ?_
      refine tp rfl (lv_load Tryd.isAgg3 rfl (gives_blk (.head _) (ints_get (by have := hoi (by omega); omega)))) ?_
      refine t_guard rfl rfl ?_
      refine tp rfl (lv_neq rfl rfl (bne_eq_false_iff_eq.2 (hpl.free hord hcn (by omega)))) ?_
      refine tp rfl (lv_pick_f rfl rfl) ?_
      refine t_done ?_
      refine q_then_n (hK18 _ _ ?_)
      refine c_false rfl ?_
      refine c_skip ?_
      refine q_then_n (hK17 _ _ ?_)
      refine c_region ?_
      refine tp rfl (lv_move rfl) ?_
      refine tp rfl (lv_move rfl) ?_
      refine tp rfl (lv_indexAddr (k' := i) Tryd.underlying33 Tryd.sizeOf3 rfl rfl hok4 (by omega) (by omega) (by omega)) ?_
      refine tp rfl (lv_load Tryd.isAgg3 rfl (gives_sl (.tail _ (.tail _ (.tail _ (.head _)))) (ints_get (by omega)))) ?_
      refine tp rfl (lv_move rfl) ?_
      refine tp rfl (lv_add (c := ((i : Nat) : Int) + 1) rfl rfl (wr_i64 (by omega) (by omega))) ?_
      refine tp rfl (lv_indexArr (k' := ((ordR NN EE).getD i 0).toNat) Tryd.underlying44 Tryd.sizeOf3 rfl rfl (by have := hoi (by omega); omega) (by have := hoi (by omega); omega) (by have := hoi (by omega); omega)) ?_
      refine ts (sv_blk Tryd.sizeOf3 rfl rfl rfl (by rw [ints_length]; have := hoi (by omega); omega) ints_set) ?_
      refine t_done ?_
      refine q_in_n ?_
      refine q_then_n (hK16 _ _ ?_)
      refine c_region ?_
      refine tp rfl (lv_move rfl) ?_
      refine tp rfl (lv_add (c := ((i + 1 : Nat) : Int)) rfl rfl (wr_i64_succ (by omega))) ?_
      refine tp rfl (lv_assign rfl) ?_
      refine t_done ?_
      refine q_then_n ?_
      exact t_weak (by exact ⟨rfl, rfl, rfl, rfl, rfl, rfl, rfl, rfl, rfl, rfl, rfl, trivial⟩) ((hK13 (i + 1, pl.set ((ordR NN EE).getD i 0).toNat (((i : Nat) : Int) + 1)) ⟨by omega, hpl.next hord hcn (by omega)⟩ (by dsimp only; omega)))
    · -- no
      refine tp rfl (lv_lss rfl rfl (decide_eq_false h16)) ?_
      refine t_done ?_
      refine q_then_n (hK15 _ _ ?_)
      refine c_false rfl ?_
      refine c_exit ?_
      refine q_then_x ?_
      refine q_then_x ?_
      refine q_in_x ?_
      refine q_then_n (hK11 _ _ ?_)
      refine c_seq (fun K16 hK16 => ?_)
      refine c_seq (fun K17 hK17 => ?_)
      refine c_region ?_
      refine tp rfl (lv_assign rfl) ?_
      refine t_done ?_
      refine q_then_n (hK17 _ _ ?_)
      refine c_block ?_
      refine c_loop (γ := (Nat)) (fun (x : Nat) => x ≤ NN) (fun (x : Nat) => [(0, (.int .i64 n)), (1, (.slice beb es.length ceb)), (5, (.bool true)), (6, (.pointer (some ⟨p1, 0, none⟩))), (7, (.slice bs2 ((ordR NN EE).length) cp3)), (8, (.bool true)), (9, (.slice bs6 ((onL NN EE).length) cp7)), (10, (.pointer (some ⟨b15, 0, none⟩))), (11, (.int .i64 ((i : Nat) : Int))), (12, (.int .i64 ((x : Nat) : Int))), (20, (.bool false)), (51, (.bool false)), (56, (.bool false))]) (fun (x : Nat) => (Blk b15 (ints .i64 pl) 44) :: (GraphO p1 NN EE) :: (SlV 3 1 (.slice bs6 ((onL NN EE).length) cp7) ((onL NN EE).length) (ints .i64 (onL NN EE))) :: (SlV 3 1 (.slice bs2 ((ordR NN EE).length) cp3) ((ordR NN EE).length) (ints .i64 (ordR NN EE))) :: R) (fun (x : Nat) => NN - x) (0) (by omega) ⟨rfl, rfl, rfl, rfl, rfl, rfl, rfl, rfl, rfl, rfl, rfl, rfl, rfl, trivial⟩ (fun _ h => h) ?_
      rintro x K18 hF hK18
      try dsimp only at hF hK18 ⊢
      refine c_seq (fun K19 hK19 => ?_)
      refine c_seq (fun K20 hK20 => ?_)
      refine c_region ?_
      by_cases hc17 : ((x : Nat) : Int) < ((NN : Nat) : Int) ∧ ((x : Nat) : Int) < 64
      · -- both
        have hc17a := hc17.1
        have hc17b := hc17.2
        refine tp rfl (lv_move rfl) ?_
        refine tp rfl (lv_move rfl) ?_
        refine t_f1 ?_
        refine tc rfl (en_fn Tryd.call21 rfl) (n_ok) ?_
        rintro _ _ ⟨rfl, rfl⟩
        refine tp rfl (lv_lss rfl rfl (decide_eq_true hc17.1)) ?_
        refine tp rfl (lv_move rfl) ?_
        refine t_guard rfl rfl ?_
        refine tp rfl (lv_move rfl) ?_
        refine t_guard rfl rfl ?_
        refine tp rfl (lv_lss rfl rfl (decide_eq_true hc17.2)) ?_
        refine tp rfl (lv_pick_t rfl rfl) ?_
        refine tp rfl (lv_move rfl) ?_
        refine t_guard rfl rfl ?_
        refine tp rfl (lv_move rfl) ?_
        refine tp rfl (lv_pick_t rfl rfl) ?_
        refine t_done ?_
        refine q_then_n (hK20 _ _ ?_)
        refine c_true rfl ?_
        refine c_skip ?_
        refine q_then_n (hK19 _ _ ?_)
        refine c_seq (fun K21 hK21 => ?_)
        refine c_block ?_
        refine c_seq (fun K22 hK22 => ?_)
        refine c_region ?_
        refine tp rfl (lv_move rfl) ?_
        refine tp rfl (lv_move rfl) ?_
        refine tc rfl (en_fn Tryd.call22 rfl) (out_ok (N := NN) (es := EE) ((x : Nat) : Int)) ?_
        rintro _ _ ⟨bs18, cp19, hok20, hle21, rfl, rfl⟩
        refine tp rfl (lv_assign rfl) ?_
        refine t_done ?_
        refine q_then_n (hK22 _ _ ?_)
        refine c_seq (fun K23 hK23 => ?_)
        refine c_region ?_
        refine tp rfl (lv_assign rfl) ?_
        refine t_done ?_
        refine q_then_n (hK23 _ _ ?_)
        refine c_block ?_
        refine c_loop (γ := (Nat)) (fun (j : Nat) => j ≤ (outs EE ((x : Nat) : Int)).length) (fun (j : Nat) => [(0, (.int .i64 n)), (1, (.slice beb es.length ceb)), (5, (.bool true)), (6, (.pointer (some ⟨p1, 0, none⟩))), (7, (.slice bs2 ((ordR NN EE).length) cp3)), (8, (.bool true)), (9, (.slice bs6 ((onL NN EE).length) cp7)), (10, (.pointer (some ⟨b15, 0, none⟩))), (11, (.int .i64 ((i : Nat) : Int))), (12, (.int .i64 ((x : Nat) : Int))), (13, (.slice bs18 ((outs EE ((x : Nat) : Int)).length) cp19)), (14, (.int .i64 ((j : Nat) : Int))), (20, (.bool false)), (51, (.bool false)), (56, (.bool false)), (97, (.bool true))]) (fun (j : Nat) => (SlV 3 1 (.slice bs18 ((outs EE ((x : Nat) : Int)).length) cp19) ((outs EE ((x : Nat) : Int)).length) (ints .i64 (outs EE ((x : Nat) : Int)))) :: (GraphO p1 NN EE) :: (Blk b15 (ints .i64 pl) 44) :: (SlV 3 1 (.slice bs6 ((onL NN EE).length) cp7) ((onL NN EE).length) (ints .i64 (onL NN EE))) :: (SlV 3 1 (.slice bs2 ((ordR NN EE).length) cp3) ((ordR NN EE).length) (ints .i64 (ordR NN EE))) :: R) (fun (j : Nat) => (outs EE ((x : Nat) : Int)).length - j) (0) (by omega) ⟨rfl, rfl, rfl, rfl, rfl, rfl, rfl, rfl, rfl, rfl, rfl, rfl, rfl, rfl, rfl, rfl, trivial⟩ (fun _ h => h) ?_
        rintro j K24 hF hK24
        try dsimp only at hF hK24 ⊢
        have hoo := hgk.outs_le ((x : Nat) : Int)
        have hob : j < (outs EE ((x : Nat) : Int)).length → 0 ≤ (outs EE ((x : Nat) : Int)).getD j 0 ∧ (outs EE ((x : Nat) : Int)).getD j 0 < NN := fun h => hgk.outs_inn (getD_mem0 h)
        refine c_seq (fun K25 hK25 => ?_)
        refine c_seq (fun K26 hK26 => ?_)
        refine c_region ?_
        refine tp rfl (lv_move rfl) ?_
        refine tp rfl (lv_move rfl) ?_
        refine tp rfl (lv_len Tryd.underlying33 rfl rfl) ?_
        by_cases h22 : ((j : Nat) : Int) < (((outs EE ((x : Nat) : Int)).length : Nat) : Int)
        · -- yes
         refine tp rfl (lv_lss rfl rfl (decide_eq_true h22)) ?_
         refine t_done ?_
         refine q_then_n (hK26 _ _ ?_)
         refine c_true rfl ?_
         refine c_skip ?_
         refine q_then_n (hK25 _ _ ?_)
         refine c_seq (fun K27 hK27 => ?_)
         refine c_block ?_
         refine c_seq (fun K28 hK28 => ?_)
         refine c_draw (γ := Unit) (n := 24) Tryd.mixed rfl rfl (fun _ S => True) (fun _ => [(0, 109, (.slice bs18 ((outs EE ((x : Nat) : Int)).length) cp19)), (1, 110, (.int .i64 ((j : Nat) : Int))), (2, 111, (.pointer (some (ad bs18 j)))), (3, 112, (.int .i64 ((outs EE ((x : Nat) : Int)).getD j 0))), (4, 113, (.bool false)), (5, 114, (.bool false)), (6, 115, (.slice bs18 ((outs EE ((x : Nat) : Int)).length) cp19)), (7, 116, (.int .i64 ((j : Nat) : Int))), (8, 117, (.pointer (some (ad bs18 j)))), (9, 118, (.int .i64 ((outs EE ((x : Nat) : Int)).getD j 0))), (10, 119, (.bool false)), (11, 120, (.bool false)), (12, 121, (.bool false)), (13, 122, (.slice bs18 ((outs EE ((x : Nat) : Int)).length) cp19)), (14, 123, (.int .i64 ((j : Nat) : Int))), (15, 124, (.pointer (some (ad bs18 j)))), (16, 125, (.int .i64 ((outs EE ((x : Nat) : Int)).getD j 0))), (17, 126, (.pointer (some ⟨b15, ((outs EE ((x : Nat) : Int)).getD j 0).toNat, none⟩))), (18, 127, (.int .i64 ((pl).getD (((outs EE ((x : Nat) : Int)).getD j 0).toNat) 0))), (19, 128, (.int .i64 ((x : Nat) : Int))), (20, 129, (.pointer (some ⟨b15, x, none⟩))), (21, 130, (.int .i64 ((pl).getD x 0))), (22, 131, (.bool false)), (23, 132, (.bool false))]) (fun _ S => (SlV 3 1 (.slice bs18 ((outs EE ((x : Nat) : Int)).length) cp19) ((outs EE ((x : Nat) : Int)).length) (ints .i64 (outs EE ((x : Nat) : Int)))) :: (GraphO p1 NN EE) :: (Blk b15 (ints .i64 pl) 44) :: (SlV 3 1 (.slice bs6 ((onL NN EE).length) cp7) ((onL NN EE).length) (ints .i64 (onL NN EE))) :: (SlV 3 1 (.slice bs2 ((ordR NN EE).length) cp3) ((ordR NN EE).length) (ints .i64 (ordR NN EE))) :: R) (()) trivial (fun _ h => h) (fun _ _ h => h) ?_ ?_
         · -- steps
          refine ⟨?_, ?_, ?_, ?_, ?_, ?_, ?_, ?_, ?_, ?_, ?_, ?_, ?_, ?_, ?_, ?_, ?_, ?_, ?_, ?_, ?_, ?_, ?_, ?_, trivial⟩
          · -- 0
           rintro _ S hF hS D hp K hK
           try dsimp only at hF ⊢
           refine d_need (small := [(13, (.slice bs18 ((outs EE ((x : Nat) : Int)).length) cp19))]) ⟨look_b rfl rfl, trivial⟩ ?_
           refine tp rfl (lv_move rfl) ?_
           exact d_closes ⟨look_b rfl rfl, trivial⟩ 0 rfl rfl rfl hS (AgreeR.refl _) (t_sat (fun _ h => h) (hK () trivial))
          · -- 1
           rintro _ S hF hS D hp K hK
           try dsimp only at hF ⊢
           refine d_need (small := [(14, (.int .i64 ((j : Nat) : Int)))]) ⟨look_b rfl rfl, trivial⟩ ?_
           refine tp rfl (lv_move rfl) ?_
           exact d_closes ⟨look_b rfl rfl, trivial⟩ 1 rfl rfl rfl hS (AgreeR.refl _) (t_sat (fun _ h => h) (hK () trivial))
          · -- 2
           rintro _ S hF hS D hp K hK
           try dsimp only at hF ⊢
           have s0 := hp 0 rfl
           have s1 := hp 1 rfl
           refine d_need (small := [(109, (.slice bs18 ((outs EE ((x : Nat) : Int)).length) cp19)), (110, (.int .i64 ((j : Nat) : Int)))]) ⟨look_row rfl 0 rfl s0, look_row rfl 1 rfl s1, trivial⟩ ?_
           refine tp rfl (lv_indexAddr (k' := j) Tryd.underlying33 Tryd.sizeOf3 rfl rfl hok20 (by omega) (by omega) (by omega)) ?_
           exact d_closes ⟨look_row rfl 0 rfl s0, look_row rfl 1 rfl s1, trivial⟩ 2 rfl rfl rfl hS (AgreeR.refl _) (t_sat (fun _ h => h) (hK () trivial))
          · -- 3
           rintro _ S hF hS D hp K hK
           try dsimp only at hF ⊢
           have s2 := hp 2 rfl
           refine d_need (small := [(111, (.pointer (some (ad bs18 j))))]) ⟨look_row rfl 2 rfl s2, trivial⟩ ?_
           refine tp rfl (lv_load Tryd.isAgg3 rfl (gives_sl (.head _) (ints_get (by omega)))) ?_
           exact d_closes ⟨look_row rfl 2 rfl s2, trivial⟩ 3 rfl rfl rfl hS (AgreeR.refl _) (t_sat (fun _ h => h) (hK () trivial))
          · -- 4
           rintro _ S hF hS D hp K hK
           try dsimp only at hF ⊢
           have s3 := hp 3 rfl
           refine d_need (small := [(112, (.int .i64 ((outs EE ((x : Nat) : Int)).getD j 0)))]) ⟨look_row rfl 3 rfl s3, trivial⟩ ?_
           refine tp rfl (lv_lss rfl rfl (decide_eq_false (by have := hob (by omega); omega))) ?_
           exact d_closes ⟨look_row rfl 3 rfl s3, trivial⟩ 4 rfl rfl rfl hS (AgreeR.refl _) (t_sat (fun _ h => h) (hK () trivial))
          · -- 5
           rintro _ S hF hS D hp K hK
           try dsimp only at hF ⊢
           have s4 := hp 4 rfl
           refine d_need (small := [(113, (.bool false))]) ⟨look_row rfl 4 rfl s4, trivial⟩ ?_
           refine tp rfl (lv_move rfl) ?_
           exact d_closes ⟨look_row rfl 4 rfl s4, trivial⟩ 5 rfl rfl rfl hS (AgreeR.refl _) (t_sat (fun _ h => h) (hK () trivial))
          · -- 6
           rintro _ S hF hS D hp K hK
           try dsimp only at hF ⊢
           have s5 := hp 5 rfl
           refine d_need (small := [(13, (.slice bs18 ((outs EE ((x : Nat) : Int)).length) cp19)), (114, (.bool false))]) ⟨look_b rfl rfl, look_row rfl 5 rfl s5, trivial⟩ ?_
           refine t_guard rfl rfl ?_
           refine tp rfl (lv_move rfl) ?_
           exact d_closes ⟨look_b rfl rfl, look_row rfl 5 rfl s5, trivial⟩ 6 rfl rfl rfl hS (AgreeR.refl _) (t_sat (fun _ h => h) (hK () trivial))
          · -- 7
           rintro _ S hF hS D hp K hK
           try dsimp only at hF ⊢
           have s5 := hp 5 rfl
           refine d_need (small := [(14, (.int .i64 ((j : Nat) : Int))), (114, (.bool false))]) ⟨look_b rfl rfl, look_row rfl 5 rfl s5, trivial⟩ ?_
           refine t_guard rfl rfl ?_
           refine tp rfl (lv_move rfl) ?_
           exact d_closes ⟨look_b rfl rfl, look_row rfl 5 rfl s5, trivial⟩ 7 rfl rfl rfl hS (AgreeR.refl _) (t_sat (fun _ h => h) (hK () trivial))
          · -- 8
           rintro _ S hF hS D hp K hK
           try dsimp only at hF ⊢
           have s5 := hp 5 rfl
           have s6 := hp 6 rfl
           have s7 := hp 7 rfl
           refine d_need (small := [(114, (.bool false)), (115, (.slice bs18 ((outs EE ((x : Nat) : Int)).length) cp19)), (116, (.int .i64 ((j : Nat) : Int)))]) ⟨look_row rfl 5 rfl s5, look_row rfl 6 rfl s6, look_row rfl 7 rfl s7, trivial⟩ ?_
           refine t_guard rfl rfl ?_
           refine tp rfl (lv_indexAddr (k' := j) Tryd.underlying33 Tryd.sizeOf3 rfl rfl hok20 (by omega) (by omega) (by omega)) ?_
           exact d_closes ⟨look_row rfl 5 rfl s5, look_row rfl 6 rfl s6, look_row rfl 7 rfl s7, trivial⟩ 8 rfl rfl rfl hS (AgreeR.refl _) (t_sat (fun _ h => h) (hK () trivial))
          · -- 9
           rintro _ S hF hS D hp K hK
           try dsimp only at hF ⊢
           have s5 := hp 5 rfl
           have s8 := hp 8 rfl
           refine d_need (small := [(114, (.bool false)), (117, (.pointer (some (ad bs18 j))))]) ⟨look_row rfl 5 rfl s5, look_row rfl 8 rfl s8, trivial⟩ ?_
           refine t_guard rfl rfl ?_
           refine tp rfl (lv_load Tryd.isAgg3 rfl (gives_sl (.head _) (ints_get (by omega)))) ?_
           exact d_closes ⟨look_row rfl 5 rfl s5, look_row rfl 8 rfl s8, trivial⟩ 9 rfl rfl rfl hS (AgreeR.refl _) (t_sat (fun _ h => h) (hK () trivial))
          · -- 10
           rintro _ S hF hS D hp K hK
           try dsimp only at hF ⊢
           have s5 := hp 5 rfl
           have s9 := hp 9 rfl
           refine d_need (small := [(114, (.bool false)), (118, (.int .i64 ((outs EE ((x : Nat) : Int)).getD j 0)))]) ⟨look_row rfl 5 rfl s5, look_row rfl 9 rfl s9, trivial⟩ ?_
           refine t_guard rfl rfl ?_
           refine tp rfl (lv_geq rfl rfl (decide_eq_false (by have := hob (by omega); omega))) ?_
           exact d_closes ⟨look_row rfl 5 rfl s5, look_row rfl 9 rfl s9, trivial⟩ 10 rfl rfl rfl hS (AgreeR.refl _) (t_sat (fun _ h => h) (hK () trivial))
          · -- 11
           rintro _ S hF hS D hp K hK
           try dsimp only at hF ⊢
           have s5 := hp 5 rfl
           have s10 := hp 10 rfl
           refine d_need (small := [(114, (.bool false)), (119, (.bool false))]) ⟨look_row rfl 5 rfl s5, look_row rfl 10 rfl s10, trivial⟩ ?_
           refine tp rfl (lv_pick_f rfl rfl) ?_
           exact d_closes ⟨look_row rfl 5 rfl s5, look_row rfl 10 rfl s10, trivial⟩ 11 rfl rfl rfl hS (AgreeR.refl _) (t_sat (fun _ h => h) (hK () trivial))
          · -- 12
           rintro _ S hF hS D hp K hK
           try dsimp only at hF ⊢
           have s11 := hp 11 rfl
           refine d_need (small := [(120, (.bool false))]) ⟨look_row rfl 11 rfl s11, trivial⟩ ?_
           refine tp rfl (lv_move rfl) ?_
           exact d_closes ⟨look_row rfl 11 rfl s11, trivial⟩ 12 rfl rfl rfl hS (AgreeR.refl _) (t_sat (fun _ h => h) (hK () trivial))
          · -- 13
           rintro _ S hF hS D hp K hK
           try dsimp only at hF ⊢
           have s12 := hp 12 rfl
           refine d_need (small := [(13, (.slice bs18 ((outs EE ((x : Nat) : Int)).length) cp19)), (121, (.bool false))]) ⟨look_b rfl rfl, look_row rfl 12 rfl s12, trivial⟩ ?_
           refine t_guard rfl rfl ?_
           refine tp rfl (lv_move rfl) ?_
           exact d_closes ⟨look_b rfl rfl, look_row rfl 12 rfl s12, trivial⟩ 13 rfl rfl rfl hS (AgreeR.refl _) (t_sat (fun _ h => h) (hK () trivial))
          · -- 14
           rintro _ S hF hS D hp K hK
           try dsimp only at hF ⊢
           have s12 := hp 12 rfl
           refine d_need (small := [(14, (.int .i64 ((j : Nat) : Int))), (121, (.bool false))]) ⟨look_b rfl rfl, look_row rfl 12 rfl s12, trivial⟩ ?_
           refine t_guard rfl rfl ?_
           refine tp rfl (lv_move rfl) ?_
           exact d_closes ⟨look_b rfl rfl, look_row rfl 12 rfl s12, trivial⟩ 14 rfl rfl rfl hS (AgreeR.refl _) (t_sat (fun _ h => h) (hK () trivial))
          · -- 15
           rintro _ S hF hS D hp K hK
           try dsimp only at hF ⊢
           have s12 := hp 12 rfl
           have s13 := hp 13 rfl
           have s14 := hp 14 rfl
           refine d_need (small := [(121, (.bool false)), (122, (.slice bs18 ((outs EE ((x : Nat) : Int)).length) cp19)), (123, (.int .i64 ((j : Nat) : Int)))]) ⟨look_row rfl 12 rfl s12, look_row rfl 13 rfl s13, look_row rfl 14 rfl s14, trivial⟩ ?_
           refine t_guard rfl rfl ?_
           refine tp rfl (lv_indexAddr (k' := j) Tryd.underlying33 Tryd.sizeOf3 rfl rfl hok20 (by omega) (by omega) (by omega)) ?_
           exact d_closes ⟨look_row rfl 12 rfl s12, look_row rfl 13 rfl s13, look_row rfl 14 rfl s14, trivial⟩ 15 rfl rfl rfl hS (AgreeR.refl _) (t_sat (fun _ h => h) (hK () trivial))
          · -- 16
           rintro _ S hF hS D hp K hK
           try dsimp only at hF ⊢
           have s12 := hp 12 rfl
           have s15 := hp 15 rfl
           refine d_need (small := [(121, (.bool false)), (124, (.pointer (some (ad bs18 j))))]) ⟨look_row rfl 12 rfl s12, look_row rfl 15 rfl s15, trivial⟩ ?_
           refine t_guard rfl rfl ?_
           refine tp rfl (lv_load Tryd.isAgg3 rfl (gives_sl (.head _) (ints_get (by omega)))) ?_
           exact d_closes ⟨look_row rfl 12 rfl s12, look_row rfl 15 rfl s15, trivial⟩ 16 rfl rfl rfl hS (AgreeR.refl _) (t_sat (fun _ h => h) (hK () trivial))
          · -- 17
           rintro _ S hF hS D hp K hK
           try dsimp only at hF ⊢
           have s12 := hp 12 rfl
           have s16 := hp 16 rfl
           refine d_need (small := [(10, (.pointer (some ⟨b15, 0, none⟩))), (121, (.bool false)), (125, (.int .i64 ((outs EE ((x : Nat) : Int)).getD j 0)))]) ⟨look_b rfl rfl, look_row rfl 12 rfl s12, look_row rfl 16 rfl s16, trivial⟩ ?_
           refine t_guard rfl rfl ?_
           refine tp rfl (lv_indexArr (k' := ((outs EE ((x : Nat) : Int)).getD j 0).toNat) Tryd.underlying44 Tryd.sizeOf3 rfl rfl (by have := hob (by omega); omega) (by have := hob (by omega); omega) (by have := hob (by omega); omega)) ?_
           exact d_closes ⟨look_b rfl rfl, look_row rfl 12 rfl s12, look_row rfl 16 rfl s16, trivial⟩ 17 rfl rfl rfl hS (AgreeR.refl _) (t_sat (fun _ h => h) (hK () trivial))
          · -- 18
           rintro _ S hF hS D hp K hK
           try dsimp only at hF ⊢
           have s12 := hp 12 rfl
           have s17 := hp 17 rfl
           refine d_need (small := [(121, (.bool false)), (126, (.pointer (some ⟨b15, ((outs EE ((x : Nat) : Int)).getD j 0).toNat, none⟩)))]) ⟨look_row rfl 12 rfl s12, look_row rfl 17 rfl s17, trivial⟩ ?_
           refine t_guard rfl rfl ?_
           refine tp rfl (lv_load Tryd.isAgg3 rfl (gives_blk (.tail _ (.tail _ (.head _))) (ints_get (by have := hob (by omega); omega)))) ?_
           exact d_closes ⟨look_row rfl 12 rfl s12, look_row rfl 17 rfl s17, trivial⟩ 18 rfl rfl rfl hS (AgreeR.refl _) (t_sat (fun _ h => h) (hK () trivial))
          · -- 19
           rintro _ S hF hS D hp K hK
           try dsimp only at hF ⊢
           have s12 := hp 12 rfl
           refine d_need (small := [(12, (.int .i64 ((x : Nat) : Int))), (121, (.bool false))]) ⟨look_b rfl rfl, look_row rfl 12 rfl s12, trivial⟩ ?_
           refine t_guard rfl rfl ?_
           refine tp rfl (lv_move rfl) ?_
           exact d_closes ⟨look_b rfl rfl, look_row rfl 12 rfl s12, trivial⟩ 19 rfl rfl rfl hS (AgreeR.refl _) (t_sat (fun _ h => h) (hK () trivial))
          · -- 20
           rintro _ S hF hS D hp K hK
           try dsimp only at hF ⊢
           have s12 := hp 12 rfl
           have s19 := hp 19 rfl
           refine d_need (small := [(10, (.pointer (some ⟨b15, 0, none⟩))), (121, (.bool false)), (128, (.int .i64 ((x : Nat) : Int)))]) ⟨look_b rfl rfl, look_row rfl 12 rfl s12, look_row rfl 19 rfl s19, trivial⟩ ?_
           refine t_guard rfl rfl ?_
           refine tp rfl (lv_indexArr (k' := x) Tryd.underlying44 Tryd.sizeOf3 rfl rfl (by omega) (by omega) (by omega)) ?_
           exact d_closes ⟨look_b rfl rfl, look_row rfl 12 rfl s12, look_row rfl 19 rfl s19, trivial⟩ 20 rfl rfl rfl hS (AgreeR.refl _) (t_sat (fun _ h => h) (hK () trivial))
          · -- 21
           rintro _ S hF hS D hp K hK
           try dsimp only at hF ⊢
           have s12 := hp 12 rfl
           have s20 := hp 20 rfl
           refine d_need (small := [(121, (.bool false)), (129, (.pointer (some ⟨b15, x, none⟩)))]) ⟨look_row rfl 12 rfl s12, look_row rfl 20 rfl s20, trivial⟩ ?_
           refine t_guard rfl rfl ?_
           refine tp rfl (lv_load Tryd.isAgg3 rfl (gives_blk (.tail _ (.tail _ (.head _))) (ints_get (by omega)))) ?_
           exact d_closes ⟨look_row rfl 12 rfl s12, look_row rfl 20 rfl s20, trivial⟩ 21 rfl rfl rfl hS (AgreeR.refl _) (t_sat (fun _ h => h) (hK () trivial))
          · -- 22
           rintro _ S hF hS D hp K hK
           try dsimp only at hF ⊢
           have s12 := hp 12 rfl
           have s18 := hp 18 rfl
           have s21 := hp 21 rfl
           refine d_need (small := [(121, (.bool false)), (127, (.int .i64 ((pl).getD (((outs EE ((x : Nat) : Int)).getD j 0).toNat) 0))), (130, (.int .i64 ((pl).getD x 0)))]) ⟨look_row rfl 12 rfl s12, look_row rfl 18 rfl s18, look_row rfl 21 rfl s21, trivial⟩ ?_
           refine t_guard rfl rfl ?_
           refine tp rfl (lv_geq rfl rfl (decide_eq_false (by have hoT := hot ‹_›; have hpi := hpl; rw [show i = (ordR NN EE).length by omega] at hpi; have := hpi.lt hord hcn hoT (show x < NN by omega) (getD_mem0 (show j < (outs EE ((x : Nat) : Int)).length by omega)); omega))) ?_
           exact d_closes ⟨look_row rfl 12 rfl s12, look_row rfl 18 rfl s18, look_row rfl 21 rfl s21, trivial⟩ 22 rfl rfl rfl hS (AgreeR.refl _) (t_sat (fun _ h => h) (hK () trivial))
          · -- 23
           rintro _ S hF hS D hp K hK
           try dsimp only at hF ⊢
           have s12 := hp 12 rfl
           have s22 := hp 22 rfl
           refine d_need (small := [(121, (.bool false)), (131, (.bool false))]) ⟨look_row rfl 12 rfl s12, look_row rfl 22 rfl s22, trivial⟩ ?_
           refine tp rfl (lv_pick_f rfl rfl) ?_
           exact d_closes ⟨look_row rfl 12 rfl s12, look_row rfl 22 rfl s22, trivial⟩ 23 rfl rfl rfl hS (AgreeR.refl _) (t_sat (fun _ h => h) (hK () trivial))
         · -- behind
          rintro _ hF
          try dsimp only at hF ⊢
          refine t_weak (E' := [(0, (.int .i64 n)), (1, (.slice beb es.length ceb)), (5, (.bool true)), (6, (.pointer (some ⟨p1, 0, none⟩))), (7, (.slice bs2 ((ordR NN EE).length) cp3)), (8, (.bool true)), (9, (.slice bs6 ((onL NN EE).length) cp7)), (10, (.pointer (some ⟨b15, 0, none⟩))), (11, (.int .i64 ((i : Nat) : Int))), (12, (.int .i64 ((x : Nat) : Int))), (13, (.slice bs18 ((outs EE ((x : Nat) : Int)).length) cp19)), (14, (.int .i64 ((j : Nat) : Int))), (20, (.bool false)), (51, (.bool false)), (56, (.bool false)), (97, (.bool true)), (106, (.bool true)), (132, (.bool false))]) ⟨rfl, rfl, rfl, rfl, rfl, rfl, rfl, rfl, rfl, rfl, rfl, rfl, rfl, rfl, rfl, rfl, rfl, rfl, trivial⟩ ?_
          refine q_then_n (hK28 _ _ ?_)
          refine c_false rfl ?_
          refine c_skip ?_
          refine q_in_n ?_
          refine q_then_n (hK27 _ _ ?_)
          refine c_region ?_
          refine tp rfl (lv_move rfl) ?_
          refine tp rfl (lv_add (c := ((j + 1 : Nat) : Int)) rfl rfl (wr_i64_succ (by omega))) ?_
          refine tp rfl (lv_assign rfl) ?_
          refine t_done ?_
          refine q_then_n ?_
          exact t_weak (by exact ⟨rfl, rfl, rfl, rfl, rfl, rfl, rfl, rfl, rfl, rfl, rfl, rfl, rfl, rfl, rfl, rfl, trivial⟩) ((hK24 (j + 1) (by omega) (by omega)))
        · -- no
         refine tp rfl (lv_lss rfl rfl (decide_eq_false h22)) ?_
         refine t_done ?_
         refine q_then_n (hK26 _ _ ?_)
         refine c_false rfl ?_
         refine c_exit ?_
         refine q_then_x ?_
         refine q_then_x ?_
         refine q_in_x ?_
         refine q_in_n ?_
         refine q_then_n (hK21 _ _ ?_)
         refine c_region ?_
         refine tp rfl (lv_move rfl) ?_
         refine tp rfl (lv_add (c := ((x + 1 : Nat) : Int)) rfl rfl (wr_i64_succ (by omega))) ?_
         refine tp rfl (lv_assign rfl) ?_
         refine t_done ?_
         refine q_then_n ?_
         refine t_drop ?_
         refine t_f1 ?_
         exact t_weak (by exact ⟨rfl, rfl, rfl, rfl, rfl, rfl, rfl, rfl, rfl, rfl, rfl, rfl, rfl, trivial⟩) ((hK18 (x + 1) (by omega) (by omega)))
      · -- not both
        refine t_cut0 (E' := [(0, (.int .i64 n)), (1, (.slice beb es.length ceb)), (5, (.bool true)), (6, (.pointer (some ⟨p1, 0, none⟩))), (7, (.slice bs2 ((ordR NN EE).length) cp3)), (8, (.bool true)), (9, (.slice bs6 ((onL NN EE).length) cp7)), (10, (.pointer (some ⟨b15, 0, none⟩))), (11, (.int .i64 ((i : Nat) : Int))), (12, (.int .i64 ((x : Nat) : Int))), (20, (.bool false)), (51, (.bool false)), (56, (.bool false)), (97, (.bool false))]) ?_ (fun KK hKK => ?_)
        ·
         refine q_then_n (hK20 _ _ ?_)
         refine c_false rfl ?_
         refine c_exit ?_
         refine q_then_x ?_
         refine q_then_x ?_
         refine q_in_x ?_
         refine q_then_n (hK16 _ _ ?_)
         refine c_seq (fun K21 hK21 => ?_)
         refine c_region ?_
         refine tp rfl (lv_move rfl) ?_
         refine tp rfl (lv_assign rfl) ?_
         refine t_done ?_
         refine q_then_n (hK21 _ _ ?_)
         refine c_ret ?_
         refine t_drop ?_
         refine t_drop ?_
         refine t_drop ?_
         refine t_drop ?_
         refine q_ret rfl rfl ?_
         exact ⟨rfl, rfl⟩
        · -- which
         by_cases hc17A : ((x : Nat) : Int) < ((NN : Nat) : Int)
         ·
          have hc17B : ¬ (((x : Nat) : Int) < 64) := fun hh => hc17 ⟨hc17A, hh⟩
          refine tp rfl (lv_move rfl) ?_
          refine tp rfl (lv_move rfl) ?_
          refine t_f1 ?_
          refine tc rfl (en_fn Tryd.call21 rfl) (n_ok) ?_
          rintro _ _ ⟨rfl, rfl⟩
          refine tp rfl (lv_lss rfl rfl (decide_eq_true hc17A)) ?_
          refine tp rfl (lv_move rfl) ?_
          refine t_guard rfl rfl ?_
          refine tp rfl (lv_move rfl) ?_
          refine t_guard rfl rfl ?_
          refine tp rfl (lv_lss rfl rfl (decide_eq_false hc17B)) ?_
          refine tp rfl (lv_pick_t rfl rfl) ?_
          refine tp rfl (lv_move rfl) ?_
          refine t_skip rfl rfl rfl ?_
          refine tp rfl (lv_pick_f rfl rfl) ?_
          refine t_f1 ?_
          exact t_done (t_weak (by exact ⟨rfl, rfl, rfl, rfl, rfl, rfl, rfl, rfl, rfl, rfl, rfl, rfl, rfl, rfl, trivial⟩) hKK)
         ·
          refine tp rfl (lv_move rfl) ?_
          refine tp rfl (lv_move rfl) ?_
          refine t_f1 ?_
          refine tc rfl (en_fn Tryd.call21 rfl) (n_ok) ?_
          rintro _ _ ⟨rfl, rfl⟩
          refine tp rfl (lv_lss rfl rfl (decide_eq_false hc17A)) ?_
          refine tp rfl (lv_move rfl) ?_
          refine t_skip rfl rfl rfl ?_
          refine t_skip rfl rfl rfl ?_
          refine tp rfl (lv_pick_f rfl rfl) ?_
          refine tp rfl (lv_move rfl) ?_
          refine t_skip rfl rfl rfl ?_
          refine tp rfl (lv_pick_f rfl rfl) ?_
          refine t_f1 ?_
          exact t_done (t_weak (by exact ⟨rfl, rfl, rfl, rfl, rfl, rfl, rfl, rfl, rfl, rfl, rfl, rfl, rfl, rfl, trivial⟩) hKK)
end Go.Proofs.YtppgccafgfpkdaaDoor
