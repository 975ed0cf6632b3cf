/- CycleClose: the law's walk. -/
import Derived.Test.YtppgccafgfpkdaaDoorLa
set_option maxRecDepth 100000
set_option linter.unusedVariables false
set_option linter.unusedSimpArgs false
namespace Go.Proofs.YtppgccafgfpkdaaDoor
open Go Go.Proofs Sp
set_option maxHeartbeats 20000000 in
theorem close_law {R : List HP} (n : Int) {beb : Option Addr} {ceb : Nat} (es : List (Int × Int)) (heb : Rd R beb (pairs es)) (okeb : SlOk beb es.length) (leb : es.length ≤ 9223372036854775807) (lceb : es.length ≤ ceb) (a b : Int) (hT : Tab R) :
    Ok Tryd.prog 7 [(.int .i64 n), (.slice beb es.length ceb), (.int .i64 a), (.int .i64 b)] R
      (fun v M => v = .bool true ∧ M = R) := by
  have hgk : GOk (clampN (min n 30)) (madeE (clampN (min n 30)) (es.take 100)) := GOk.made (clampN_le _) _
  have hcn := clampN_le (min n 30)
  refine ok_of (N := 167) Tryd.func7 rfl rfl rfl (fun W => ?_)
  refine c_seq (fun K1 hK1 => ?_)
  refine c_region ?_
  refine tp rfl (lv_assign rfl) ?_
  refine t_done ?_
  refine q_then_n (hK1 _ _ ?_)
  refine c_seq (fun K2 hK2 => ?_)
  refine c_region ?_
  refine tc rfl (en_fn Tryd.call9 rfl) (shown_ok hT) ?_
  rintro _ _ ⟨rfl, hMR⟩
  rw [hMR]; clear hMR
  refine tp rfl (lv_assign rfl) ?_
  refine t_done ?_
  refine q_then_n (hK2 _ _ ?_)
  refine c_seq (fun K3 hK3 => ?_)
  refine c_region ?_
  refine tp rfl (lv_move rfl) ?_
  refine tp rfl (lv_move rfl) ?_
  refine tc rfl (en_fn Tryd.call10 rfl) (made_ok n es heb (fun hz => okeb (by first | exact hz | omega)) (by first | omega | decide)) ?_
  rintro _ _ ⟨p1, rfl, rfl⟩
  refine tp rfl (lv_assign rfl) ?_
  refine t_done ?_
  refine q_then_n (hK3 _ _ ?_)
  refine c_seq (fun K4 hK4 => ?_)
  refine c_seq (fun K5 hK5 => ?_)
  refine c_region ?_
  obtain ⟨EE, hEE⟩ : ∃ x, madeE (clampN (min n 30)) (es.take 100) = x := ⟨_, rfl⟩
  rw [hEE] at hgk ⊢
  obtain ⟨NN, hNN⟩ : ∃ x, clampN (min n 30) = x := ⟨_, rfl⟩
  rw [hNN] at hgk hcn ⊢
  refine tp rfl (lv_move rfl) ?_
  refine tp rfl (lv_eqnil Tryd.underlying24 rfl rfl) ?_
  refine tp rfl (lv_move rfl) ?_
  refine t_guard rfl rfl ?_
  refine tp rfl (lv_move rfl) ?_
  refine t_guard rfl rfl ?_
  by_cases h2 : a < 0
  · -- yes
    refine tp rfl (lv_lss rfl rfl (decide_eq_true h2)) ?_
    refine tp rfl (lv_pick_f rfl rfl) ?_
    refine tp rfl (lv_move rfl) ?_
    refine t_skip rfl rfl rfl ?_
    refine t_skip rfl rfl rfl ?_
    refine tp rfl (lv_pick_t rfl rfl) ?_
    refine tp rfl (lv_move rfl) ?_
    refine t_skip rfl rfl rfl ?_
    refine t_skip rfl rfl rfl ?_
    refine t_skip rfl rfl rfl ?_
    refine t_skip rfl rfl rfl ?_
    refine tp rfl (lv_pick_t rfl rfl) ?_
    refine tp rfl (lv_move rfl) ?_
    refine t_skip rfl rfl rfl ?_
    refine t_skip rfl rfl rfl ?_
    refine t_skip rfl rfl rfl ?_
    refine t_skip rfl rfl rfl ?_
    refine tp rfl (lv_pick_t rfl rfl) ?_
    refine t_done ?_
    refine q_then_n (hK5 _ _ ?_)
    refine c_true rfl ?_
    refine c_seq (fun K6 hK6 => ?_)
    refine c_region ?_
    refine tp rfl (lv_move rfl) ?_
    refine tp rfl (lv_move rfl) ?_
    refine t_guard rfl rfl ?_
    refine tp rfl (lv_move rfl) ?_
    refine t_guard rfl rfl ?_
    refine tp rfl (lv_nenil Tryd.underlying24 rfl rfl) ?_
    refine tp rfl (lv_pick_t rfl rfl) ?_
    refine tp rfl (lv_assign rfl) ?_
    refine t_done ?_
    refine q_then_n (hK6 _ _ ?_)
    refine c_ret ?_
    refine q_then_r ?_
    refine t_drop ?_
    refine q_ret rfl rfl ?_
    exact ⟨rfl, rfl⟩
  · -- no
    refine tp rfl (lv_lss rfl rfl (decide_eq_false h2)) ?_
    refine tp rfl (lv_pick_f rfl rfl) ?_
    refine tp rfl (lv_move rfl) ?_
    refine t_guard rfl rfl ?_
    refine tp rfl (lv_move rfl) ?_
    refine t_guard rfl rfl ?_
    by_cases h3 : b < 0
    · -- yes
      refine tp rfl (lv_lss rfl rfl (decide_eq_true h3)) ?_
      refine tp rfl (lv_pick_f rfl rfl) ?_
      refine tp rfl (lv_move rfl) ?_
      refine t_skip rfl rfl rfl ?_
      refine t_skip rfl rfl rfl ?_
      refine t_skip rfl rfl rfl ?_
      refine t_skip rfl rfl rfl ?_
      refine tp rfl (lv_pick_t rfl rfl) ?_
      refine tp rfl (lv_move rfl) ?_
      refine t_skip rfl rfl rfl ?_
      refine t_skip rfl rfl rfl ?_
      refine t_skip rfl rfl rfl ?_
      refine t_skip rfl rfl rfl ?_
      refine tp rfl (lv_pick_t rfl rfl) ?_
      refine t_done ?_
      refine q_then_n (hK5 _ _ ?_)
      refine c_true rfl ?_
      refine c_seq (fun K6 hK6 => ?_)
      refine c_region ?_
      refine tp rfl (lv_move rfl) ?_
      refine tp rfl (lv_move rfl) ?_
      refine t_guard rfl rfl ?_
      refine tp rfl (lv_move rfl) ?_
      refine t_guard rfl rfl ?_
      refine tp rfl (lv_nenil Tryd.underlying24 rfl rfl) ?_
      refine tp rfl (lv_pick_t rfl rfl) ?_
      refine tp rfl (lv_assign rfl) ?_
      refine t_done ?_
      refine q_then_n (hK6 _ _ ?_)
      refine c_ret ?_
      refine q_then_r ?_
      refine t_drop ?_
      refine q_ret rfl rfl ?_
      exact ⟨rfl, rfl⟩
    · -- no
      refine tp rfl (lv_lss rfl rfl (decide_eq_false h3)) ?_
      refine tp rfl (lv_pick_f rfl rfl) ?_
      refine tp rfl (lv_move rfl) ?_
      refine t_guard rfl rfl ?_
      refine tp rfl (lv_move rfl) ?_
      refine t_guard rfl rfl ?_
      refine tp rfl (lv_move rfl) ?_
      refine t_guard rfl rfl ?_
      refine tc rfl (en_fn Tryd.call21 rfl) (n_ok) ?_
      rintro _ _ ⟨rfl, rfl⟩
      refine t_guard rfl rfl ?_
      by_cases h4 : a ≥ ((NN : Nat) : Int)
      · -- yes
        refine tp rfl (lv_geq rfl rfl (decide_eq_true h4)) ?_
        refine tp rfl (lv_pick_f rfl rfl) ?_
        refine tp rfl (lv_move rfl) ?_
        refine t_skip rfl rfl rfl ?_
        refine t_skip rfl rfl rfl ?_
        refine t_skip rfl rfl rfl ?_
        refine t_skip rfl rfl rfl ?_
        refine tp rfl (lv_pick_t rfl rfl) ?_
        refine t_done ?_
        refine q_then_n (hK5 _ _ ?_)
        refine c_true rfl ?_
        refine c_seq (fun K6 hK6 => ?_)
        refine c_region ?_
        refine tp rfl (lv_move rfl) ?_
        refine tp rfl (lv_move rfl) ?_
        refine t_guard rfl rfl ?_
        refine tp rfl (lv_move rfl) ?_
        refine t_guard rfl rfl ?_
        refine tp rfl (lv_nenil Tryd.underlying24 rfl rfl) ?_
        refine tp rfl (lv_pick_t rfl rfl) ?_
        refine tp rfl (lv_assign rfl) ?_
        refine t_done ?_
        refine q_then_n (hK6 _ _ ?_)
        refine c_ret ?_
        refine q_then_r ?_
        refine t_drop ?_
        refine q_ret rfl rfl ?_
        exact ⟨rfl, rfl⟩
      · -- no
        refine tp rfl (lv_geq rfl rfl (decide_eq_false h4)) ?_
        refine tp rfl (lv_pick_f rfl rfl) ?_
        refine tp rfl (lv_move rfl) ?_
        refine t_guard rfl rfl ?_
        refine tp rfl (lv_move rfl) ?_
        refine t_guard rfl rfl ?_
        refine tp rfl (lv_move rfl) ?_
        refine t_guard rfl rfl ?_
        refine tc rfl (en_fn Tryd.call21 rfl) (n_ok) ?_
        rintro _ _ ⟨rfl, rfl⟩
        refine t_guard rfl rfl ?_
        by_cases h5 : b ≥ ((NN : Nat) : Int)
        · -- yes
         refine tp rfl (lv_geq rfl rfl (decide_eq_true h5)) ?_
         refine tp rfl (lv_pick_f rfl rfl) ?_
         refine t_done ?_
         refine q_then_n (hK5 _ _ ?_)
         refine c_true rfl ?_
         refine c_seq (fun K6 hK6 => ?_)
         refine c_region ?_
         refine tp rfl (lv_move rfl) ?_
         refine tp rfl (lv_move rfl) ?_
         refine t_guard rfl rfl ?_
         refine tp rfl (lv_move rfl) ?_
         refine t_guard rfl rfl ?_
         refine tp rfl (lv_nenil Tryd.underlying24 rfl rfl) ?_
         refine tp rfl (lv_pick_t rfl rfl) ?_
         refine tp rfl (lv_assign rfl) ?_
         refine t_done ?_
         refine q_then_n (hK6 _ _ ?_)
         refine c_ret ?_
         refine q_then_r ?_
         refine t_drop ?_
         refine q_ret rfl rfl ?_
         exact ⟨rfl, rfl⟩
        · -- no
         refine tp rfl (lv_geq rfl rfl (decide_eq_false h5)) ?_
         refine tp rfl (lv_pick_f rfl rfl) ?_
         refine t_done ?_
         refine q_then_n (hK5 _ _ ?_)
         refine c_false rfl ?_
         refine c_skip ?_
         refine q_then_n (hK4 _ _ ?_)
         refine c_seq (fun K6 hK6 => ?_)
         refine c_region ?_
         have hva : valid NN a = true := valid_iff.2 ⟨by omega, by omega⟩
         have hvb : valid NN b = true := valid_iff.2 ⟨by omega, by omega⟩
         have hil := onL_le NN (addE NN EE a b)
         have hwl := onL_le NN EE
         have hpl := path_le hgk (a := b) (to := a)
         refine tp rfl (lv_move rfl) ?_
         refine tc rfl (en_fn Tryd.call19 rfl) (on_ok (N := NN) (E := EE)  hT) ?_
         rintro _ _ ⟨bs6, cp7, hok8, hle9, rfl, rfl⟩
         refine tp rfl (lv_assign rfl) ?_
         refine t_done ?_
         refine q_then_n (hK6 _ _ ?_)
         refine c_seq (fun K7 hK7 => ?_)
         refine c_region ?_
         refine tp rfl (lv_move rfl) ?_
         refine tp rfl (lv_move rfl) ?_
         refine tp rfl (lv_move rfl) ?_
         refine t_f1 ?_
         refine tc rfl (en_fn Tryd.call18 rfl) (closes_ok (N := NN) (E := EE) a b) ?_
         rintro _ _ ⟨bs10, cp11, hok12, hle13, rfl, rfl⟩
         refine tp rfl (lv_assign rfl) ?_
         refine t_done ?_
         refine q_then_n (hK7 _ _ ?_)
         refine c_seq (fun K8 hK8 => ?_)
         refine c_region ?_
         refine tp rfl (lv_move rfl) ?_
         refine tp rfl (lv_move rfl) ?_
         refine tp rfl (lv_move rfl) ?_
         refine t_f1 ?_
         refine tc rfl (en_fn Tryd.call25 rfl) (add_ok (N := NN) (es := EE) a b) ?_
         rintro _ _ ⟨rfl, rfl⟩
         refine t_done ?_
         refine q_then_n (hK8 _ _ ?_)
         refine c_seq (fun K9 hK9 => ?_)
         refine c_region ?_
         refine tp rfl (lv_move rfl) ?_
         refine tc rfl (en_fn Tryd.call19 rfl) (on_ok (N := NN) (E := addE NN EE a b)  (Tab.cons (Tab.cons hT))) ?_
         rintro _ _ ⟨bs14, cp15, hok16, hle17, rfl, rfl⟩
         refine tp rfl (lv_assign rfl) ?_
         refine t_done ?_
         refine q_then_n (hK9 _ _ ?_)
         refine c_seq (fun K10 hK10 => ?_)
         refine c_region ?_
         refine tp rfl (lv_buildArr0 (cs := (bools (List.replicate 64 false))) Tryd.underlying48 Tryd.zeroValue48 Tryd.sizeOf4 rfl) ?_
         refine tm rfl (mv_alloc (cs := (bools (List.replicate 64 false))) Tryd.zeroValue48 rfl) ?_
         rintro _ _ ⟨b18, rfl, rfl⟩
         refine ts (sv_blkAgg (news := (bools (List.replicate 64 false))) (cs' := (bools (List.replicate 64 false))) Tryd.sizeOf48 rfl rfl rfl (by decide) (by decide) rfl) ?_
         refine t_done ?_
         refine q_then_n (hK10 _ _ ?_)
         refine c_seq (fun K11 hK11 => ?_)
         refine c_seq (fun K12 hK12 => ?_)
         refine c_region ?_
         refine tp rfl (lv_assign rfl) ?_
         refine t_done ?_
         refine q_then_n (hK12 _ _ ?_)
         refine c_block ?_
         refine c_loop (γ := (Nat) × (List Bool)) (fun (i, bs) => i ≤ (onL NN (addE NN EE a b)).length ∧ MkB (onL NN (addE NN EE a b)) i bs) (fun (i, bs) => [(0, (.int .i64 n)), (1, (.slice beb es.length ceb)), (2, (.int .i64 a)), (3, (.int .i64 b)), (9, (.bool true)), (10, (.pointer (some ⟨p1, 0, none⟩))), (11, (.slice bs6 ((onL NN EE).length) cp7)), (12, (.slice bs10 ((pathL NN EE b a).length) cp11)), (13, (.slice bs14 ((onL NN (addE NN EE a b)).length) cp15)), (14, (.pointer (some ⟨b18, 0, none⟩))), (15, (.int .i64 ((i : Nat) : Int))), (43, (.bool false))]) (fun (i, bs) => (Blk b18 (bools bs) 48) :: (SlV 3 1 (.slice bs14 ((onL NN (addE NN EE a b)).length) cp15) ((onL NN (addE NN EE a b)).length) (ints .i64 (onL NN (addE NN EE a b)))) :: (GraphO p1 NN (addE NN EE a b)) :: (SlV 3 1 (.slice bs10 ((pathL NN EE b a).length) cp11) ((pathL NN EE b a).length) (ints .i64 (pathL NN EE b a))) :: (SlV 3 1 (.slice bs6 ((onL NN EE).length) cp7) ((onL NN EE).length) (ints .i64 (onL NN EE))) :: R) (fun (i, bs) => (onL NN (addE NN EE a b)).length - i) (0, List.replicate 64 false) ⟨by omega, MkB.zero _⟩ ⟨rfl, rfl, rfl, rfl, rfl, rfl, rfl, rfl, rfl, rfl, rfl, rfl, trivial⟩ (fun _ h => h) ?_
         rintro ⟨i, bs⟩ K13 hF hK13
         try dsimp only at hF hK13 ⊢
         obtain ⟨hi, hmk⟩ := hF
         have hbsl := hmk.len
         have hoi : i < (onL NN (addE NN EE a b)).length → 0 ≤ (onL NN (addE NN EE a b)).getD i 0 ∧ (onL NN (addE NN EE a b)).getD i 0 < NN := fun h => onL_in h
         refine c_seq (fun K14 hK14 => ?_)
         refine c_seq (fun K15 hK15 => ?_)
         refine c_region ?_
         refine tp rfl (lv_move rfl) ?_
         refine tp rfl (lv_move rfl) ?_
         refine tp rfl (lv_len Tryd.underlying33 rfl rfl) ?_
         by_cases h19 : ((i : Nat) : Int) < (((onL NN (addE NN EE a b)).length : Nat) : Int)
         · -- yes
          refine tp rfl (lv_lss rfl rfl (decide_eq_true h19)) ?_
          refine t_done ?_
          refine q_then_n (hK15 _ _ ?_)
          refine c_true rfl ?_
          refine c_skip ?_
          refine q_then_n (hK14 _ _ ?_)
          refine c_seq (fun K16 hK16 => ?_)
          refine c_block ?_
          refine c_seq (fun K17 hK17 => ?_)
          refine c_seq (fun K18 hK18 => ?_)
          refine c_region ?_
          refine tp rfl (lv_move rfl) ?_
          refine tp rfl (lv_move rfl) ?_
          refine tp rfl (lv_indexAddr (k' := i) Tryd.underlying33 Tryd.sizeOf3 rfl rfl hok16 (by omega) (by omega) (by omega)) ?_
          refine tp rfl (lv_load Tryd.isAgg3 rfl (gives_sl (.tail _ (.head _)) (ints_get (by omega)))) ?_
          refine tp rfl (lv_lss rfl rfl (decide_eq_false (by have := hoi (by omega); omega))) ?_
          refine tp rfl (lv_move rfl) ?_
          refine t_guard rfl rfl ?_
          refine tp rfl (lv_move rfl) ?_
          refine t_guard rfl rfl ?_
          refine tp rfl (lv_move rfl) ?_
          refine t_guard rfl rfl ?_
          refine tp rfl (lv_indexAddr (k' := i) Tryd.underlying33 Tryd.sizeOf3 rfl rfl hok16 (by omega) (by omega) (by omega)) ?_
          refine t_guard rfl rfl ?_
          refine tp rfl (lv_load Tryd.isAgg3 rfl (gives_sl (.tail _ (.head _)) (ints_get (by omega)))) ?_
          refine t_guard rfl rfl ?_
          refine tp rfl (lv_geq rfl rfl (decide_eq_false (by have := hoi (by omega); omega))) ?_
          refine tp rfl (lv_pick_f rfl rfl) ?_
          refine t_done ?_
          refine q_then_n (hK18 _ _ ?_)
          refine c_false rfl ?_
          refine c_skip ?_
          refine q_then_n (hK17 _ _ ?_)
          refine c_region ?_
          refine tp rfl (lv_move rfl) ?_
          refine tp rfl (lv_move rfl) ?_
          refine tp rfl (lv_indexAddr (k' := i) Tryd.underlying33 Tryd.sizeOf3 rfl rfl hok16 (by omega) (by omega) (by omega)) ?_
          refine tp rfl (lv_load Tryd.isAgg3 rfl (gives_sl (.tail _ (.head _)) (ints_get (by omega)))) ?_
          refine tp rfl (lv_indexArr (k' := ((onL NN (addE NN EE a b)).getD i 0).toNat) Tryd.underlying48 Tryd.sizeOf4 rfl rfl (by have := hoi (by omega); omega) (by have := hoi (by omega); omega) (by have := hoi (by omega); omega)) ?_
          refine ts (sv_blk Tryd.sizeOf4 rfl rfl rfl (by rw [bools_length]; have := hoi (by omega); omega) bools_set) ?_
          refine t_done ?_
          refine q_in_n ?_
          refine q_then_n (hK16 _ _ ?_)
          refine c_region ?_
          refine tp rfl (lv_move rfl) ?_
          refine tp rfl (lv_add (c := ((i + 1 : Nat) : Int)) rfl rfl (wr_i64_succ (by omega))) ?_
          refine tp rfl (lv_assign rfl) ?_
          refine t_done ?_
          refine q_then_n ?_
          exact t_weak (by exact ⟨rfl, rfl, rfl, rfl, rfl, rfl, rfl, rfl, rfl, rfl, rfl, rfl, trivial⟩) ((hK13 (i + 1, bs.set ((onL NN (addE NN EE a b)).getD i 0).toNat true) ⟨by omega, hmk.next (by have := hoi (by omega); omega) (by have := hoi (by omega); omega)⟩ (by dsimp only; omega)))
         · -- no
          refine tp rfl (lv_lss rfl rfl (decide_eq_false h19)) ?_
          refine t_done ?_
          refine q_then_n (hK15 _ _ ?_)
          refine c_false rfl ?_
          refine c_exit ?_
          refine q_then_x ?_
          refine q_then_x ?_
          refine q_in_x ?_
          refine q_then_n (hK11 _ _ ?_)
          refine c_seq (fun K16 hK16 => ?_)
          refine c_seq (fun K17 hK17 => ?_)
          refine c_region ?_
          refine tp rfl (lv_assign rfl) ?_
          refine t_done ?_
          refine q_then_n (hK17 _ _ ?_)
          refine c_block ?_
          refine c_loop (γ := (Nat)) (fun (j : Nat) => j ≤ (pathL NN EE b a).length) (fun (j : Nat) => [(0, (.int .i64 n)), (1, (.slice beb es.length ceb)), (2, (.int .i64 a)), (3, (.int .i64 b)), (9, (.bool true)), (10, (.pointer (some ⟨p1, 0, none⟩))), (11, (.slice bs6 ((onL NN EE).length) cp7)), (12, (.slice bs10 ((pathL NN EE b a).length) cp11)), (13, (.slice bs14 ((onL NN (addE NN EE a b)).length) cp15)), (14, (.pointer (some ⟨b18, 0, none⟩))), (15, (.int .i64 ((i : Nat) : Int))), (16, (.int .i64 ((j : Nat) : Int))), (43, (.bool false)), (65, (.bool false))]) (fun (j : Nat) => (Blk b18 (bools bs) 48) :: (SlV 3 1 (.slice bs14 ((onL NN (addE NN EE a b)).length) cp15) ((onL NN (addE NN EE a b)).length) (ints .i64 (onL NN (addE NN EE a b)))) :: (GraphO p1 NN (addE NN EE a b)) :: (SlV 3 1 (.slice bs10 ((pathL NN EE b a).length) cp11) ((pathL NN EE b a).length) (ints .i64 (pathL NN EE b a))) :: (SlV 3 1 (.slice bs6 ((onL NN EE).length) cp7) ((onL NN EE).length) (ints .i64 (onL NN EE))) :: R) (fun (j : Nat) => (pathL NN EE b a).length - j) (0) (by omega) ⟨rfl, rfl, rfl, rfl, rfl, rfl, rfl, rfl, rfl, rfl, rfl, rfl, rfl, rfl, trivial⟩ (fun _ h => h) ?_
          rintro j K18 hF hK18
          try dsimp only at hF hK18 ⊢
          have hqi : j < (pathL NN EE b a).length → 0 ≤ (pathL NN EE b a).getD j 0 ∧ (pathL NN EE b a).getD j 0 < NN := fun h => path_in hgk h
          refine c_seq (fun K19 hK19 => ?_)
          refine c_seq (fun K20 hK20 => ?_)
          refine c_region ?_
          refine tp rfl (lv_move rfl) ?_
          refine tp rfl (lv_move rfl) ?_
          refine tp rfl (lv_len Tryd.underlying33 rfl rfl) ?_
          by_cases h20 : ((j : Nat) : Int) < (((pathL NN EE b a).length : Nat) : Int)
          · -- yes
           refine tp rfl (lv_lss rfl rfl (decide_eq_true h20)) ?_
           refine t_done ?_
           refine q_then_n (hK20 _ _ ?_)
           refine c_true rfl ?_
           refine c_skip ?_
           refine q_then_n (hK19 _ _ ?_)
           refine c_seq (fun K21 hK21 => ?_)
           refine c_block ?_
           refine c_seq (fun K22 hK22 => ?_)
           refine c_draw (γ := Unit) (n := 38) Tryd.mixed rfl rfl (fun _ S => True) (fun _ => [(0, 91, (.slice bs10 ((pathL NN EE b a).length) cp11)), (1, 92, (.int .i64 ((j : Nat) : Int))), (2, 93, (.pointer (some (ad bs10 j)))), (3, 94, (.int .i64 ((pathL NN EE b a).getD j 0))), (4, 95, (.bool false)), (5, 96, (.bool false)), (6, 97, (.slice bs10 ((pathL NN EE b a).length) cp11)), (7, 98, (.int .i64 ((j : Nat) : Int))), (8, 99, (.pointer (some (ad bs10 j)))), (9, 100, (.int .i64 ((pathL NN EE b a).getD j 0))), (10, 101, (.bool false)), (11, 102, (.bool false)), (12, 103, (.bool false)), (13, 104, (.slice bs10 ((pathL NN EE b a).length) cp11)), (14, 105, (.int .i64 ((j : Nat) : Int))), (15, 106, (.pointer (some (ad bs10 j)))), (16, 107, (.int .i64 ((pathL NN EE b a).getD j 0))), (17, 108, (.pointer (some ⟨b18, ((pathL NN EE b a).getD j 0).toNat, none⟩))), (18, 109, (.bool true)), (19, 110, (.bool false)), (20, 111, (.bool false)), (21, 112, (.bool false)), (22, 113, (.pointer (some ⟨p1, 0, none⟩))), (23, 114, (.slice bs10 ((pathL NN EE b a).length) cp11)), (24, 115, (.int .i64 ((j : Nat) : Int))), (25, 116, (.pointer (some (ad bs10 j)))), (26, 117, (.int .i64 ((pathL NN EE b a).getD j 0))), (27, 118, (.slice bs10 ((pathL NN EE b a).length) cp11)), (28, 119, (.int .i64 ((j : Nat) : Int))), (29, 120, (.int .i64 ((j + 1 : Nat) : Int))), (30, 121, (.slice bs10 ((pathL NN EE b a).length) cp11)), (31, 122, (.int .i64 (((pathL NN EE b a).length : Nat) : Int))), (32, 123, (.int .i64 (((j + 1) % (pathL NN EE b a).length : Nat) : Int))), (33, 124, (.pointer (some (ad bs10 ((j + 1) % (pathL NN EE b a).length))))), (34, 125, (.int .i64 ((pathL NN EE b a).getD ((j + 1) % (pathL NN EE b a).length) 0))), (35, 126, (.bool true)), (36, 127, (.bool false)), (37, 128, (.bool false))]) (fun _ S => (Blk b18 (bools bs) 48) :: (SlV 3 1 (.slice bs14 ((onL NN (addE NN EE a b)).length) cp15) ((onL NN (addE NN EE a b)).length) (ints .i64 (onL NN (addE NN EE a b)))) :: (GraphO p1 NN (addE NN EE a b)) :: (SlV 3 1 (.slice bs10 ((pathL NN EE b a).length) cp11) ((pathL NN EE b a).length) (ints .i64 (pathL NN EE b a))) :: (SlV 3 1 (.slice bs6 ((onL NN EE).length) cp7) ((onL NN EE).length) (ints .i64 (onL NN EE))) :: R) (()) trivial (fun _ h => h) (fun _ _ h => h) ?_ ?_
           · -- steps
            refine ⟨?_, ?_, ?_, ?_, ?_, ?_, ?_, ?_, ?_, ?_, ?_, ?_, ?_, ?_, ?_, ?_, ?_, ?_, ?_, ?_, ?_, ?_, ?_, ?_, ?_, ?_, ?_, ?_, ?_, ?_, ?_, ?_, ?_, ?_, ?_, ?_, ?_, ?_, trivial⟩
            · -- 0
             rintro _ S hF hS D hp K hK
             try dsimp only at hF ⊢
             refine d_need (small := [(12, (.slice bs10 ((pathL NN EE b a).length) cp11))]) ⟨look_b rfl rfl, trivial⟩ ?_
             refine tp rfl (lv_move rfl) ?_
             exact d_closes ⟨look_b rfl rfl, trivial⟩ 0 rfl rfl rfl hS (AgreeR.refl _) (t_sat (fun _ h => h) (hK () trivial))
            · -- 1
             rintro _ S hF hS D hp K hK
             try dsimp only at hF ⊢
             refine d_need (small := [(16, (.int .i64 ((j : Nat) : Int)))]) ⟨look_b rfl rfl, trivial⟩ ?_
             refine tp rfl (lv_move rfl) ?_
             exact d_closes ⟨look_b rfl rfl, trivial⟩ 1 rfl rfl rfl hS (AgreeR.refl _) (t_sat (fun _ h => h) (hK () trivial))
            · -- 2
             rintro _ S hF hS D hp K hK
             try dsimp only at hF ⊢
             have s0 := hp 0 rfl
             have s1 := hp 1 rfl
             refine d_need (small := [(91, (.slice bs10 ((pathL NN EE b a).length) cp11)), (92, (.int .i64 ((j : Nat) : Int)))]) ⟨look_row rfl 0 rfl s0, look_row rfl 1 rfl s1, trivial⟩ ?_
             refine tp rfl (lv_indexAddr (k' := j) Tryd.underlying33 Tryd.sizeOf3 rfl rfl hok12 (by omega) (by omega) (by omega)) ?_
             exact d_closes ⟨look_row rfl 0 rfl s0, look_row rfl 1 rfl s1, trivial⟩ 2 rfl rfl rfl hS (AgreeR.refl _) (t_sat (fun _ h => h) (hK () trivial))
            · -- 3
             rintro _ S hF hS D hp K hK
             try dsimp only at hF ⊢
             have s2 := hp 2 rfl
             refine d_need (small := [(93, (.pointer (some (ad bs10 j))))]) ⟨look_row rfl 2 rfl s2, trivial⟩ ?_
             refine tp rfl (lv_load Tryd.isAgg3 rfl (gives_sl (.tail _ (.tail _ (.tail _ (.head _)))) (ints_get (by omega)))) ?_
             exact d_closes ⟨look_row rfl 2 rfl s2, trivial⟩ 3 rfl rfl rfl hS (AgreeR.refl _) (t_sat (fun _ h => h) (hK () trivial))
            · -- 4
             rintro _ S hF hS D hp K hK
             try dsimp only at hF ⊢
             have s3 := hp 3 rfl
             refine d_need (small := [(94, (.int .i64 ((pathL NN EE b a).getD j 0)))]) ⟨look_row rfl 3 rfl s3, trivial⟩ ?_
             refine tp rfl (lv_lss rfl rfl (decide_eq_false (by have := hqi (by omega); omega))) ?_
             exact d_closes ⟨look_row rfl 3 rfl s3, trivial⟩ 4 rfl rfl rfl hS (AgreeR.refl _) (t_sat (fun _ h => h) (hK () trivial))
            · -- 5
             rintro _ S hF hS D hp K hK
             try dsimp only at hF ⊢
             have s4 := hp 4 rfl
             refine d_need (small := [(95, (.bool false))]) ⟨look_row rfl 4 rfl s4, trivial⟩ ?_
             refine tp rfl (lv_move rfl) ?_
             exact d_closes ⟨look_row rfl 4 rfl s4, trivial⟩ 5 rfl rfl rfl hS (AgreeR.refl _) (t_sat (fun _ h => h) (hK () trivial))
            · -- 6
             rintro _ S hF hS D hp K hK
             try dsimp only at hF ⊢
             have s5 := hp 5 rfl
             refine d_need (small := [(12, (.slice bs10 ((pathL NN EE b a).length) cp11)), (96, (.bool false))]) ⟨look_b rfl rfl, look_row rfl 5 rfl s5, trivial⟩ ?_
             refine t_guard rfl rfl ?_
             refine tp rfl (lv_move rfl) ?_
             exact d_closes ⟨look_b rfl rfl, look_row rfl 5 rfl s5, trivial⟩ 6 rfl rfl rfl hS (AgreeR.refl _) (t_sat (fun _ h => h) (hK () trivial))
            · -- 7
             rintro _ S hF hS D hp K hK
             try dsimp only at hF ⊢
             have s5 := hp 5 rfl
             refine d_need (small := [(16, (.int .i64 ((j : Nat) : Int))), (96, (.bool false))]) ⟨look_b rfl rfl, look_row rfl 5 rfl s5, trivial⟩ ?_
             refine t_guard rfl rfl ?_
             refine tp rfl (lv_move rfl) ?_
             exact d_closes ⟨look_b rfl rfl, look_row rfl 5 rfl s5, trivial⟩ 7 rfl rfl rfl hS (AgreeR.refl _) (t_sat (fun _ h => h) (hK () trivial))
            · -- 8
             rintro _ S hF hS D hp K hK
             try dsimp only at hF ⊢
             have s5 := hp 5 rfl
             have s6 := hp 6 rfl
             have s7 := hp 7 rfl
             refine d_need (small := [(96, (.bool false)), (97, (.slice bs10 ((pathL NN EE b a).length) cp11)), (98, (.int .i64 ((j : Nat) : Int)))]) ⟨look_row rfl 5 rfl s5, look_row rfl 6 rfl s6, look_row rfl 7 rfl s7, trivial⟩ ?_
             refine t_guard rfl rfl ?_
             refine tp rfl (lv_indexAddr (k' := j) Tryd.underlying33 Tryd.sizeOf3 rfl rfl hok12 (by omega) (by omega) (by omega)) ?_
             exact d_closes ⟨look_row rfl 5 rfl s5, look_row rfl 6 rfl s6, look_row rfl 7 rfl s7, trivial⟩ 8 rfl rfl rfl hS (AgreeR.refl _) (t_sat (fun _ h => h) (hK () trivial))
            · -- 9
             rintro _ S hF hS D hp K hK
             try dsimp only at hF ⊢
             have s5 := hp 5 rfl
             have s8 := hp 8 rfl
             refine d_need (small := [(96, (.bool false)), (99, (.pointer (some (ad bs10 j))))]) ⟨look_row rfl 5 rfl s5, look_row rfl 8 rfl s8, trivial⟩ ?_
             refine t_guard rfl rfl ?_
             refine tp rfl (lv_load Tryd.isAgg3 rfl (gives_sl (.tail _ (.tail _ (.tail _ (.head _)))) (ints_get (by omega)))) ?_
             exact d_closes ⟨look_row rfl 5 rfl s5, look_row rfl 8 rfl s8, trivial⟩ 9 rfl rfl rfl hS (AgreeR.refl _) (t_sat (fun _ h => h) (hK () trivial))
            · -- 10
             rintro _ S hF hS D hp K hK
             try dsimp only at hF ⊢
             have s5 := hp 5 rfl
             have s9 := hp 9 rfl
             refine d_need (small := [(96, (.bool false)), (100, (.int .i64 ((pathL NN EE b a).getD j 0)))]) ⟨look_row rfl 5 rfl s5, look_row rfl 9 rfl s9, trivial⟩ ?_
             refine t_guard rfl rfl ?_
             refine tp rfl (lv_geq rfl rfl (decide_eq_false (by have := hqi (by omega); omega))) ?_
             exact d_closes ⟨look_row rfl 5 rfl s5, look_row rfl 9 rfl s9, trivial⟩ 10 rfl rfl rfl hS (AgreeR.refl _) (t_sat (fun _ h => h) (hK () trivial))
            · -- 11
             rintro _ S hF hS D hp K hK
             try dsimp only at hF ⊢
             have s5 := hp 5 rfl
             have s10 := hp 10 rfl
             refine d_need (small := [(96, (.bool false)), (101, (.bool false))]) ⟨look_row rfl 5 rfl s5, look_row rfl 10 rfl s10, trivial⟩ ?_
             refine tp rfl (lv_pick_f rfl rfl) ?_
             exact d_closes ⟨look_row rfl 5 rfl s5, look_row rfl 10 rfl s10, trivial⟩ 11 rfl rfl rfl hS (AgreeR.refl _) (t_sat (fun _ h => h) (hK () trivial))
            · -- 12
             rintro _ S hF hS D hp K hK
             try dsimp only at hF ⊢
             have s11 := hp 11 rfl
             refine d_need (small := [(102, (.bool false))]) ⟨look_row rfl 11 rfl s11, trivial⟩ ?_
             refine tp rfl (lv_move rfl) ?_
             exact d_closes ⟨look_row rfl 11 rfl s11, trivial⟩ 12 rfl rfl rfl hS (AgreeR.refl _) (t_sat (fun _ h => h) (hK () trivial))
            · -- 13
             rintro _ S hF hS D hp K hK
             try dsimp only at hF ⊢
             have s12 := hp 12 rfl
             refine d_need (small := [(12, (.slice bs10 ((pathL NN EE b a).length) cp11)), (103, (.bool false))]) ⟨look_b rfl rfl, look_row rfl 12 rfl s12, trivial⟩ ?_
             refine t_guard rfl rfl ?_
             refine tp rfl (lv_move rfl) ?_
             exact d_closes ⟨look_b rfl rfl, look_row rfl 12 rfl s12, trivial⟩ 13 rfl rfl rfl hS (AgreeR.refl _) (t_sat (fun _ h => h) (hK () trivial))
            · -- 14
             rintro _ S hF hS D hp K hK
             try dsimp only at hF ⊢
             have s12 := hp 12 rfl
             refine d_need (small := [(16, (.int .i64 ((j : Nat) : Int))), (103, (.bool false))]) ⟨look_b rfl rfl, look_row rfl 12 rfl s12, trivial⟩ ?_
             refine t_guard rfl rfl ?_
             refine tp rfl (lv_move rfl) ?_
             exact d_closes ⟨look_b rfl rfl, look_row rfl 12 rfl s12, trivial⟩ 14 rfl rfl rfl hS (AgreeR.refl _) (t_sat (fun _ h => h) (hK () trivial))
            · -- 15
             rintro _ S hF hS D hp K hK
             try dsimp only at hF ⊢
             have s12 := hp 12 rfl
             have s13 := hp 13 rfl
             have s14 := hp 14 rfl
             refine d_need (small := [(103, (.bool false)), (104, (.slice bs10 ((pathL NN EE b a).length) cp11)), (105, (.int .i64 ((j : Nat) : Int)))]) ⟨look_row rfl 12 rfl s12, look_row rfl 13 rfl s13, look_row rfl 14 rfl s14, trivial⟩ ?_
             refine t_guard rfl rfl ?_
             refine tp rfl (lv_indexAddr (k' := j) Tryd.underlying33 Tryd.sizeOf3 rfl rfl hok12 (by omega) (by omega) (by omega)) ?_
             exact d_closes ⟨look_row rfl 12 rfl s12, look_row rfl 13 rfl s13, look_row rfl 14 rfl s14, trivial⟩ 15 rfl rfl rfl hS (AgreeR.refl _) (t_sat (fun _ h => h) (hK () trivial))
            · -- 16
             rintro _ S hF hS D hp K hK
             try dsimp only at hF ⊢
             have s12 := hp 12 rfl
             have s15 := hp 15 rfl
             refine d_need (small := [(103, (.bool false)), (106, (.pointer (some (ad bs10 j))))]) ⟨look_row rfl 12 rfl s12, look_row rfl 15 rfl s15, trivial⟩ ?_
             refine t_guard rfl rfl ?_
             refine tp rfl (lv_load Tryd.isAgg3 rfl (gives_sl (.tail _ (.tail _ (.tail _ (.head _)))) (ints_get (by omega)))) ?_
             exact d_closes ⟨look_row rfl 12 rfl s12, look_row rfl 15 rfl s15, trivial⟩ 16 rfl rfl rfl hS (AgreeR.refl _) (t_sat (fun _ h => h) (hK () trivial))
            · -- 17
             rintro _ S hF hS D hp K hK
             try dsimp only at hF ⊢
             have s12 := hp 12 rfl
             have s16 := hp 16 rfl
             refine d_need (small := [(14, (.pointer (some ⟨b18, 0, none⟩))), (103, (.bool false)), (107, (.int .i64 ((pathL NN EE b a).getD j 0)))]) ⟨look_b rfl rfl, look_row rfl 12 rfl s12, look_row rfl 16 rfl s16, trivial⟩ ?_
             refine t_guard rfl rfl ?_
             refine tp rfl (lv_indexArr (k' := ((pathL NN EE b a).getD j 0).toNat) Tryd.underlying48 Tryd.sizeOf4 rfl rfl (by have := hqi (by omega); omega) (by have := hqi (by omega); omega) (by have := hqi (by omega); omega)) ?_
             exact d_closes ⟨look_b rfl rfl, look_row rfl 12 rfl s12, look_row rfl 16 rfl s16, trivial⟩ 17 rfl rfl rfl hS (AgreeR.refl _) (t_sat (fun _ h => h) (hK () trivial))
            · -- 18
             rintro _ S hF hS D hp K hK
             try dsimp only at hF ⊢
             have s12 := hp 12 rfl
             have s17 := hp 17 rfl
             refine d_need (small := [(103, (.bool false)), (108, (.pointer (some ⟨b18, ((pathL NN EE b a).getD j 0).toNat, none⟩)))]) ⟨look_row rfl 12 rfl s12, look_row rfl 17 rfl s17, trivial⟩ ?_
             refine t_guard rfl rfl ?_
             refine tp rfl (lv_load Tryd.isAgg4 rfl (gives_as (v := .bool true) (by rw [close_mark hgk hva hvb hmk (by omega) (show j < (pathL NN EE b a).length by omega)]) (gives_blk (.head _) (bools_get (by have := hqi (by omega); omega))))) ?_
             exact d_closes ⟨look_row rfl 12 rfl s12, look_row rfl 17 rfl s17, trivial⟩ 18 rfl rfl rfl hS (AgreeR.refl _) (t_sat (fun _ h => h) (hK () trivial))
            · -- 19
             rintro _ S hF hS D hp K hK
             try dsimp only at hF ⊢
             have s12 := hp 12 rfl
             have s18 := hp 18 rfl
             refine d_need (small := [(103, (.bool false)), (109, (.bool true))]) ⟨look_row rfl 12 rfl s12, look_row rfl 18 rfl s18, trivial⟩ ?_
             refine t_guard rfl rfl ?_
             refine tp rfl (lv_not (c := false) rfl rfl) ?_
             exact d_closes ⟨look_row rfl 12 rfl s12, look_row rfl 18 rfl s18, trivial⟩ 19 rfl rfl rfl hS (AgreeR.refl _) (t_sat (fun _ h => h) (hK () trivial))
            · -- 20
             rintro _ S hF hS D hp K hK
             try dsimp only at hF ⊢
             have s12 := hp 12 rfl
             have s19 := hp 19 rfl
             refine d_need (small := [(103, (.bool false)), (110, (.bool false))]) ⟨look_row rfl 12 rfl s12, look_row rfl 19 rfl s19, trivial⟩ ?_
             refine tp rfl (lv_pick_f rfl rfl) ?_
             exact d_closes ⟨look_row rfl 12 rfl s12, look_row rfl 19 rfl s19, trivial⟩ 20 rfl rfl rfl hS (AgreeR.refl _) (t_sat (fun _ h => h) (hK () trivial))
            · -- 21
             rintro _ S hF hS D hp K hK
             try dsimp only at hF ⊢
             have s20 := hp 20 rfl
             refine d_need (small := [(111, (.bool false))]) ⟨look_row rfl 20 rfl s20, trivial⟩ ?_
             refine tp rfl (lv_move rfl) ?_
             exact d_closes ⟨look_row rfl 20 rfl s20, trivial⟩ 21 rfl rfl rfl hS (AgreeR.refl _) (t_sat (fun _ h => h) (hK () trivial))
            · -- 22
             rintro _ S hF hS D hp K hK
             try dsimp only at hF ⊢
             have s21 := hp 21 rfl
             refine d_need (small := [(10, (.pointer (some ⟨p1, 0, none⟩))), (112, (.bool false))]) ⟨look_b rfl rfl, look_row rfl 21 rfl s21, trivial⟩ ?_
             refine t_guard rfl rfl ?_
             refine tp rfl (lv_move rfl) ?_
             exact d_closes ⟨look_b rfl rfl, look_row rfl 21 rfl s21, trivial⟩ 22 rfl rfl rfl hS (AgreeR.refl _) (t_sat (fun _ h => h) (hK () trivial))
            · -- 23
             rintro _ S hF hS D hp K hK
             try dsimp only at hF ⊢
             have s21 := hp 21 rfl
             refine d_need (small := [(12, (.slice bs10 ((pathL NN EE b a).length) cp11)), (112, (.bool false))]) ⟨look_b rfl rfl, look_row rfl 21 rfl s21, trivial⟩ ?_
             refine t_guard rfl rfl ?_
             refine tp rfl (lv_move rfl) ?_
             exact d_closes ⟨look_b rfl rfl, look_row rfl 21 rfl s21, trivial⟩ 23 rfl rfl rfl hS (AgreeR.refl _) (t_sat (fun _ h => h) (hK () trivial))
            · -- 24
             rintro _ S hF hS D hp K hK
             try dsimp only at hF ⊢
             have s21 := hp 21 rfl
             refine d_need (small := [(16, (.int .i64 ((j : Nat) : Int))), (112, (.bool false))]) ⟨look_b rfl rfl, look_row rfl 21 rfl s21, trivial⟩ ?_
             refine t_guard rfl rfl ?_
             refine tp rfl (lv_move rfl) ?_
             exact d_closes ⟨look_b rfl rfl, look_row rfl 21 rfl s21, trivial⟩ 24 rfl rfl rfl hS (AgreeR.refl _) (t_sat (fun _ h => h) (hK () trivial))
            · -- 25
             rintro _ S hF hS D hp K hK
             try dsimp only at hF ⊢
             have s21 := hp 21 rfl
             have s23 := hp 23 rfl
             have s24 := hp 24 rfl
             refine d_need (small := [(112, (.bool false)), (114, (.slice bs10 ((pathL NN EE b a).length) cp11)), (115, (.int .i64 ((j : Nat) : Int)))]) ⟨look_row rfl 21 rfl s21, look_row rfl 23 rfl s23, look_row rfl 24 rfl s24, trivial⟩ ?_
             refine t_guard rfl rfl ?_
             refine tp rfl (lv_indexAddr (k' := j) Tryd.underlying33 Tryd.sizeOf3 rfl rfl hok12 (by omega) (by omega) (by omega)) ?_
             exact d_closes ⟨look_row rfl 21 rfl s21, look_row rfl 23 rfl s23, look_row rfl 24 rfl s24, trivial⟩ 25 rfl rfl rfl hS (AgreeR.refl _) (t_sat (fun _ h => h) (hK () trivial))
            · -- 26
             rintro _ S hF hS D hp K hK
             try dsimp only at hF ⊢
             have s21 := hp 21 rfl
             have s25 := hp 25 rfl
             refine d_need (small := [(112, (.bool false)), (116, (.pointer (some (ad bs10 j))))]) ⟨look_row rfl 21 rfl s21, look_row rfl 25 rfl s25, trivial⟩ ?_
             refine t_guard rfl rfl ?_
             refine tp rfl (lv_load Tryd.isAgg3 rfl (gives_sl (.tail _ (.tail _ (.tail _ (.head _)))) (ints_get (by omega)))) ?_
             exact d_closes ⟨look_row rfl 21 rfl s21, look_row rfl 25 rfl s25, trivial⟩ 26 rfl rfl rfl hS (AgreeR.refl _) (t_sat (fun _ h => h) (hK () trivial))
            · -- 27
             rintro _ S hF hS D hp K hK
             try dsimp only at hF ⊢
             have s21 := hp 21 rfl
             refine d_need (small := [(12, (.slice bs10 ((pathL NN EE b a).length) cp11)), (112, (.bool false))]) ⟨look_b rfl rfl, look_row rfl 21 rfl s21, trivial⟩ ?_
             refine t_guard rfl rfl ?_
             refine tp rfl (lv_move rfl) ?_
             exact d_closes ⟨look_b rfl rfl, look_row rfl 21 rfl s21, trivial⟩ 27 rfl rfl rfl hS (AgreeR.refl _) (t_sat (fun _ h => h) (hK () trivial))
            · -- 28
             rintro _ S hF hS D hp K hK
             try dsimp only at hF ⊢
             have s21 := hp 21 rfl
             refine d_need (small := [(16, (.int .i64 ((j : Nat) : Int))), (112, (.bool false))]) ⟨look_b rfl rfl, look_row rfl 21 rfl s21, trivial⟩ ?_
             refine t_guard rfl rfl ?_
             refine tp rfl (lv_move rfl) ?_
             exact d_closes ⟨look_b rfl rfl, look_row rfl 21 rfl s21, trivial⟩ 28 rfl rfl rfl hS (AgreeR.refl _) (t_sat (fun _ h => h) (hK () trivial))
            · -- 29
             rintro _ S hF hS D hp K hK
             try dsimp only at hF ⊢
             have s21 := hp 21 rfl
             have s28 := hp 28 rfl
             refine d_need (small := [(112, (.bool false)), (119, (.int .i64 ((j : Nat) : Int)))]) ⟨look_row rfl 21 rfl s21, look_row rfl 28 rfl s28, trivial⟩ ?_
             refine t_guard rfl rfl ?_
             refine tp rfl (lv_add (c := ((j + 1 : Nat) : Int)) rfl rfl (wr_i64_succ (by omega))) ?_
             exact d_closes ⟨look_row rfl 21 rfl s21, look_row rfl 28 rfl s28, trivial⟩ 29 rfl rfl rfl hS (AgreeR.refl _) (t_sat (fun _ h => h) (hK () trivial))
            · -- 30
             rintro _ S hF hS D hp K hK
             try dsimp only at hF ⊢
             have s21 := hp 21 rfl
             refine d_need (small := [(12, (.slice bs10 ((pathL NN EE b a).length) cp11)), (112, (.bool false))]) ⟨look_b rfl rfl, look_row rfl 21 rfl s21, trivial⟩ ?_
             refine t_guard rfl rfl ?_
             refine tp rfl (lv_move rfl) ?_
             exact d_closes ⟨look_b rfl rfl, look_row rfl 21 rfl s21, trivial⟩ 30 rfl rfl rfl hS (AgreeR.refl _) (t_sat (fun _ h => h) (hK () trivial))
            · -- 31
             rintro _ S hF hS D hp K hK
             try dsimp only at hF ⊢
             have s21 := hp 21 rfl
             have s30 := hp 30 rfl
             refine d_need (small := [(112, (.bool false)), (121, (.slice bs10 ((pathL NN EE b a).length) cp11))]) ⟨look_row rfl 21 rfl s21, look_row rfl 30 rfl s30, trivial⟩ ?_
             refine t_guard rfl rfl ?_
             refine tp rfl (lv_len Tryd.underlying33 rfl rfl) ?_
             exact d_closes ⟨look_row rfl 21 rfl s21, look_row rfl 30 rfl s30, trivial⟩ 31 rfl rfl rfl hS (AgreeR.refl _) (t_sat (fun _ h => h) (hK () trivial))
            · -- 32
             rintro _ S hF hS D hp K hK
             try dsimp only at hF ⊢
             have s21 := hp 21 rfl
             have s29 := hp 29 rfl
             have s31 := hp 31 rfl
             refine d_need (small := [(112, (.bool false)), (120, (.int .i64 ((j + 1 : Nat) : Int))), (122, (.int .i64 (((pathL NN EE b a).length : Nat) : Int)))]) ⟨look_row rfl 21 rfl s21, look_row rfl 29 rfl s29, look_row rfl 31 rfl s31, trivial⟩ ?_
             refine t_guard rfl rfl ?_
             refine tp rfl (lv_rem (c := (((j + 1) % (pathL NN EE b a).length : Nat) : Int)) rfl rfl (by omega) (rem_nat _ _)) ?_
             exact d_closes ⟨look_row rfl 21 rfl s21, look_row rfl 29 rfl s29, look_row rfl 31 rfl s31, trivial⟩ 32 rfl rfl rfl hS (AgreeR.refl _) (t_sat (fun _ h => h) (hK () trivial))
            · -- 33
             rintro _ S hF hS D hp K hK
             try dsimp only at hF ⊢
             have s21 := hp 21 rfl
             have s27 := hp 27 rfl
             have s32 := hp 32 rfl
             refine d_need (small := [(112, (.bool false)), (118, (.slice bs10 ((pathL NN EE b a).length) cp11)), (123, (.int .i64 (((j + 1) % (pathL NN EE b a).length : Nat) : Int)))]) ⟨look_row rfl 21 rfl s21, look_row rfl 27 rfl s27, look_row rfl 32 rfl s32, trivial⟩ ?_
             refine t_guard rfl rfl ?_
             refine tp rfl (lv_indexAddr (k' := (j + 1) % (pathL NN EE b a).length) Tryd.underlying33 Tryd.sizeOf3 rfl rfl hok12 (by have := Nat.mod_lt (j + 1) (show 0 < (pathL NN EE b a).length by omega); omega) (by have := Nat.mod_lt (j + 1) (show 0 < (pathL NN EE b a).length by omega); omega) (by have := Nat.mod_lt (j + 1) (show 0 < (pathL NN EE b a).length by omega); omega)) ?_
             exact d_closes ⟨look_row rfl 21 rfl s21, look_row rfl 27 rfl s27, look_row rfl 32 rfl s32, trivial⟩ 33 rfl rfl rfl hS (AgreeR.refl _) (t_sat (fun _ h => h) (hK () trivial))
            · -- 34
             rintro _ S hF hS D hp K hK
             try dsimp only at hF ⊢
             have s21 := hp 21 rfl
             have s33 := hp 33 rfl
             refine d_need (small := [(112, (.bool false)), (124, (.pointer (some (ad bs10 ((j + 1) % (pathL NN EE b a).length)))))]) ⟨look_row rfl 21 rfl s21, look_row rfl 33 rfl s33, trivial⟩ ?_
             refine t_guard rfl rfl ?_
             refine tp rfl (lv_load Tryd.isAgg3 rfl (gives_sl (.tail _ (.tail _ (.tail _ (.head _)))) (ints_get (Nat.mod_lt _ (by omega))))) ?_
             exact d_closes ⟨look_row rfl 21 rfl s21, look_row rfl 33 rfl s33, trivial⟩ 34 rfl rfl rfl hS (AgreeR.refl _) (t_sat (fun _ h => h) (hK () trivial))
            · -- 35
             rintro _ S hF hS D hp K hK
             try dsimp only at hF ⊢
             have s21 := hp 21 rfl
             have s22 := hp 22 rfl
             have s26 := hp 26 rfl
             have s34 := hp 34 rfl
             refine d_need (small := [(112, (.bool false)), (113, (.pointer (some ⟨p1, 0, none⟩))), (117, (.int .i64 ((pathL NN EE b a).getD j 0))), (125, (.int .i64 ((pathL NN EE b a).getD ((j + 1) % (pathL NN EE b a).length) 0)))]) ⟨look_row rfl 21 rfl s21, look_row rfl 22 rfl s22, look_row rfl 26 rfl s26, look_row rfl 34 rfl s34, trivial⟩ ?_
             refine t_guard rfl rfl ?_
             refine t_f2 ?_
             refine tc rfl (en_fn Tryd.call24 rfl) (hasE_ok (N := NN) (es := addE NN EE a b) ((pathL NN EE b a).getD j 0) ((pathL NN EE b a).getD ((j + 1) % (pathL NN EE b a).length) 0)) ?_
             rintro _ _ ⟨rfl, rfl⟩
             rw [show hasE (addE NN EE a b) ((pathL NN EE b a).getD j 0, (pathL NN EE b a).getD ((j + 1) % (pathL NN EE b a).length) 0) = true from (path_round hva hvb (by omega))]
             refine t_f2 ?_
             refine t_f2 ?_
             exact d_closes ⟨look_row rfl 21 rfl s21, look_row rfl 22 rfl s22, look_row rfl 26 rfl s26, look_row rfl 34 rfl s34, trivial⟩ 35 rfl rfl rfl hS (AgreeR.refl _) (t_sat (fun _ h => h) (hK () trivial))
            · -- 36
             rintro _ S hF hS D hp K hK
             try dsimp only at hF ⊢
             have s21 := hp 21 rfl
             have s35 := hp 35 rfl
             refine d_need (small := [(112, (.bool false)), (126, (.bool true))]) ⟨look_row rfl 21 rfl s21, look_row rfl 35 rfl s35, trivial⟩ ?_
             refine t_guard rfl rfl ?_
             refine tp rfl (lv_not (c := false) rfl rfl) ?_
             exact d_closes ⟨look_row rfl 21 rfl s21, look_row rfl 35 rfl s35, trivial⟩ 36 rfl rfl rfl hS (AgreeR.refl _) (t_sat (fun _ h => h) (hK () trivial))
            · -- 37
             rintro _ S hF hS D hp K hK
             try dsimp only at hF ⊢
             have s21 := hp 21 rfl
             have s36 := hp 36 rfl
             refine d_need (small := [(112, (.bool false)), (127, (.bool false))]) ⟨look_row rfl 21 rfl s21, look_row rfl 36 rfl s36, trivial⟩ ?_
             refine tp rfl (lv_pick_f rfl rfl) ?_
             exact d_closes ⟨look_row rfl 21 rfl s21, look_row rfl 36 rfl s36, trivial⟩ 37 rfl rfl rfl hS (AgreeR.refl _) (t_sat (fun _ h => h) (hK () trivial))
           · -- behind
            rintro _ hF
            try dsimp only at hF ⊢
            refine t_weak (E' := [(0, (.int .i64 n)), (1, (.slice beb es.length ceb)), (2, (.int .i64 a)), (3, (.int .i64 b)), (9, (.bool true)), (10, (.pointer (some ⟨p1, 0, none⟩))), (11, (.slice bs6 ((onL NN EE).length) cp7)), (12, (.slice bs10 ((pathL NN EE b a).length) cp11)), (13, (.slice bs14 ((onL NN (addE NN EE a b)).length) cp15)), (14, (.pointer (some ⟨b18, 0, none⟩))), (15, (.int .i64 ((i : Nat) : Int))), (16, (.int .i64 ((j : Nat) : Int))), (43, (.bool false)), (65, (.bool false)), (88, (.bool true)), (128, (.bool false))]) ⟨rfl, rfl, rfl, rfl, rfl, rfl, rfl, rfl, rfl, rfl, rfl, rfl, rfl, rfl, rfl, rfl, trivial⟩ ?_
            refine q_then_n (hK22 _ _ ?_)
            refine c_false rfl ?_
            refine c_skip ?_
            refine q_in_n ?_
            refine q_then_n (hK21 _ _ ?_)
            refine c_region ?_
            refine tp rfl (lv_move rfl) ?_
            refine tp rfl (lv_add (c := ((j + 1 : Nat) : Int)) rfl rfl (wr_i64_succ (by omega))) ?_
            refine tp rfl (lv_assign rfl) ?_
            refine t_done ?_
            refine q_then_n ?_
            exact t_weak (by exact ⟨rfl, rfl, rfl, rfl, rfl, rfl, rfl, rfl, rfl, rfl, rfl, rfl, rfl, rfl, trivial⟩) ((hK18 (j + 1) (by omega) (by omega)))
          · -- no
           refine tp rfl (lv_lss rfl rfl (decide_eq_false h20)) ?_
           refine t_done ?_
           refine q_then_n (hK20 _ _ ?_)
           refine c_false rfl ?_
           refine c_exit ?_
           refine q_then_x ?_
           refine q_then_x ?_
           refine q_in_x ?_
           refine q_then_n (hK16 _ _ ?_)
           refine c_seq (fun K21 hK21 => ?_)
           refine c_seq (fun K22 hK22 => ?_)
           refine c_region ?_
           refine tp rfl (lv_assign rfl) ?_
           refine t_done ?_
           refine q_then_n (hK22 _ _ ?_)
           refine c_block ?_
           refine c_loop (γ := (Nat)) (fun (y : Nat) => y ≤ (onL NN EE).length) (fun (y : Nat) => [(0, (.int .i64 n)), (1, (.slice beb es.length ceb)), (2, (.int .i64 a)), (3, (.int .i64 b)), (9, (.bool true)), (10, (.pointer (some ⟨p1, 0, none⟩))), (11, (.slice bs6 ((onL NN EE).length) cp7)), (12, (.slice bs10 ((pathL NN EE b a).length) cp11)), (13, (.slice bs14 ((onL NN (addE NN EE a b)).length) cp15)), (14, (.pointer (some ⟨b18, 0, none⟩))), (15, (.int .i64 ((i : Nat) : Int))), (16, (.int .i64 ((j : Nat) : Int))), (17, (.int .i64 ((y : Nat) : Int))), (43, (.bool false)), (65, (.bool false)), (88, (.bool false))]) (fun (y : Nat) => (Blk b18 (bools bs) 48) :: (SlV 3 1 (.slice bs14 ((onL NN (addE NN EE a b)).length) cp15) ((onL NN (addE NN EE a b)).length) (ints .i64 (onL NN (addE NN EE a b)))) :: (GraphO p1 NN (addE NN EE a b)) :: (SlV 3 1 (.slice bs10 ((pathL NN EE b a).length) cp11) ((pathL NN EE b a).length) (ints .i64 (pathL NN EE b a))) :: (SlV 3 1 (.slice bs6 ((onL NN EE).length) cp7) ((onL NN EE).length) (ints .i64 (onL NN EE))) :: R) (fun (y : Nat) => (onL NN EE).length - y) (0) (by omega) ⟨rfl, rfl, rfl, rfl, rfl, rfl, rfl, rfl, rfl, rfl, rfl, rfl, rfl, rfl, rfl, rfl, trivial⟩ (fun _ h => h) ?_
           rintro y K23 hF hK23
           try dsimp only at hF hK23 ⊢
           have hwi : y < (onL NN EE).length → 0 ≤ (onL NN EE).getD y 0 ∧ (onL NN EE).getD y 0 < NN := fun h => onL_in h
           refine c_seq (fun K24 hK24 => ?_)
           refine c_seq (fun K25 hK25 => ?_)
           refine c_region ?_
           refine tp rfl (lv_move rfl) ?_
           refine tp rfl (lv_move rfl) ?_
           refine tp rfl (lv_len Tryd.underlying33 rfl rfl) ?_
           by_cases h21 : ((y : Nat) : Int) < (((onL NN EE).length : Nat) : Int)
           · -- yes
            refine tp rfl (lv_lss rfl rfl (decide_eq_true h21)) ?_
            refine t_done ?_
            refine q_then_n (hK25 _ _ ?_)
            refine c_true rfl ?_
            refine c_skip ?_
            refine q_then_n (hK24 _ _ ?_)
            refine c_seq (fun K26 hK26 => ?_)
            refine c_block ?_
            refine c_seq (fun K27 hK27 => ?_)
            refine c_region ?_
            refine tp rfl (lv_move rfl) ?_
            refine tp rfl (lv_move rfl) ?_
            refine tp rfl (lv_indexAddr (k' := y) Tryd.underlying33 Tryd.sizeOf3 rfl rfl hok8 (by omega) (by omega) (by omega)) ?_
            refine tp rfl (lv_load Tryd.isAgg3 rfl (gives_sl (.tail _ (.tail _ (.tail _ (.tail _ (.head _))))) (ints_get (by omega)))) ?_
            refine tp rfl (lv_lss rfl rfl (decide_eq_false (by have := hwi (by omega); omega))) ?_
            refine tp rfl (lv_move rfl) ?_
            refine t_guard rfl rfl ?_
            refine tp rfl (lv_move rfl) ?_
            refine t_guard rfl rfl ?_
            refine tp rfl (lv_move rfl) ?_
            refine t_guard rfl rfl ?_
            refine tp rfl (lv_indexAddr (k' := y) Tryd.underlying33 Tryd.sizeOf3 rfl rfl hok8 (by omega) (by omega) (by omega)) ?_
            refine t_guard rfl rfl ?_
            refine tp rfl (lv_load Tryd.isAgg3 rfl (gives_sl (.tail _ (.tail _ (.tail _ (.tail _ (.head _))))) (ints_get (by omega)))) ?_
            refine t_guard rfl rfl ?_
            refine tp rfl (lv_geq rfl rfl (decide_eq_false (by have := hwi (by omega); omega))) ?_
            refine tp rfl (lv_pick_f rfl rfl) ?_
            refine tp rfl (lv_move rfl) ?_
            refine t_guard rfl rfl ?_
            refine tp rfl (lv_move rfl) ?_
            refine t_guard rfl rfl ?_
            refine tp rfl (lv_move rfl) ?_
            refine t_guard rfl rfl ?_
            refine tp rfl (lv_indexAddr (k' := y) Tryd.underlying33 Tryd.sizeOf3 rfl rfl hok8 (by omega) (by omega) (by omega)) ?_
            refine t_guard rfl rfl ?_
            refine tp rfl (lv_load Tryd.isAgg3 rfl (gives_sl (.tail _ (.tail _ (.tail _ (.tail _ (.head _))))) (ints_get (by omega)))) ?_
            refine t_guard rfl rfl ?_
            refine tp rfl (lv_indexArr (k' := ((onL NN EE).getD y 0).toNat) Tryd.underlying48 Tryd.sizeOf4 rfl rfl (by have := hwi (by omega); omega) (by have := hwi (by omega); omega) (by have := hwi (by omega); omega)) ?_
            refine t_guard rfl rfl ?_
            refine tp rfl (lv_load Tryd.isAgg4 rfl (gives_as (v := .bool true) (by rw [was_mark hgk hmk (by omega) (show y < (onL NN EE).length by omega)]) (gives_blk (.head _) (bools_get (by have := hwi (by omega); omega))))) ?_
            refine t_guard rfl rfl ?_
            refine tp rfl (lv_not (c := false) rfl rfl) ?_
            refine tp rfl (lv_pick_f rfl rfl) ?_
            refine t_done ?_
            refine q_then_n (hK27 _ _ ?_)
            refine c_false rfl ?_
            refine c_skip ?_
            refine q_in_n ?_
            refine q_then_n (hK26 _ _ ?_)
            refine c_region ?_
            refine tp rfl (lv_move rfl) ?_
            refine tp rfl (lv_add (c := ((y + 1 : Nat) : Int)) rfl rfl (wr_i64_succ (by omega))) ?_
            refine tp rfl (lv_assign rfl) ?_
            refine t_done ?_
            refine q_then_n ?_
            exact t_weak (by exact ⟨rfl, rfl, rfl, rfl, rfl, rfl, rfl, rfl, rfl, rfl, rfl, rfl, rfl, rfl, rfl, rfl, trivial⟩) ((hK23 (y + 1) (by omega) (by omega)))
           · -- no
            refine tp rfl (lv_lss rfl rfl (decide_eq_false h21)) ?_
            refine t_done ?_
            refine q_then_n (hK25 _ _ ?_)
            refine c_false rfl ?_
            refine c_exit ?_
            refine q_then_x ?_
            refine q_then_x ?_
            refine q_in_x ?_
            refine q_then_n (hK21 _ _ ?_)
            refine c_seq (fun K26 hK26 => ?_)
            refine c_region ?_
            refine tp rfl (lv_move rfl) ?_
            refine tp rfl (lv_move rfl) ?_
            refine t_guard rfl rfl ?_
            refine tp rfl (lv_move rfl) ?_
            refine t_guard rfl rfl ?_
            refine tp rfl (lv_len Tryd.underlying33 rfl rfl) ?_
            refine t_guard rfl rfl ?_
            by_cases hpos : (((pathL NN EE b a).length : Nat) : Int) > 0
            · -- yes
             refine tp rfl (lv_gtr rfl rfl (decide_eq_true hpos)) ?_
             refine t_guard rfl rfl ?_
             refine tp rfl (lv_move rfl) ?_
             refine t_skip rfl rfl rfl ?_
             refine t_skip rfl rfl rfl ?_
             refine t_skip rfl rfl rfl ?_
             refine t_guard rfl rfl ?_
             refine tp rfl (lv_pick_t rfl rfl) ?_
             refine tp rfl (lv_pick_t rfl rfl) ?_
             refine tp rfl (lv_assign rfl) ?_
             refine t_done ?_
             refine q_then_n (hK26 _ _ ?_)
             refine c_ret ?_
             refine t_drop ?_
             refine t_drop ?_
             refine t_drop ?_
             refine t_drop ?_
             refine t_drop ?_
             refine q_ret rfl rfl ?_
             exact ⟨rfl, rfl⟩
            · -- no
             refine tp rfl (lv_gtr rfl rfl (decide_eq_false hpos)) ?_
             refine t_guard rfl rfl ?_
             refine tp rfl (lv_move rfl) ?_
             refine t_guard rfl rfl ?_
             refine tp rfl (lv_move rfl) ?_
             refine t_guard rfl rfl ?_
             refine tp rfl (lv_move rfl) ?_
             refine t_guard rfl rfl ?_
             refine tc rfl (en_fn Tryd.call15 rfl) (ints_ok (onL NN EE) (onL NN (addE NN EE a b)) (rd_sl (.tail _ (.tail _ (.tail _ (.tail _ (.head _)))))) (rd_sl (.tail _ (.head _))) hok8 hok16 (by first | omega | (simp; omega) | (simp; done)) (by first | omega | (simp; omega) | (simp; done))) ?_
             rintro _ _ ⟨rfl, rfl⟩
             rw [show eqI (onL NN EE) (onL NN (addE NN EE a b)) = true from (by rw [on_same hgk hva hvb (by omega)]; exact eqI_refl _)]
             refine t_guard rfl rfl ?_
             refine tp rfl (lv_pick_f rfl rfl) ?_
             refine tp rfl (lv_pick_t rfl rfl) ?_
             refine tp rfl (lv_assign rfl) ?_
             refine t_done ?_
             refine q_then_n (hK26 _ _ ?_)
             refine c_ret ?_
             refine t_drop ?_
             refine t_drop ?_
             refine t_drop ?_
             refine t_drop ?_
             refine t_drop ?_
             refine q_ret rfl rfl ?_
             exact ⟨rfl, rfl⟩
end Go.Proofs.YtppgccafgfpkdaaDoor
