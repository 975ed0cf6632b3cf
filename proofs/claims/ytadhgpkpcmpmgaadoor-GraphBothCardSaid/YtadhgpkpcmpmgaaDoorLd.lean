/- GraphBoth: the law's walk. -/
import Derived.Test.YtadhgpkpcmpmgaaDoorLa
import Derived.Test.YtadhgpkpcmpmgaaDoorBot
set_option maxRecDepth 100000
set_option linter.unusedVariables false
set_option linter.unusedSimpArgs false
namespace Go.Proofs.YtadhgpkpcmpmgaaDoor
open Go Go.Proofs Sp
theorem both_ok {R : List HP} {bl : Option Addr} {cl : Nat} (n : Int) (es : List (Int × Int)) (hl : Rd R bl (pairs es)) (okl : SlOk bl es.length) (ll : es.length ≤ 9223372036854775807) (hT : Tab R) :
    Ok Tryd.prog 9 [(.int .i64 n), (.slice bl es.length cl)] R
      (fun v M => v = .bool true ∧ M = R) := by
  have hgk : GOk (clampN n) (madeE (clampN n) (es.take 200)) := GOk.made (clampN_le n) _
  have hln := made_len n es
  have hcn := clampN_le n
  refine ok_of (N := 95) Tryd.func9 rfl rfl rfl (fun W => ?_)
  refine c_seq (fun K1 hK1 => ?_)
  refine c_region ?_
  refine tp rfl (lv_assign rfl) ?_
  refine t_done ?_
  refine q_then_n (hK1 _ _ ?_)
  refine c_seq (fun K2 hK2 => ?_)
  refine c_region ?_
  refine tc rfl (en_fn Tryd.call10 rfl) (shown_ok hT) ?_
  rintro _ _ ⟨rfl, hMR⟩
  rw [hMR]; clear hMR
  refine tp rfl (lv_assign rfl) ?_
  refine t_done ?_
  refine q_then_n (hK2 _ _ ?_)
  refine c_seq (fun K3 hK3 => ?_)
  refine c_region ?_
  refine tp rfl (lv_move rfl) ?_
  refine tp rfl (lv_move rfl) ?_
  refine tc rfl (en_fn Tryd.call16 rfl) (made_ok n es hl okl (by omega)) ?_
  rintro _ _ ⟨p1, rfl, rfl⟩
  refine tp rfl (lv_assign rfl) ?_
  refine t_done ?_
  refine q_then_n (hK3 _ _ ?_)
  refine c_seq (fun K4 hK4 => ?_)
  refine c_seq (fun K5 hK5 => ?_)
  refine c_region ?_
  refine tp rfl (lv_move rfl) ?_
  refine tp rfl (lv_eqnil Tryd.underlying24 rfl rfl) ?_
  refine t_done ?_
  refine q_then_n (hK5 _ _ ?_)
  refine c_false rfl ?_
  refine c_skip ?_
  refine q_then_n (hK4 _ _ ?_)
  refine c_seq (fun K6 hK6 => ?_)
  refine c_region ?_
  refine tp rfl (lv_assign rfl) ?_
  refine t_done ?_
  refine q_then_n (hK6 _ _ ?_)
  refine c_seq (fun K7 hK7 => ?_)
  refine c_region ?_
  refine tp rfl (lv_assign rfl) ?_
  refine t_done ?_
  refine q_then_n (hK7 _ _ ?_)
  refine c_seq (fun K8 hK8 => ?_)
  refine c_seq (fun K9 hK9 => ?_)
  refine c_region ?_
  refine tp rfl (lv_assign rfl) ?_
  refine t_done ?_
  refine q_then_n (hK9 _ _ ?_)
  refine c_block ?_
  refine c_loop (γ := (Nat)) (fun (x : Nat) => x ≤ clampN n) (fun (x : Nat) => [(0, (.int .i64 n)), (1, (.slice bl es.length cl)), (5, (.bool true)), (6, (.pointer (some ⟨p1, 0, none⟩))), (7, (.int .i64 ((cntO (madeE (clampN n) (es.take 200)) x : Nat) : Int))), (8, (.int .i64 ((cntI (madeE (clampN n) (es.take 200)) x : Nat) : Int))), (9, (.int .i64 ((x : Nat) : Int))), (20, (.bool false))]) (fun (x : Nat) => (GraphO p1 (clampN n) (madeE (clampN n) (es.take 200))) :: R) (fun (x : Nat) => clampN n - x) (0) (by omega) ⟨rfl, rfl, rfl, rfl, (by rw [cntO_zero]; rfl), (by rw [cntI_zero]; rfl), rfl, rfl, trivial⟩ (fun _ h => h) ?_
  rintro x K10 hF hK10
  try dsimp only at hF hK10 ⊢
  refine c_seq (fun K11 hK11 => ?_)
  refine c_seq (fun K12 hK12 => ?_)
  refine c_region ?_
  by_cases hc2 : ((x : Nat) : Int) < ((clampN n : Nat) : Int) ∧ ((x : Nat) : Int) < 64
  · -- both
    have hc2a := hc2.1
    have hc2b := hc2.2
    refine tp rfl (lv_move rfl) ?_
    refine tp rfl (lv_move rfl) ?_
    refine tc rfl (en_fn Tryd.call18 rfl) (n_ok) ?_
    rintro _ _ ⟨rfl, rfl⟩
    refine tp rfl (lv_lss rfl rfl (decide_eq_true hc2.1)) ?_
    refine tp rfl (lv_move rfl) ?_
    refine t_guard rfl rfl ?_
    refine tp rfl (lv_move rfl) ?_
    refine t_guard rfl rfl ?_
    refine tp rfl (lv_lss rfl rfl (decide_eq_true hc2.2)) ?_
    refine tp rfl (lv_pick_t rfl rfl) ?_
    refine t_done ?_
    refine q_then_n (hK12 _ _ ?_)
    refine c_true rfl ?_
    refine c_skip ?_
    refine q_then_n (hK11 _ _ ?_)
    refine c_seq (fun K13 hK13 => ?_)
    refine c_block ?_
    refine c_seq (fun K14 hK14 => ?_)
    refine c_region ?_
    refine tp rfl (lv_move rfl) ?_
    refine tp rfl (lv_move rfl) ?_
    refine tc rfl (en_fn Tryd.call19 rfl) (out_ok (N := clampN n) (es := madeE (clampN n) (es.take 200)) ((x : Nat) : Int)) ?_
    rintro _ _ ⟨bs3, cp4, hok5, hle6, rfl, rfl⟩
    refine tp rfl (lv_assign rfl) ?_
    refine t_done ?_
    refine q_then_n (hK14 _ _ ?_)
    refine c_seq (fun K15 hK15 => ?_)
    refine c_region ?_
    refine tp rfl (lv_move rfl) ?_
    refine tp rfl (lv_move rfl) ?_
    refine tp rfl (lv_len Tryd.underlying33 rfl rfl) ?_
    refine tp rfl (lv_add (c := ((cntO (madeE (clampN n) (es.take 200)) (x + 1) : Nat) : Int)) rfl rfl (cntO_wr hln x)) ?_
    refine tp rfl (lv_assign rfl) ?_
    refine t_done ?_
    refine q_then_n (hK15 _ _ ?_)
    refine c_seq (fun K16 hK16 => ?_)
    refine c_region ?_
    refine tp rfl (lv_move rfl) ?_
    refine tp rfl (lv_move rfl) ?_
    refine tp rfl (lv_move rfl) ?_
    refine t_f1 ?_
    refine tc rfl (en_fn Tryd.call20 rfl) (in_ok (N := clampN n) (es := madeE (clampN n) (es.take 200)) ((x : Nat) : Int)) ?_
    rintro _ _ ⟨bs7, cp8, hok9, hle10, rfl, rfl⟩
    refine tp rfl (lv_len Tryd.underlying33 rfl rfl) ?_
    refine tp rfl (lv_add (c := ((cntI (madeE (clampN n) (es.take 200)) (x + 1) : Nat) : Int)) rfl rfl (cntI_wr hln x)) ?_
    refine tp rfl (lv_assign rfl) ?_
    refine t_done ?_
    refine q_then_n (hK16 _ _ ?_)
    refine c_seq (fun K17 hK17 => ?_)
    refine c_region ?_
    refine tp rfl (lv_assign rfl) ?_
    refine t_done ?_
    refine q_then_n (hK17 _ _ ?_)
    refine c_block ?_
    refine t_drop ?_
    refine c_loop (γ := (Nat)) (fun (i : Nat) => i ≤ (outs (madeE (clampN n) (es.take 200)) ((x : Nat) : Int)).length) (fun (i : Nat) => [(0, (.int .i64 n)), (1, (.slice bl es.length cl)), (5, (.bool true)), (6, (.pointer (some ⟨p1, 0, none⟩))), (7, (.int .i64 ((cntO (madeE (clampN n) (es.take 200)) (x + 1) : Nat) : Int))), (8, (.int .i64 ((cntI (madeE (clampN n) (es.take 200)) (x + 1) : Nat) : Int))), (9, (.int .i64 ((x : Nat) : Int))), (10, (.slice bs3 ((outs (madeE (clampN n) (es.take 200)) ((x : Nat) : Int)).length) cp4)), (11, (.int .i64 ((i : Nat) : Int))), (20, (.bool false)), (28, (.bool true))]) (fun (i : Nat) => (GraphO p1 (clampN n) (madeE (clampN n) (es.take 200))) :: (SlV 3 1 (.slice bs3 ((outs (madeE (clampN n) (es.take 200)) ((x : Nat) : Int)).length) cp4) ((outs (madeE (clampN n) (es.take 200)) ((x : Nat) : Int)).length) (ints .i64 (outs (madeE (clampN n) (es.take 200)) ((x : Nat) : Int)))) :: R) (fun (i : Nat) => (outs (madeE (clampN n) (es.take 200)) ((x : Nat) : Int)).length - i) (0) (by omega) ⟨rfl, rfl, rfl, rfl, rfl, rfl, rfl, rfl, rfl, rfl, rfl, trivial⟩ (fun _ h => h) ?_
    rintro i K18 hF hK18
    try dsimp only at hF hK18 ⊢
    have hol := outs_le (madeE (clampN n) (es.take 200)) ((x : Nat) : Int)
    refine c_seq (fun K19 hK19 => ?_)
    refine c_seq (fun K20 hK20 => ?_)
    refine c_region ?_
    refine tp rfl (lv_move rfl) ?_
    refine tp rfl (lv_move rfl) ?_
    refine tp rfl (lv_len Tryd.underlying33 rfl rfl) ?_
    by_cases h11 : ((i : Nat) : Int) < (((outs (madeE (clampN n) (es.take 200)) ((x : Nat) : Int)).length : Nat) : Int)
    · -- yes
      refine tp rfl (lv_lss rfl rfl (decide_eq_true h11)) ?_
      refine t_done ?_
      refine q_then_n (hK20 _ _ ?_)
      refine c_true rfl ?_
      refine c_skip ?_
      refine q_then_n (hK19 _ _ ?_)
      refine c_seq (fun K21 hK21 => ?_)
      refine c_block ?_
      refine c_seq (fun K22 hK22 => ?_)
      refine c_region ?_
      refine tp rfl (lv_move rfl) ?_
      refine tp rfl (lv_move rfl) ?_
      refine tp rfl (lv_move rfl) ?_
      refine tp rfl (lv_indexAddr (k' := i) Tryd.underlying33 Tryd.sizeOf3 rfl rfl hok5 (by omega) (by omega) (by omega)) ?_
      refine tp rfl (lv_load Tryd.isAgg3 rfl (gives_sl (.tail _ (.head _)) (ints_get (by omega)))) ?_
      refine tc rfl (en_fn Tryd.call20 rfl) (in_ok (N := clampN n) (es := madeE (clampN n) (es.take 200)) ((outs (madeE (clampN n) (es.take 200)) ((x : Nat) : Int)).getD i 0)) ?_
      rintro _ _ ⟨bs12, cp13, hok14, hle15, rfl, rfl⟩
      refine tp rfl (lv_assign rfl) ?_
      refine t_done ?_
      refine q_then_n (hK22 _ _ ?_)
      refine c_seq (fun K23 hK23 => ?_)
      refine c_region ?_
      refine tp rfl (lv_assign rfl) ?_
      refine t_done ?_
      refine q_then_n (hK23 _ _ ?_)
      refine c_seq (fun K24 hK24 => ?_)
      refine c_seq (fun K25 hK25 => ?_)
      refine c_region ?_
      refine tp rfl (lv_assign rfl) ?_
      refine t_done ?_
      refine q_then_n (hK25 _ _ ?_)
      refine c_block ?_
      refine c_loop (γ := (Nat)) (fun (k : Nat) => k ≤ (inns (madeE (clampN n) (es.take 200)) ((outs (madeE (clampN n) (es.take 200)) ((x : Nat) : Int)).getD i 0)).length) (fun (k : Nat) => [(0, (.int .i64 n)), (1, (.slice bl es.length cl)), (5, (.bool true)), (6, (.pointer (some ⟨p1, 0, none⟩))), (7, (.int .i64 ((cntO (madeE (clampN n) (es.take 200)) (x + 1) : Nat) : Int))), (8, (.int .i64 ((cntI (madeE (clampN n) (es.take 200)) (x + 1) : Nat) : Int))), (9, (.int .i64 ((x : Nat) : Int))), (10, (.slice bs3 ((outs (madeE (clampN n) (es.take 200)) ((x : Nat) : Int)).length) cp4)), (11, (.int .i64 ((i : Nat) : Int))), (12, (.slice bs12 ((inns (madeE (clampN n) (es.take 200)) ((outs (madeE (clampN n) (es.take 200)) ((x : Nat) : Int)).getD i 0)).length) cp13)), (13, (.int .i64 ((cntK (inns (madeE (clampN n) (es.take 200)) ((outs (madeE (clampN n) (es.take 200)) ((x : Nat) : Int)).getD i 0)) k ((x : Nat) : Int) : Nat) : Int))), (14, (.int .i64 ((k : Nat) : Int))), (20, (.bool false)), (28, (.bool true)), (47, (.bool true))]) (fun (k : Nat) => (SlV 3 1 (.slice bs12 ((inns (madeE (clampN n) (es.take 200)) ((outs (madeE (clampN n) (es.take 200)) ((x : Nat) : Int)).getD i 0)).length) cp13) ((inns (madeE (clampN n) (es.take 200)) ((outs (madeE (clampN n) (es.take 200)) ((x : Nat) : Int)).getD i 0)).length) (ints .i64 (inns (madeE (clampN n) (es.take 200)) ((outs (madeE (clampN n) (es.take 200)) ((x : Nat) : Int)).getD i 0)))) :: (GraphO p1 (clampN n) (madeE (clampN n) (es.take 200))) :: (SlV 3 1 (.slice bs3 ((outs (madeE (clampN n) (es.take 200)) ((x : Nat) : Int)).length) cp4) ((outs (madeE (clampN n) (es.take 200)) ((x : Nat) : Int)).length) (ints .i64 (outs (madeE (clampN n) (es.take 200)) ((x : Nat) : Int)))) :: R) (fun (k : Nat) => (inns (madeE (clampN n) (es.take 200)) ((outs (madeE (clampN n) (es.take 200)) ((x : Nat) : Int)).getD i 0)).length - k) (0) (by omega) ⟨rfl, rfl, rfl, rfl, rfl, rfl, rfl, rfl, rfl, rfl, rfl, rfl, rfl, rfl, rfl, trivial⟩ (fun _ h => h) ?_
      rintro k K26 hF hK26
      try dsimp only at hF hK26 ⊢
      have hil := inns_le (madeE (clampN n) (es.take 200)) ((outs (madeE (clampN n) (es.take 200)) ((x : Nat) : Int)).getD i 0)
      refine c_seq (fun K27 hK27 => ?_)
      refine c_seq (fun K28 hK28 => ?_)
      refine c_region ?_
      refine tp rfl (lv_move rfl) ?_
      refine tp rfl (lv_move rfl) ?_
      refine tp rfl (lv_len Tryd.underlying33 rfl rfl) ?_
      by_cases h16 : ((k : Nat) : Int) < (((inns (madeE (clampN n) (es.take 200)) ((outs (madeE (clampN n) (es.take 200)) ((x : Nat) : Int)).getD i 0)).length : Nat) : Int)
      · -- yes
        refine tp rfl (lv_lss rfl rfl (decide_eq_true h16)) ?_
        refine t_done ?_
        refine q_then_n (hK28 _ _ ?_)
        refine c_true rfl ?_
        refine c_skip ?_
        refine q_then_n (hK27 _ _ ?_)
        refine c_seq (fun K29 hK29 => ?_)
        refine c_block ?_
        refine c_seq (fun K30 hK30 => ?_)
        refine c_region ?_
        refine tp rfl (lv_move rfl) ?_
        refine tp rfl (lv_move rfl) ?_
        refine tp rfl (lv_indexAddr (k' := k) Tryd.underlying33 Tryd.sizeOf3 rfl rfl hok14 (by omega) (by omega) (by omega)) ?_
        refine tp rfl (lv_load Tryd.isAgg3 rfl (gives_sl (.head _) (ints_get (by omega)))) ?_
        refine tp rfl (lv_move rfl) ?_
        by_cases heq : ((inns (madeE (clampN n) (es.take 200)) ((outs (madeE (clampN n) (es.take 200)) ((x : Nat) : Int)).getD i 0)).getD k 0) = ((x : Nat) : Int)
        · -- yes
          refine tp rfl (lv_eql rfl rfl (beq_iff_eq.2 heq)) ?_
          refine t_done ?_
          refine q_then_n (hK30 _ _ ?_)
          refine c_true rfl ?_
          refine c_region ?_
          have hkl := cntK_le (inns (madeE (clampN n) (es.take 200)) ((outs (madeE (clampN n) (es.take 200)) ((x : Nat) : Int)).getD i 0)) k ((x : Nat) : Int)
          refine tp rfl (lv_move rfl) ?_
          refine tp rfl (lv_add (c := ((cntK (inns (madeE (clampN n) (es.take 200)) ((outs (madeE (clampN n) (es.take 200)) ((x : Nat) : Int)).getD i 0)) (k + 1) ((x : Nat) : Int) : Nat) : Int)) rfl rfl ((wr_i64 (by omega) (by omega)).trans (by rw [cntK_yes (by omega) heq]; push_cast; rfl))) ?_
          refine tp rfl (lv_assign rfl) ?_
          refine t_done ?_
          refine q_in_n ?_
          refine q_then_n (hK29 _ _ ?_)
          refine c_region ?_
          refine tp rfl (lv_move rfl) ?_
          refine tp rfl (lv_add (c := ((k + 1 : Nat) : Int)) rfl rfl (wr_i64_succ (by omega))) ?_
          refine tp rfl (lv_assign rfl) ?_
          refine t_done ?_
          refine q_then_n ?_
          exact t_weak (by exact ⟨rfl, rfl, rfl, rfl, rfl, rfl, rfl, rfl, rfl, rfl, rfl, rfl, rfl, rfl, rfl, trivial⟩) ((hK26 (k + 1) (by omega) (by omega)))
        · -- no
          refine tp rfl (lv_eql rfl rfl (beq_eq_false_iff_ne.2 heq)) ?_
          refine t_done ?_
          refine q_then_n (hK30 _ _ ?_)
          refine c_false rfl ?_
          refine c_skip ?_
          refine q_in_n ?_
          refine q_then_n (hK29 _ _ ?_)
          refine c_region ?_
          refine tp rfl (lv_move rfl) ?_
          refine tp rfl (lv_add (c := ((k + 1 : Nat) : Int)) rfl rfl (wr_i64_succ (by omega))) ?_
          refine tp rfl (lv_assign rfl) ?_
          refine t_done ?_
          refine q_then_n ?_
          rw [show cntK (inns (madeE (clampN n) (es.take 200)) ((outs (madeE (clampN n) (es.take 200)) ((x : Nat) : Int)).getD i 0)) k ((x : Nat) : Int) = cntK (inns (madeE (clampN n) (es.take 200)) ((outs (madeE (clampN n) (es.take 200)) ((x : Nat) : Int)).getD i 0)) (k + 1) ((x : Nat) : Int) from (cntK_no (by omega) ‹_›).symm]
          exact t_weak (by exact ⟨rfl, rfl, rfl, rfl, rfl, rfl, rfl, rfl, rfl, rfl, rfl, rfl, rfl, rfl, rfl, trivial⟩) ((hK26 (k + 1) (by omega) (by omega)))
      · -- no
        refine tp rfl (lv_lss rfl rfl (decide_eq_false h16)) ?_
        refine t_done ?_
        refine q_then_n (hK28 _ _ ?_)
        refine c_false rfl ?_
        refine c_exit ?_
        refine q_then_x ?_
        refine q_then_x ?_
        refine q_in_x ?_
        refine q_then_n (hK24 _ _ ?_)
        refine c_seq (fun K29 hK29 => ?_)
        refine c_region ?_
        refine tp rfl (lv_move rfl) ?_
        refine tp rfl (lv_neq rfl rfl (bne_eq_false_iff_eq.2 (once_at hgk (by omega) (by omega)))) ?_
        refine tp rfl (lv_move rfl) ?_
        refine t_guard rfl rfl ?_
        refine tp rfl (lv_move rfl) ?_
        refine t_guard rfl rfl ?_
        refine tp rfl (lv_move rfl) ?_
        refine t_guard rfl rfl ?_
        refine tp rfl (lv_move rfl) ?_
        refine t_guard rfl rfl ?_
        refine tp rfl (lv_move rfl) ?_
        refine t_guard rfl rfl ?_
        refine tp rfl (lv_indexAddr (k' := i) Tryd.underlying33 Tryd.sizeOf3 rfl rfl hok5 (by omega) (by omega) (by omega)) ?_
        refine t_guard rfl rfl ?_
        refine tp rfl (lv_load Tryd.isAgg3 rfl (gives_sl (.tail _ (.tail _ (.head _))) (ints_get (by omega)))) ?_
        refine t_guard rfl rfl ?_
        refine t_f1 ?_
        refine tc rfl (en_fn Tryd.call17 rfl) (hasE_ok (N := clampN n) (es := madeE (clampN n) (es.take 200)) ((x : Nat) : Int) ((outs (madeE (clampN n) (es.take 200)) ((x : Nat) : Int)).getD i 0)) ?_
        rintro _ _ ⟨rfl, rfl⟩
        rw [show hasE (madeE (clampN n) (es.take 200)) (((x : Nat) : Int), (outs (madeE (clampN n) (es.take 200)) ((x : Nat) : Int)).getD i 0) = true from (has_at (by omega))]
        refine t_guard rfl rfl ?_
        refine tp rfl (lv_not (c := false) rfl rfl) ?_
        refine tp rfl (lv_pick_f rfl rfl) ?_
        refine t_done ?_
        refine q_then_n (hK29 _ _ ?_)
        refine c_false rfl ?_
        refine c_skip ?_
        refine q_in_n ?_
        refine q_then_n (hK21 _ _ ?_)
        refine c_region ?_
        refine tp rfl (lv_move rfl) ?_
        refine tp rfl (lv_add (c := ((i + 1 : Nat) : Int)) rfl rfl (wr_i64_succ (by omega))) ?_
        refine tp rfl (lv_assign rfl) ?_
        refine t_done ?_
        refine q_then_n ?_
        refine t_f1 ?_
        refine t_drop ?_
        exact t_weak (by exact ⟨rfl, rfl, rfl, rfl, rfl, rfl, rfl, rfl, rfl, rfl, rfl, trivial⟩) ((hK18 (i + 1) (by omega) (by omega)))
    · -- no
      refine tp rfl (lv_lss rfl rfl (decide_eq_false h11)) ?_
      refine t_done ?_
      refine q_then_n (hK20 _ _ ?_)
      refine c_false rfl ?_
      refine c_exit ?_
      refine q_then_x ?_
      refine q_then_x ?_
      refine q_in_x ?_
      refine q_in_n ?_
      refine q_then_n (hK13 _ _ ?_)
      refine c_region ?_
      refine tp rfl (lv_move rfl) ?_
      refine tp rfl (lv_add (c := ((x + 1 : Nat) : Int)) rfl rfl (wr_i64_succ (by omega))) ?_
      refine tp rfl (lv_assign rfl) ?_
      refine t_done ?_
      refine q_then_n ?_
      refine t_f1 ?_
      refine t_drop ?_
      exact t_weak (by exact ⟨rfl, rfl, rfl, rfl, rfl, rfl, rfl, rfl, trivial⟩) ((hK10 (x + 1) (by omega) (by omega)))
  · -- not both
    refine t_cut0 (E' := [(0, (.int .i64 n)), (1, (.slice bl es.length cl)), (5, (.bool true)), (6, (.pointer (some ⟨p1, 0, none⟩))), (7, (.int .i64 ((cntO (madeE (clampN n) (es.take 200)) x : Nat) : Int))), (8, (.int .i64 ((cntI (madeE (clampN n) (es.take 200)) x : Nat) : Int))), (9, (.int .i64 ((x : Nat) : Int))), (20, (.bool false)), (28, (.bool false))]) ?_ (fun KK hKK => ?_)
    ·
      refine q_then_n (hK12 _ _ ?_)
      refine c_false rfl ?_
      refine c_exit ?_
      refine q_then_x ?_
      refine q_then_x ?_
      refine q_in_x ?_
      refine q_then_n (hK8 _ _ ?_)
      refine c_seq (fun K13 hK13 => ?_)
      refine c_region ?_
      refine tp rfl (lv_move rfl) ?_
      refine tp rfl (lv_move rfl) ?_
      refine t_guard rfl rfl ?_
      refine tp rfl (lv_move rfl) ?_
      refine t_guard rfl rfl ?_
      refine tp rfl (lv_move rfl) ?_
      refine t_guard rfl rfl ?_
      refine tc rfl (en_fn Tryd.call14 rfl) (len_ok) ?_
      rintro _ _ ⟨rfl, rfl⟩
      refine t_guard rfl rfl ?_
      refine tp rfl (lv_eql rfl rfl (beq_iff_eq.2 (by rw [show x = clampN n by omega, cntO_all hgk]))) ?_
      refine tp rfl (lv_pick_t rfl rfl) ?_
      refine tp rfl (lv_move rfl) ?_
      refine t_guard rfl rfl ?_
      refine tp rfl (lv_move rfl) ?_
      refine t_guard rfl rfl ?_
      refine tp rfl (lv_move rfl) ?_
      refine t_guard rfl rfl ?_
      refine tc rfl (en_fn Tryd.call14 rfl) (len_ok) ?_
      rintro _ _ ⟨rfl, rfl⟩
      refine t_guard rfl rfl ?_
      refine tp rfl (lv_eql rfl rfl (beq_iff_eq.2 (by rw [show x = clampN n by omega, cntI_all hgk]))) ?_
      refine tp rfl (lv_pick_t rfl rfl) ?_
      refine tp rfl (lv_assign rfl) ?_
      refine t_done ?_
      refine q_then_n (hK13 _ _ ?_)
      refine c_ret ?_
      refine t_drop ?_
      refine q_ret rfl rfl ?_
      exact ⟨rfl, rfl⟩
    · by_cases hc2A : ((x : Nat) : Int) < ((clampN n : Nat) : Int)
      ·
        have hc2B : ¬ (((x : Nat) : Int) < 64) := fun hh => hc2 ⟨hc2A, hh⟩
        refine tp rfl (lv_move rfl) ?_
        refine tp rfl (lv_move rfl) ?_
        refine tc rfl (en_fn Tryd.call18 rfl) (n_ok) ?_
        rintro _ _ ⟨rfl, rfl⟩
        refine tp rfl (lv_lss rfl rfl (decide_eq_true hc2A)) ?_
        refine tp rfl (lv_move rfl) ?_
        refine t_guard rfl rfl ?_
        refine tp rfl (lv_move rfl) ?_
        refine t_guard rfl rfl ?_
        refine tp rfl (lv_lss rfl rfl (decide_eq_false hc2B)) ?_
        refine tp rfl (lv_pick_t rfl rfl) ?_
        exact t_done (t_weak (by exact ⟨rfl, rfl, rfl, rfl, rfl, rfl, rfl, rfl, rfl, trivial⟩) hKK)
      ·
        refine tp rfl (lv_move rfl) ?_
        refine tp rfl (lv_move rfl) ?_
        refine tc rfl (en_fn Tryd.call18 rfl) (n_ok) ?_
        rintro _ _ ⟨rfl, rfl⟩
        refine tp rfl (lv_lss rfl rfl (decide_eq_false hc2A)) ?_
        refine tp rfl (lv_move rfl) ?_
        refine t_skip rfl rfl rfl ?_
        refine t_skip rfl rfl rfl ?_
        refine tp rfl (lv_pick_f rfl rfl) ?_
        exact t_done (t_weak (by exact ⟨rfl, rfl, rfl, rfl, rfl, rfl, rfl, rfl, rfl, trivial⟩) hKK)
end Go.Proofs.YtadhgpkpcmpmgaaDoor
