/- PrioNone: the law's walk. -/
import Derived.Test.YtlkcgpcgnhdnmaaDoorLa
set_option maxRecDepth 100000
set_option linter.unusedVariables false
set_option linter.unusedSimpArgs false
namespace Go.Proofs.YtlkcgpcgnhdnmaaDoor
open Go Go.Proofs Sp
theorem none_law {R : List HP} (n : Int) {beb : Option Addr} {ceb : Nat} (es : List (Int × Int)) (heb : Rd R beb (pairs es)) (okeb : SlOk beb es.length) (leb : es.length ≤ 9223372036854775807) (lceb : es.length ≤ ceb) (a0 a1 a2 : Int) (hT : Tab R) :
    Ok Tryd.prog 6 [(.int .i64 n), (.slice beb es.length ceb), (.agg #[(.int .i64 a0), (.int .i64 a1), (.int .i64 a2)])] R
      (fun v M => v = .bool true ∧ M = R) := by
  have hgk : GOk (clampN (min n 30)) (madeE (clampN (min n 30)) (es.take 100)) := GOk.made (clampN_le _) _
  have hcn := clampN_le (min n 30)
  obtain ⟨z, hz⟩ : ∃ z, max a2 0 = z := ⟨_, rfl⟩
  refine ok_of (N := 68) Tryd.func6 rfl rfl rfl (fun W => ?_)
  refine c_seq (fun K1 hK1 => ?_)
  refine c_region ?_
  refine tm rfl (mv_box rfl rfl) ?_
  rintro _ _ ⟨b1, rfl, rfl⟩
  refine tp rfl (lv_assign rfl) ?_
  refine t_done ?_
  refine q_then_n (hK1 _ _ ?_)
  refine c_seq (fun K2 hK2 => ?_)
  refine c_region ?_
  refine tc rfl (en_fn Tryd.call8 rfl) (shown_ok (Tab.cons hT)) ?_
  rintro _ _ ⟨rfl, rfl⟩
  refine tp rfl (lv_assign rfl) ?_
  refine t_done ?_
  refine q_then_n (hK2 _ _ ?_)
  refine c_seq (fun K3 hK3 => ?_)
  refine c_region ?_
  refine tp rfl (lv_move rfl) ?_
  refine tp rfl (lv_move rfl) ?_
  refine tc rfl (en_fn Tryd.call9 rfl) (made_ok n es (Rd.cons heb) okeb (by first | omega | decide)) ?_
  rintro _ _ ⟨p2, rfl, rfl⟩
  refine tp rfl (lv_assign rfl) ?_
  refine t_done ?_
  refine q_then_n (hK3 _ _ ?_)
  refine c_seq (fun K4 hK4 => ?_)
  refine c_seq (fun K5 hK5 => ?_)
  refine c_region ?_
  refine tp rfl (lv_move rfl) ?_
  refine tp rfl (lv_eqnil Tryd.underlying25 rfl rfl) ?_
  refine t_done ?_
  refine q_then_n (hK5 _ _ ?_)
  refine c_false rfl ?_
  refine c_skip ?_
  refine q_then_n (hK4 _ _ ?_)
  refine c_seq (fun K6 hK6 => ?_)
  refine c_region ?_
  obtain ⟨EE, hEE⟩ : ∃ x, madeE (clampN (min n 30)) (es.take 100) = x := ⟨_, rfl⟩
  rw [hEE] at hgk ⊢
  obtain ⟨NN, hNN⟩ : ∃ x, clampN (min n 30) = x := ⟨_, rfl⟩
  rw [hNN] at hgk hcn ⊢
  refine tp rfl (lv_fieldAddr (o' := 2) Tryd.underlying47 rfl Tryd.sizeOf3 rfl rfl) ?_
  refine tp rfl (lv_load Tryd.isAgg3 rfl (gives_blk (.tail _ (.head _)) rfl)) ?_
  refine tp rfl (lv_max (c := z) rfl rfl hz) ?_
  refine tp rfl (lv_fieldAddr (o' := 2) Tryd.underlying47 rfl Tryd.sizeOf3 rfl rfl) ?_
  refine t_f1 ?_
  refine ts (sv_blk Tryd.sizeOf3 rfl rfl rfl (Nat.le_of_ble_eq_true rfl) rfl) ?_
  refine t_done ?_
  refine q_then_n (hK6 _ _ ?_)
  refine c_seq (fun K7 hK7 => ?_)
  refine c_region ?_
  refine tp rfl (lv_move rfl) ?_
  refine t_f1 ?_
  refine tc rfl (en_fn Tryd.call15 rfl) (of_ok [] (by first | rfl | omega | (simp; done) | (simp; omega)) rd_nil slok_none (by first | rfl | omega | (simp; done) | (simp; omega)) (Tab.cons hT)) ?_
  rintro _ _ ⟨bs3, cp4, hok5, hle6, rfl, rfl⟩
  refine tp rfl (lv_assign rfl) ?_
  refine t_done ?_
  refine q_then_n (hK7 _ _ ?_)
  refine c_seq (fun K8 hK8 => ?_)
  refine c_region ?_
  refine tp rfl (lv_move rfl) ?_
  refine tp rfl (lv_loadAgg (cs := [(.int .i64 a0), (.int .i64 a1), (.int .i64 z)]) Tryd.isAgg47 Tryd.sizeOf47 rfl (gives_all3 (gives_blk (.tail _ (.tail _ (.head _))) rfl) (gives_blk (.tail _ (.tail _ (.head _))) rfl) (gives_blk (.tail _ (.tail _ (.head _))) rfl))) ?_
  refine tm rfl (mv_buildSlice (cs := [(.int .i64 a0), (.int .i64 a1), (.int .i64 z)]) Tryd.underlying23 Tryd.sizeOf47 Tryd.zeroValue47 (by decide) rfl rfl rfl rfl) ?_
  rintro _ _ ⟨bs7, cp8, hok9, hle10, rfl, rfl⟩
  refine t_f2 ?_
  refine tc rfl (en_fn Tryd.call15 rfl) (of_ok [(⟨a0, a1, z⟩ : R3)] (by first | rfl | omega | (simp; done) | (simp; omega)) (rd_sl (.head _)) hok9 (by first | rfl | omega | (simp; done) | (simp; omega)) (Tab.cons (Tab.cons (Tab.cons hT)))) ?_
  rintro _ _ ⟨bs11, cp12, hok13, hle14, rfl, rfl⟩
  refine tp rfl (lv_assign rfl) ?_
  refine t_done ?_
  refine q_then_n (hK8 _ _ ?_)
  refine c_seq (fun K9 hK9 => ?_)
  refine c_seq (fun K10 hK10 => ?_)
  refine c_region ?_
  refine tp rfl (lv_move rfl) ?_
  refine tp rfl (lv_len Tryd.underlying38 rfl rfl) ?_
  refine tp rfl (lv_move rfl) ?_
  refine t_f1 ?_
  refine tc rfl (en_fn Tryd.call21 rfl) (n_ok) ?_
  rintro _ _ ⟨rfl, rfl⟩
  refine tp rfl (lv_neq rfl rfl (bne_eq_false_iff_eq.2 rfl)) ?_
  refine tp rfl (lv_move rfl) ?_
  refine t_guard rfl rfl ?_
  refine tp rfl (lv_move rfl) ?_
  refine t_guard rfl rfl ?_
  refine tp rfl (lv_len Tryd.underlying38 rfl rfl) ?_
  refine t_guard rfl rfl ?_
  refine tp rfl (lv_move rfl) ?_
  refine t_guard rfl rfl ?_
  refine tc rfl (en_fn Tryd.call21 rfl) (n_ok) ?_
  rintro _ _ ⟨rfl, rfl⟩
  refine t_guard rfl rfl ?_
  refine tp rfl (lv_neq rfl rfl (bne_eq_false_iff_eq.2 rfl)) ?_
  refine tp rfl (lv_pick_f rfl rfl) ?_
  refine t_done ?_
  refine q_then_n (hK10 _ _ ?_)
  refine c_false rfl ?_
  refine c_skip ?_
  refine q_then_n (hK9 _ _ ?_)
  refine c_seq (fun K11 hK11 => ?_)
  refine c_seq (fun K12 hK12 => ?_)
  refine c_region ?_
  refine tp rfl (lv_assign rfl) ?_
  refine t_done ?_
  refine q_then_n (hK12 _ _ ?_)
  refine c_block ?_
  refine t_f2 ?_
  refine t_drop ?_
  refine c_loop (γ := (Nat)) (fun (i : Nat) => i ≤ NN) (fun (i : Nat) => [(0, (.int .i64 n)), (1, (.slice beb es.length ceb)), (2, (.agg #[(.int .i64 a0), (.int .i64 a1), (.int .i64 a2)])), (5, (.pointer (some ⟨b1, 0, none⟩))), (7, (.bool true)), (8, (.pointer (some ⟨p2, 0, none⟩))), (9, (.slice bs3 NN cp4)), (10, (.slice bs11 NN cp12)), (11, (.int .i64 ((i : Nat) : Int))), (18, (.bool false)), (40, (.bool false))]) (fun (i : Nat) => (GraphO p2 NN EE) :: (SlV 3 1 (.slice bs11 NN cp12) NN (ints .i64 (ofL NN EE [(⟨a0, a1, z⟩ : R3)]))) :: (SlV 3 1 (.slice bs3 NN cp4) NN (ints .i64 (ofL NN EE []))) :: (Blk b1 [(.int .i64 a0), (.int .i64 a1), (.int .i64 z)] 47) :: R) (fun (i : Nat) => NN - i) (0) (by omega) ⟨rfl, rfl, rfl, rfl, rfl, rfl, rfl, rfl, rfl, rfl, rfl, trivial⟩ (fun _ h => h) ?_
  rintro i K13 hF hK13
  try dsimp only at hF hK13 ⊢
  have hl0 := ofL_len NN EE []
  have hl1 := ofL_len NN EE [(⟨a0, a1, z⟩ : R3)]
  refine c_seq (fun K14 hK14 => ?_)
  refine c_seq (fun K15 hK15 => ?_)
  refine c_region ?_
  refine tp rfl (lv_move rfl) ?_
  refine tp rfl (lv_move rfl) ?_
  refine tp rfl (lv_len Tryd.underlying38 rfl rfl) ?_
  by_cases h15 : ((i : Nat) : Int) < ((NN : Nat) : Int)
  · -- yes
    refine tp rfl (lv_lss rfl rfl (decide_eq_true h15)) ?_
    refine t_done ?_
    refine q_then_n (hK15 _ _ ?_)
    refine c_true rfl ?_
    refine c_skip ?_
    refine q_then_n (hK14 _ _ ?_)
    refine c_seq (fun K16 hK16 => ?_)
    refine c_block ?_
    refine c_seq (fun K17 hK17 => ?_)
    refine c_region ?_
    refine tp rfl (lv_assign rfl) ?_
    refine t_done ?_
    refine q_then_n (hK17 _ _ ?_)
    refine c_seq (fun K18 hK18 => ?_)
    refine c_seq (fun K19 hK19 => ?_)
    refine c_region ?_
    refine tp rfl (lv_move rfl) ?_
    refine tp rfl (lv_fieldAddr (o' := 0) Tryd.underlying47 rfl Tryd.sizeOf3 rfl rfl) ?_
    refine tp rfl (lv_load Tryd.isAgg3 rfl (gives_blk (.tail _ (.tail _ (.tail _ (.head _)))) rfl)) ?_
    refine tp rfl (lv_move rfl) ?_
    refine tc rfl (en_fn Tryd.call20 rfl) (reaches_ok (N := NN) (es := EE) a0 ((i : Nat) : Int) (Tab.cons (Tab.cons (Tab.cons hT)))) ?_
    rintro _ _ ⟨rfl, rfl⟩
    refine t_done ?_
    refine q_then_n (hK19 _ _ ?_)
    refine c_split rfl (fun c16 => ?_) (fun c16 => ?_)
    · -- true
      refine c_region ?_
      refine tp rfl (lv_fieldAddr (o' := 2) Tryd.underlying47 rfl Tryd.sizeOf3 rfl rfl) ?_
      refine tp rfl (lv_load Tryd.isAgg3 rfl (gives_blk (.tail _ (.tail _ (.tail _ (.head _)))) rfl)) ?_
      refine tp rfl (lv_assign rfl) ?_
      refine t_done ?_
      refine q_then_n (hK18 _ _ ?_)
      refine c_seq (fun K20 hK20 => ?_)
      refine c_region ?_
      refine tp rfl (lv_move rfl) ?_
      refine tp rfl (lv_move rfl) ?_
      refine tp rfl (lv_indexAddr (k' := i) Tryd.underlying38 Tryd.sizeOf3 rfl rfl hok5 (by omega) (by omega) (by omega)) ?_
      refine tp rfl (lv_load Tryd.isAgg3 rfl (gives_sl (.tail _ (.tail _ (.head _))) (ints_get (by omega)))) ?_
      refine tp rfl (lv_neq rfl rfl (bne_eq_false_iff_eq.2 (of_none (by omega)))) ?_
      refine tp rfl (lv_move rfl) ?_
      refine t_guard rfl rfl ?_
      refine tp rfl (lv_move rfl) ?_
      refine t_guard rfl rfl ?_
      refine tp rfl (lv_move rfl) ?_
      refine t_guard rfl rfl ?_
      refine tp rfl (lv_indexAddr (k' := i) Tryd.underlying38 Tryd.sizeOf3 rfl rfl hok13 (by omega) (by omega) (by omega)) ?_
      refine t_guard rfl rfl ?_
      refine tp rfl (lv_load Tryd.isAgg3 rfl (gives_sl (.tail _ (.head _)) (ints_get (by omega)))) ?_
      refine t_guard rfl rfl ?_
      refine tp rfl (lv_move rfl) ?_
      refine t_guard rfl rfl ?_
      refine tp rfl (lv_neq rfl rfl (bne_eq_false_iff_eq.2 (by first | exact (of_one_y (r := ⟨a0, a1, z⟩) (by omega) ‹reachB NN EE a0 ((i : Nat) : Int) = true›).trans (by show max (-1) z = z; omega) | exact of_one_n (r := ⟨a0, a1, z⟩) (by omega) ‹reachB NN EE a0 ((i : Nat) : Int) = false›))) ?_
      refine tp rfl (lv_pick_f rfl rfl) ?_
      refine t_done ?_
      refine q_then_n (hK20 _ _ ?_)
      refine c_false rfl ?_
      refine c_skip ?_
      refine q_in_n ?_
      refine q_then_n (hK16 _ _ ?_)
      refine c_region ?_
      refine tp rfl (lv_move rfl) ?_
      refine tp rfl (lv_add (c := ((i + 1 : Nat) : Int)) rfl rfl (wr_i64_succ (by omega))) ?_
      refine tp rfl (lv_assign rfl) ?_
      refine t_done ?_
      refine q_then_n ?_
      exact t_weak (by exact ⟨rfl, rfl, rfl, rfl, rfl, rfl, rfl, rfl, rfl, rfl, rfl, trivial⟩) ((hK13 (i + 1) (by omega) (by omega)))
    · -- false
      refine c_skip ?_
      refine q_then_n (hK18 _ _ ?_)
      refine c_seq (fun K20 hK20 => ?_)
      refine c_region ?_
      refine tp rfl (lv_move rfl) ?_
      refine tp rfl (lv_move rfl) ?_
      refine tp rfl (lv_indexAddr (k' := i) Tryd.underlying38 Tryd.sizeOf3 rfl rfl hok5 (by omega) (by omega) (by omega)) ?_
      refine tp rfl (lv_load Tryd.isAgg3 rfl (gives_sl (.tail _ (.tail _ (.head _))) (ints_get (by omega)))) ?_
      refine tp rfl (lv_neq rfl rfl (bne_eq_false_iff_eq.2 (of_none (by omega)))) ?_
      refine tp rfl (lv_move rfl) ?_
      refine t_guard rfl rfl ?_
      refine tp rfl (lv_move rfl) ?_
      refine t_guard rfl rfl ?_
      refine tp rfl (lv_move rfl) ?_
      refine t_guard rfl rfl ?_
      refine tp rfl (lv_indexAddr (k' := i) Tryd.underlying38 Tryd.sizeOf3 rfl rfl hok13 (by omega) (by omega) (by omega)) ?_
      refine t_guard rfl rfl ?_
      refine tp rfl (lv_load Tryd.isAgg3 rfl (gives_sl (.tail _ (.head _)) (ints_get (by omega)))) ?_
      refine t_guard rfl rfl ?_
      refine tp rfl (lv_move rfl) ?_
      refine t_guard rfl rfl ?_
      refine tp rfl (lv_neq rfl rfl (bne_eq_false_iff_eq.2 (by first | exact (of_one_y (r := ⟨a0, a1, z⟩) (by omega) ‹reachB NN EE a0 ((i : Nat) : Int) = true›).trans (by show max (-1) z = z; omega) | exact of_one_n (r := ⟨a0, a1, z⟩) (by omega) ‹reachB NN EE a0 ((i : Nat) : Int) = false›))) ?_
      refine tp rfl (lv_pick_f rfl rfl) ?_
      refine t_done ?_
      refine q_then_n (hK20 _ _ ?_)
      refine c_false rfl ?_
      refine c_skip ?_
      refine q_in_n ?_
      refine q_then_n (hK16 _ _ ?_)
      refine c_region ?_
      refine tp rfl (lv_move rfl) ?_
      refine tp rfl (lv_add (c := ((i + 1 : Nat) : Int)) rfl rfl (wr_i64_succ (by omega))) ?_
      refine tp rfl (lv_assign rfl) ?_
      refine t_done ?_
      refine q_then_n ?_
      exact t_weak (by exact ⟨rfl, rfl, rfl, rfl, rfl, rfl, rfl, rfl, rfl, rfl, rfl, trivial⟩) ((hK13 (i + 1) (by omega) (by omega)))
  · -- no
    refine tp rfl (lv_lss rfl rfl (decide_eq_false h15)) ?_
    refine t_done ?_
    refine q_then_n (hK15 _ _ ?_)
    refine c_false rfl ?_
    refine c_exit ?_
    refine q_then_x ?_
    refine q_then_x ?_
    refine q_in_x ?_
    refine q_then_n (hK11 _ _ ?_)
    refine c_seq (fun K16 hK16 => ?_)
    refine c_region ?_
    refine tp rfl (lv_move rfl) ?_
    refine tp rfl (lv_assign rfl) ?_
    refine t_done ?_
    refine q_then_n (hK16 _ _ ?_)
    refine c_ret ?_
    refine t_drop ?_
    refine t_drop ?_
    refine t_drop ?_
    refine t_drop ?_
    refine q_ret rfl rfl ?_
    exact ⟨rfl, rfl⟩
end Go.Proofs.YtlkcgpcgnhdnmaaDoor
