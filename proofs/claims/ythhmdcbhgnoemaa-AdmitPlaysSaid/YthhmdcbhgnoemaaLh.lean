/- AdmitPlays: the law's walk. -/
import Derived.Test.YthhmdcbhgnoemaaLa
import Derived.Test.YthhmdcbhgnoemaaRd
set_option maxRecDepth 100000
set_option linter.unusedVariables false
set_option linter.unusedSimpArgs false
namespace Go.Proofs.Ythhmdcbhgnoemaa
open Go Go.Proofs Sp
set_option maxHeartbeats 4000000 in
theorem plays_ok {R : List HP} {bl : Option Addr} {cl : Nat} (A Q : Int) (es : List (Int × Int)) (hl : Rd R bl (pairs es)) (okl : SlOk bl es.length) (ll : es.length ≤ 9223372036854775807) (hA : -9223372036854775808 ≤ A ∧ A ≤ 9223372036854775807) :
    Ok Try.prog 3 [(.int .i64 A), (.int .i64 Q), (.slice bl es.length cl)] R
      (fun v M => v = .bool true ∧ M = R) := by
  refine ok_of (N := 178) Try.func3 rfl rfl rfl (fun W => ?_)
  refine c_seq (fun K1 hK1 => ?_)
  refine c_region ?_
  refine tp rfl (lv_assign rfl) ?_
  refine t_done ?_
  refine q_then_n (hK1 _ _ ?_)
  refine c_seq (fun K2 hK2 => ?_)
  refine c_region ?_
  refine tc rfl (en_fn Try.call10 rfl) (shown_ok) ?_
  rintro _ _ ⟨rfl, hMR⟩
  rw [hMR]; clear hMR
  refine tp rfl (lv_assign rfl) ?_
  refine t_done ?_
  refine q_then_n (hK2 _ _ ?_)
  refine c_seq (fun K3 hK3 => ?_)
  refine c_region ?_
  refine tp rfl (lv_move rfl) ?_
  refine tp rfl (lv_move rfl) ?_
  refine tc rfl (en_fn Try.call11 rfl) (anew_ok A Q) ?_
  rintro _ _ ⟨p1, rfl, rfl⟩
  refine tp rfl (lv_assign rfl) ?_
  refine t_done ?_
  refine q_then_n (hK3 _ _ ?_)
  refine c_seq (fun K4 hK4 => ?_)
  refine c_region ?_
  refine tp rfl (lv_move rfl) ?_
  refine tp rfl (lv_move rfl) ?_
  refine tp rfl (lv_build (cs := [(.int .i64 A), (.int .i64 Q), (.slice none 0 0)]) (pl := [(0, 1), (1, 1), (2, 1)]) Try.underlying29 Try.zeroValue29 (fun _ => by simp) rfl rfl) ?_
  refine tm rfl (mv_box rfl rfl) ?_
  rintro _ _ ⟨b2, rfl, rfl⟩
  refine tp rfl (lv_assign rfl) ?_
  refine t_done ?_
  refine q_then_n (hK4 _ _ ?_)
  refine c_seq (fun K5 hK5 => ?_)
  refine c_seq (fun K6 hK6 => ?_)
  refine c_region ?_
  refine tp rfl (lv_move rfl) ?_
  refine tp rfl (lv_eqnil Try.underlying24 rfl rfl) ?_
  refine t_done ?_
  refine q_then_n (hK6 _ _ ?_)
  refine c_false rfl ?_
  refine c_skip ?_
  refine q_then_n (hK5 _ _ ?_)
  refine c_seq (fun K7 hK7 => ?_)
  refine c_seq (fun K8 hK8 => ?_)
  refine c_region ?_
  refine t_sat (fun _ h => sat_nilsl 3 1 h) ?_
  refine t_f1 ?_
  refine t_shutRow (l := []) slok_none (Nat.le_refl _) ?_
  refine tp rfl (lv_assign rfl) ?_
  refine t_done ?_
  refine q_then_n (hK8 _ _ ?_)
  refine c_block ?_
  refine c_loop (γ := (Nat) × (AS)) (fun (i, s) => i ≤ es.length ∧ i ≤ 200 ∧ s.a.length + s.q.length ≤ i) (fun (i, s) => [(0, (.int .i64 A)), (1, (.int .i64 Q)), (2, (.slice bl es.length cl)), (7, (.bool true)), (8, (.pointer (some ⟨p1, 0, none⟩))), (9, (.pointer (some ⟨b2, 0, none⟩))), (10, (.int .i64 ((i : Nat) : Int))), (39, (.bool false))]) (fun (i, s) => (RowO b2 A Q (rowOf s)) :: (AdmO p1 (max A 1) (max Q 0) s) :: R) (fun (i, s) => es.length - i) (0, ⟨[], []⟩) ⟨by omega, by omega, by decide⟩ ⟨rfl, rfl, rfl, rfl, rfl, rfl, rfl, rfl, trivial⟩ (fun _ h => h) ?_
  rintro ⟨i, s⟩ K9 hF hK9
  try dsimp only at hF hK9 ⊢
  obtain ⟨hi, hi2, hsl⟩ := hF
  refine c_seq (fun K10 hK10 => ?_)
  refine c_seq (fun K11 hK11 => ?_)
  refine c_region ?_
  by_cases hc3 : ((i : Nat) : Int) < ((es.length : Nat) : Int) ∧ ((i : Nat) : Int) < 200
  · -- both
    have hc3a := hc3.1
    have hc3b := hc3.2
    refine tp rfl (lv_move rfl) ?_
    refine tp rfl (lv_move rfl) ?_
    refine tp rfl (lv_len Try.underlying22 rfl rfl) ?_
    refine tp rfl (lv_lss rfl rfl (decide_eq_true hc3.1)) ?_
    refine tp rfl (lv_move rfl) ?_
    refine t_guard rfl rfl ?_
    refine tp rfl (lv_move rfl) ?_
    refine t_guard rfl rfl ?_
    refine tp rfl (lv_lss rfl rfl (decide_eq_true hc3.2)) ?_
    refine tp rfl (lv_pick_t rfl rfl) ?_
    refine t_done ?_
    refine q_then_n (hK11 _ _ ?_)
    refine c_true rfl ?_
    refine c_skip ?_
    refine q_then_n (hK10 _ _ ?_)
    refine c_seq (fun K12 hK12 => ?_)
    refine c_block ?_
    refine c_seq (fun K13 hK13 => ?_)
    refine c_region ?_
    refine t_f1 ?_
    refine t_learn (fun _ h => aok_of h) (fun hok => ?_)
    have hokla := hok.la
    have hoklq := hok.lq
    refine tp rfl (lv_move rfl) ?_
    refine tp rfl (lv_move rfl) ?_
    refine tp rfl (lv_indexAddr (k' := i * 2) Try.underlying22 Try.sizeOf31 rfl rfl okl (by omega) (by omega) (by omega)) ?_
    refine tp rfl (lv_loadAgg_ad (cs := [(.int .i64 (((es).getD i (0, 0)).1)), (.int .i64 (((es).getD i (0, 0)).2))]) Try.isAgg31 Try.sizeOf31 rfl (gives_all2 (Rd.gives (Rd.cons (Rd.cons hl)) (pairs_get0 (by omega))) (Rd.gives (Rd.cons (Rd.cons hl)) (pairs_get1 (by omega))))) ?_
    refine tm rfl (mv_alloc Try.zeroValue31 rfl) ?_
    rintro _ _ ⟨b4, rfl, rfl⟩
    refine ts (sv_blkAgg (news := [(.int .i64 (((es).getD i (0, 0)).1)), (.int .i64 (((es).getD i (0, 0)).2))]) Try.sizeOf31 rfl rfl rfl rfl (Nat.le_of_ble_eq_true rfl) rfl) ?_
    refine t_done ?_
    refine q_then_n (hK13 _ _ ?_)
    refine c_seq (fun K14 hK14 => ?_)
    refine c_region ?_
    refine tp rfl (lv_assign rfl) ?_
    refine t_done ?_
    refine q_then_n (hK14 _ _ ?_)
    refine c_seq (fun K15 hK15 => ?_)
    refine c_seq (fun K16 hK16 => ?_)
    refine c_region ?_
    refine tp rfl (lv_fieldAddr (o' := 0) Try.underlying31 rfl Try.sizeOf3 rfl rfl) ?_
    refine tp rfl (lv_load Try.isAgg3 rfl (gives_blk (.head _) rfl)) ?_
    refine t_done ?_
    refine q_then_n (hK16 _ _ ?_)
    refine c_block ?_
    refine c_seq (fun K17 hK17 => ?_)
    refine c_seq (fun K18 hK18 => ?_)
    refine c_region ?_
    by_cases h5 : (((es).getD i (0, 0)).1) = 1
    · -- yes
      refine tp rfl (lv_eql rfl rfl (beq_iff_eq.2 h5)) ?_
      refine tp rfl (lv_assign rfl) ?_
      refine t_done ?_
      refine q_then_n (hK18 _ _ ?_)
      refine c_true rfl ?_
      refine c_skip ?_
      refine q_then_n (hK17 _ _ ?_)
      refine c_true rfl ?_
      refine c_seq (fun K19 hK19 => ?_)
      refine c_region ?_
      refine tp rfl (lv_move rfl) ?_
      refine tp rfl (lv_fieldAddr (o' := 1) Try.underlying31 rfl Try.sizeOf3 rfl rfl) ?_
      refine tp rfl (lv_load Try.isAgg3 rfl (gives_blk (.head _) rfl)) ?_
      refine t_f1 ?_
      refine tc rfl (en_fn Try.call12 rfl) (aadd_ok (A := max A 1) (Q := max Q 0) (s := s) (((es).getD i (0, 0)).2) (by omega)) ?_
      rintro _ _ ⟨rfl, rfl⟩
      refine tp rfl (lv_move rfl) ?_
      refine tp rfl (lv_extract rfl rfl) ?_
      refine tp rfl (lv_extract rfl rfl) ?_
      refine tp rfl (lv_assign rfl) ?_
      refine tp rfl (lv_assign rfl) ?_
      refine t_done ?_
      refine q_then_n (hK19 _ _ ?_)
      refine c_seq (fun K20 hK20 => ?_)
      refine c_region ?_
      refine tp rfl (lv_move rfl) ?_
      refine tp rfl (lv_fieldAddr (o' := 1) Try.underlying31 rfl Try.sizeOf3 rfl rfl) ?_
      refine tp rfl (lv_load Try.isAgg3 rfl (gives_blk (.tail _ (.head _)) rfl)) ?_
      refine t_f2 ?_
      refine tc rfl (en_fn Try.call13 rfl) (radd_ok (A := A) (Q := Q) (s := s) hok (((es).getD i (0, 0)).2) hA (by rw [show (rowOf s).length = s.a.length + s.q.length by simp [rowOf]]; omega)) ?_
      rintro _ _ ⟨rfl, rfl⟩
      refine tp rfl (lv_move rfl) ?_
      refine tp rfl (lv_extract rfl rfl) ?_
      refine tp rfl (lv_extract rfl rfl) ?_
      refine tp rfl (lv_assign rfl) ?_
      refine tp rfl (lv_assign rfl) ?_
      refine t_done ?_
      refine q_then_n (hK20 _ _ ?_)
      refine c_region ?_
      refine tp rfl (lv_move rfl) ?_
      refine tp rfl (lv_move rfl) ?_
      refine tp rfl (lv_eql rfl rfl (beq_iff_eq.2 rfl)) ?_
      refine tp rfl (lv_move rfl) ?_
      refine t_guard rfl rfl ?_
      refine tp rfl (lv_move rfl) ?_
      refine t_guard rfl rfl ?_
      refine tp rfl (lv_move rfl) ?_
      refine t_guard rfl rfl ?_
      refine tp rfl (lv_eql rfl rfl (beq_iff_eq.2 rfl)) ?_
      refine tp rfl (lv_pick_t rfl rfl) ?_
      refine tp rfl (lv_assign rfl) ?_
      refine t_done ?_
      refine q_in_n ?_
      refine q_then_n (hK15 _ _ ?_)
      refine c_seq (fun K21 hK21 => ?_)
      refine c_region ?_
      have hgr := addS_len (max A 1) (max Q 0) s (((es).getD i (0, 0)).2)
      have hok2 := hok.add (((es).getD i (0, 0)).2)
      obtain ⟨u, hu⟩ : ∃ x, addS (max A 1) (max Q 0) s (((es).getD i (0, 0)).2) = x := ⟨_, rfl⟩
      rw [hu] at hok2 hgr ⊢
      have hrl : (rowOf u).length = u.a.length + u.q.length := by simp [rowOf]
      refine tp rfl (lv_move rfl) ?_
      refine t_f1 ?_
      refine tc rfl (en_fn Try.call16 rfl) (actives_ok (A := max A 1) (Q := max Q 0) (s := u) (by omega)) ?_
      rintro _ _ ⟨bs6, cp7, hok8, hle9, rfl, rfl⟩
      refine tp rfl (lv_assign rfl) ?_
      refine t_done ?_
      refine q_then_n (hK21 _ _ ?_)
      refine c_seq (fun K22 hK22 => ?_)
      refine c_region ?_
      refine tp rfl (lv_move rfl) ?_
      refine t_f1 ?_
      refine tc rfl (en_fn Try.call17 rfl) (waiting_ok (A := max A 1) (Q := max Q 0) (s := u) (by omega)) ?_
      rintro _ _ ⟨bs10, cp11, hok12, hle13, rfl, rfl⟩
      refine tp rfl (lv_assign rfl) ?_
      refine t_done ?_
      refine q_then_n (hK22 _ _ ?_)
      refine c_seq (fun K23 hK23 => ?_)
      refine c_region ?_
      refine tp rfl (lv_move rfl) ?_
      refine tp rfl (lv_fieldAddr (o' := 1) Try.underlying31 rfl Try.sizeOf3 rfl rfl) ?_
      refine tp rfl (lv_load Try.isAgg3 rfl (gives_blk (.tail _ (.tail _ (.tail _ (.tail _ (.head _))))) rfl)) ?_
      refine t_f1 ?_
      refine tc rfl (en_fn Try.call18 rfl) (state_ok (A := max A 1) (Q := max Q 0) (s := u) (((es).getD i (0, 0)).2) (by omega)) ?_
      rintro _ _ ⟨rfl, rfl⟩
      refine tp rfl (lv_move rfl) ?_
      refine tp rfl (lv_extract rfl rfl) ?_
      refine tp rfl (lv_extract rfl rfl) ?_
      refine tp rfl (lv_assign rfl) ?_
      refine tp rfl (lv_assign rfl) ?_
      refine t_done ?_
      refine q_then_n (hK23 _ _ ?_)
      refine c_seq (fun K24 hK24 => ?_)
      refine c_region ?_
      refine t_f3 ?_
      refine t_openRow (fun bs14 cp15 hok16 hle17 => ?_)
      refine tp rfl (lv_move rfl) ?_
      refine tp rfl (lv_fieldAddr (o' := 1) Try.underlying31 rfl Try.sizeOf3 rfl rfl) ?_
      refine tp rfl (lv_load Try.isAgg3 rfl (gives_blk (.tail _ (.tail _ (.tail _ (.tail _ (.tail _ (.head _)))))) rfl)) ?_
      refine t_f1 ?_
      refine t_f1 ?_
      refine tc rfl (en_fn Try.call19 rfl) (rstate_ok (A := A) (Q := Q) (s := u) hok2 (((es).getD i (0, 0)).2) hok16 (by omega)) ?_
      rintro _ _ ⟨rfl, rfl⟩
      refine tp rfl (lv_move rfl) ?_
      refine tp rfl (lv_extract rfl rfl) ?_
      refine tp rfl (lv_extract rfl rfl) ?_
      refine tp rfl (lv_assign rfl) ?_
      refine tp rfl (lv_assign rfl) ?_
      refine t_done ?_
      refine q_then_n (hK24 _ _ ?_)
      refine c_seq (fun K25 hK25 => ?_)
      refine c_region ?_
      refine tp rfl (lv_move rfl) ?_
      refine t_f1 ?_
      refine t_f1 ?_
      refine tc rfl (en_fn Try.call20 rfl) (rsplit_ok (A := A) (Q := Q) (l := rowOf u) (by omega)) ?_
      rintro _ _ ⟨rfl, rfl⟩
      rw [show min (((rowOf u).length : Nat) : Int) (max A 1) = ((u.a.length : Nat) : Int) from (split_len hok2)]
      refine tp rfl (lv_assign rfl) ?_
      refine t_done ?_
      refine q_then_n (hK25 _ _ ?_)
      refine c_seq (fun K26 hK26 => ?_)
      refine c_seq (fun K27 hK27 => ?_)
      refine c_region ?_
      refine tp rfl (lv_move rfl) ?_
      refine tp rfl (lv_not (c := false) rfl rfl) ?_
      refine tp rfl (lv_move rfl) ?_
      refine t_guard rfl rfl ?_
      refine tp rfl (lv_move rfl) ?_
      refine t_guard rfl rfl ?_
      refine tp rfl (lv_move rfl) ?_
      refine t_guard rfl rfl ?_
      refine tp rfl (lv_neq rfl rfl (bne_eq_false_iff_eq.2 rfl)) ?_
      refine tp rfl (lv_pick_f rfl rfl) ?_
      refine tp rfl (lv_move rfl) ?_
      refine t_guard rfl rfl ?_
      refine tp rfl (lv_move rfl) ?_
      refine t_guard rfl rfl ?_
      refine tp rfl (lv_move rfl) ?_
      refine t_guard rfl rfl ?_
      refine tp rfl (lv_neb Try.underlying4 rfl rfl (bne_self_eq_false _)) ?_
      refine tp rfl (lv_pick_f rfl rfl) ?_
      refine tp rfl (lv_move rfl) ?_
      refine t_guard rfl rfl ?_
      refine tp rfl (lv_move rfl) ?_
      refine t_guard rfl rfl ?_
      refine tp rfl (lv_move rfl) ?_
      refine t_guard rfl rfl ?_
      refine tp rfl (lv_nilCheck rfl) ?_
      refine t_guard rfl rfl ?_
      refine tp rfl (lv_fieldAddr (o' := 2) Try.underlying29 rfl Try.sizeOf27 rfl rfl) ?_
      refine t_guard rfl rfl ?_
      refine tp rfl (lv_load Try.isAgg27 rfl (gives_blk (.head _) rfl)) ?_
      refine t_guard rfl rfl ?_
      refine tp rfl (lv_move rfl) ?_
      refine t_guard rfl rfl ?_
      refine tp rfl (lv_slice (l := 0) (h := u.a.length) (m := cp15) (v := (.slice bs14 u.a.length cp15)) Try.underlying27 Try.sizeOf3 rfl rfl rfl rfl (.inr ⟨rfl, rfl⟩) (.inl ⟨_, _, rfl, (by omega), (by omega), (by omega)⟩) (.inr ⟨rfl, rfl⟩) (by simp) (by rw [sbase_zero]; rfl)) ?_
      refine t_guard rfl rfl ?_
      refine tc rfl (en_fn Try.call21 rfl) (ints_n u.a ((rowOf u).take u.a.length) (by first | rfl | (simp; done) | (simp; omega)) (by first | rfl | (simp; done) | (simp; omega)) (rd_sl (.tail _ (.tail _ (.tail _ (.tail _ (.head _)))))) (rd_tk_ints u.a.length (rd_sl (.tail _ (.head _)))) hok8 (fun hz => hok16 (by omega)) (by first | omega | (simp; omega) | (simp; done)) (by first | omega | (simp; omega) | (simp; done))) ?_
      rintro _ _ ⟨rfl, rfl⟩
      rw [show eqI u.a ((rowOf u).take u.a.length) = true from (by simp [rowOf, eqI])]
      refine t_guard rfl rfl ?_
      refine tp rfl (lv_not (c := false) rfl rfl) ?_
      refine tp rfl (lv_pick_f rfl rfl) ?_
      refine tp rfl (lv_move rfl) ?_
      refine t_guard rfl rfl ?_
      refine tp rfl (lv_move rfl) ?_
      refine t_guard rfl rfl ?_
      refine tp rfl (lv_move rfl) ?_
      refine t_guard rfl rfl ?_
      refine tp rfl (lv_nilCheck rfl) ?_
      refine t_guard rfl rfl ?_
      refine tp rfl (lv_fieldAddr (o' := 2) Try.underlying29 rfl Try.sizeOf27 rfl rfl) ?_
      refine t_guard rfl rfl ?_
      refine tp rfl (lv_load Try.isAgg27 rfl (gives_blk (.head _) rfl)) ?_
      refine t_guard rfl rfl ?_
      refine tp rfl (lv_move rfl) ?_
      refine t_guard rfl rfl ?_
      refine tp rfl (lv_slice (l := u.a.length) (h := (rowOf u).length) (m := cp15) (v := (.slice (sbase bs14 u.a.length cp15 1) (((rowOf u).length) - u.a.length) (cp15 - u.a.length))) Try.underlying27 Try.sizeOf3 rfl rfl rfl rfl (.inr ⟨rfl, rfl⟩) (.inr ⟨rfl, rfl⟩) (.inl ⟨_, _, rfl, (by omega), (by omega), (by omega)⟩) (by simp) rfl) ?_
      refine t_guard rfl rfl ?_
      refine tc rfl (en_fn Try.call21 rfl) (ints_n u.q ((rowOf u).drop u.a.length) (by first | rfl | (simp; done) | (simp; omega)) (by first | rfl | (simp; done) | (simp; omega)) (rd_sl (.tail _ (.tail _ (.tail _ (.head _))))) (rd_sb_ints (l := u.a.length) (m := cp15) (rd_sl (.tail _ (.head _))) hok16 rfl hle17) hok12 (fun hz => slok_sbase hok16 (by omega) hz) (by first | omega | (simp; omega) | (simp; done)) (by first | omega | (simp; omega) | (simp; done))) ?_
      rintro _ _ ⟨rfl, rfl⟩
      rw [show eqI u.q ((rowOf u).drop u.a.length) = true from (by simp [rowOf, eqI])]
      refine t_guard rfl rfl ?_
      refine tp rfl (lv_not (c := false) rfl rfl) ?_
      refine tp rfl (lv_pick_f rfl rfl) ?_
      refine t_done ?_
      refine q_then_n (hK27 _ _ ?_)
      refine c_false rfl ?_
      refine c_skip ?_
      refine q_then_n (hK26 _ _ ?_)
      refine c_seq (fun K28 hK28 => ?_)
      refine c_seq (fun K29 hK29 => ?_)
      refine c_region ?_
      refine t_f1 ?_
      refine t_f1 ?_
      refine t_shutRow hok16 hle17 ?_
      refine tp rfl (lv_assign rfl) ?_
      refine t_done ?_
      refine q_then_n (hK29 _ _ ?_)
      refine c_block ?_
      refine c_loop (γ := (Nat) × (List Int)) (fun (k, ys) => k ≤ u.a.length ∧ ys.length = u.a.length) (fun (k, ys) => [(0, (.int .i64 A)), (1, (.int .i64 Q)), (2, (.slice bl es.length cl)), (7, (.bool true)), (8, (.pointer (some ⟨p1, 0, none⟩))), (9, (.pointer (some ⟨b2, 0, none⟩))), (10, (.int .i64 ((i : Nat) : Int))), (11, (.pointer (some ⟨b4, 0, none⟩))), (12, (.bool true)), (13, (.int .i64 (addV (max A 1) (max Q 0) s (((es).getD i (0, 0)).2)))), (14, (.int .i64 (addEr (max A 1) (max Q 0) s (((es).getD i (0, 0)).2)))), (15, (.int .i64 (addV (max A 1) (max Q 0) s (((es).getD i (0, 0)).2)))), (16, (.int .i64 (addEr (max A 1) (max Q 0) s (((es).getD i (0, 0)).2)))), (21, (.slice bs6 u.a.length cp7)), (22, (.slice bs10 u.q.length cp11)), (23, (.int .i64 (stV u (((es).getD i (0, 0)).2)))), (24, (.bool (there u (((es).getD i (0, 0)).2)))), (25, (.int .i64 (stV u (((es).getD i (0, 0)).2)))), (26, (.bool (there u (((es).getD i (0, 0)).2)))), (27, (.int .i64 ((u.a.length : Nat) : Int))), (28, (.int .i64 ((k : Nat) : Int))), (39, (.bool false)), (47, (.bool true)), (55, (.int .i64 (((es).getD i (0, 0)).1))), (56, (.bool true)), (158, (.bool false))]) (fun (k, ys) => (RowO b2 A Q (rowOf u)) :: (AdmO p1 (max A 1) (max Q 0) u) :: (SlV 3 1 (.slice bs10 u.q.length cp11) u.q.length (ints .i64 u.q)) :: (SlV 3 1 (.slice bs6 u.a.length cp7) u.a.length (ints .i64 ys)) :: (Blk b4 [(.int .i64 (((es).getD i (0, 0)).1)), (.int .i64 (((es).getD i (0, 0)).2))] 31) :: R) (fun (k, ys) => u.a.length - k) (0, u.a) ⟨by omega, rfl⟩ ⟨rfl, rfl, rfl, rfl, rfl, rfl, rfl, rfl, rfl, rfl, rfl, rfl, rfl, rfl, rfl, rfl, rfl, rfl, rfl, rfl, rfl, rfl, rfl, rfl, rfl, rfl, trivial⟩ (fun _ h => h) ?_
      rintro ⟨k, ys⟩ K30 hF hK30
      try dsimp only at hF hK30 ⊢
      obtain ⟨hk, hys⟩ := hF
      refine c_seq (fun K31 hK31 => ?_)
      refine c_seq (fun K32 hK32 => ?_)
      refine c_region ?_
      refine tp rfl (lv_move rfl) ?_
      refine tp rfl (lv_move rfl) ?_
      refine tp rfl (lv_len Try.underlying27 rfl rfl) ?_
      by_cases h18 : ((k : Nat) : Int) < ((u.a.length : Nat) : Int)
      · -- yes
        refine tp rfl (lv_lss rfl rfl (decide_eq_true h18)) ?_
        refine t_done ?_
        refine q_then_n (hK32 _ _ ?_)
        refine c_true rfl ?_
        refine c_skip ?_
        refine q_then_n (hK31 _ _ ?_)
        refine c_seq (fun K33 hK33 => ?_)
        refine c_block ?_
        refine c_region ?_
        refine tp rfl (lv_move rfl) ?_
        refine tp rfl (lv_move rfl) ?_
        refine tp rfl (lv_indexAddr (k' := k) Try.underlying27 Try.sizeOf3 rfl rfl hok8 (by omega) (by omega) (by omega)) ?_
        refine t_f3 ?_
        refine ts (sv_sl Try.sizeOf3 rfl rfl rfl (by first | (simp; omega) | omega) ints_set) ?_
        refine t_done ?_
        refine q_in_n ?_
        refine q_then_n (hK33 _ _ ?_)
        refine c_region ?_
        refine tp rfl (lv_move rfl) ?_
        refine tp rfl (lv_add (c := ((k + 1 : Nat) : Int)) rfl rfl (wr_i64_succ (by omega))) ?_
        refine tp rfl (lv_assign rfl) ?_
        refine t_done ?_
        refine q_then_n ?_
        refine t_f3 ?_
        refine t_f3 ?_
        refine t_f3 ?_
        exact t_weak (by exact ⟨rfl, rfl, rfl, rfl, rfl, rfl, rfl, rfl, rfl, rfl, rfl, rfl, rfl, rfl, rfl, rfl, rfl, rfl, rfl, rfl, rfl, rfl, rfl, rfl, rfl, rfl, trivial⟩) ((hK30 (k + 1, (ys).set k (-5)) ⟨by omega, by simpa using hys⟩ (by dsimp only; omega)))
      · -- no
        refine tp rfl (lv_lss rfl rfl (decide_eq_false h18)) ?_
        refine t_done ?_
        refine q_then_n (hK32 _ _ ?_)
        refine c_false rfl ?_
        refine c_exit ?_
        refine q_then_x ?_
        refine q_then_x ?_
        refine q_in_x ?_
        refine q_then_n (hK28 _ _ ?_)
        refine c_seq (fun K33 hK33 => ?_)
        refine c_region ?_
        refine tp rfl (lv_assign rfl) ?_
        refine t_done ?_
        refine q_then_n (hK33 _ _ ?_)
        refine c_block ?_
        refine c_loop (γ := (Nat) × (List Int)) (fun (m, zs) => m ≤ u.q.length ∧ zs.length = u.q.length) (fun (m, zs) => [(0, (.int .i64 A)), (1, (.int .i64 Q)), (2, (.slice bl es.length cl)), (7, (.bool true)), (8, (.pointer (some ⟨p1, 0, none⟩))), (9, (.pointer (some ⟨b2, 0, none⟩))), (10, (.int .i64 ((i : Nat) : Int))), (11, (.pointer (some ⟨b4, 0, none⟩))), (12, (.bool true)), (13, (.int .i64 (addV (max A 1) (max Q 0) s (((es).getD i (0, 0)).2)))), (14, (.int .i64 (addEr (max A 1) (max Q 0) s (((es).getD i (0, 0)).2)))), (15, (.int .i64 (addV (max A 1) (max Q 0) s (((es).getD i (0, 0)).2)))), (16, (.int .i64 (addEr (max A 1) (max Q 0) s (((es).getD i (0, 0)).2)))), (21, (.slice bs6 u.a.length cp7)), (22, (.slice bs10 u.q.length cp11)), (23, (.int .i64 (stV u (((es).getD i (0, 0)).2)))), (24, (.bool (there u (((es).getD i (0, 0)).2)))), (25, (.int .i64 (stV u (((es).getD i (0, 0)).2)))), (26, (.bool (there u (((es).getD i (0, 0)).2)))), (27, (.int .i64 ((u.a.length : Nat) : Int))), (28, (.int .i64 ((k : Nat) : Int))), (29, (.int .i64 ((m : Nat) : Int))), (39, (.bool false)), (47, (.bool true)), (55, (.int .i64 (((es).getD i (0, 0)).1))), (56, (.bool true)), (158, (.bool false)), (162, (.bool false))]) (fun (m, zs) => (RowO b2 A Q (rowOf u)) :: (AdmO p1 (max A 1) (max Q 0) u) :: (SlV 3 1 (.slice bs10 u.q.length cp11) u.q.length (ints .i64 zs)) :: (SlV 3 1 (.slice bs6 u.a.length cp7) u.a.length (ints .i64 ys)) :: (Blk b4 [(.int .i64 (((es).getD i (0, 0)).1)), (.int .i64 (((es).getD i (0, 0)).2))] 31) :: R) (fun (m, zs) => u.q.length - m) (0, u.q) ⟨by omega, rfl⟩ ⟨rfl, rfl, rfl, rfl, rfl, rfl, rfl, rfl, rfl, rfl, rfl, rfl, rfl, rfl, rfl, rfl, rfl, rfl, rfl, rfl, rfl, rfl, rfl, rfl, rfl, rfl, rfl, rfl, trivial⟩ (fun _ h => h) ?_
        rintro ⟨m, zs⟩ K34 hF hK34
        try dsimp only at hF hK34 ⊢
        obtain ⟨hk, hys⟩ := hF
        refine c_seq (fun K35 hK35 => ?_)
        refine c_seq (fun K36 hK36 => ?_)
        refine c_region ?_
        refine tp rfl (lv_move rfl) ?_
        refine tp rfl (lv_move rfl) ?_
        refine tp rfl (lv_len Try.underlying27 rfl rfl) ?_
        by_cases h19 : ((m : Nat) : Int) < ((u.q.length : Nat) : Int)
        · -- yes
         refine tp rfl (lv_lss rfl rfl (decide_eq_true h19)) ?_
         refine t_done ?_
         refine q_then_n (hK36 _ _ ?_)
         refine c_true rfl ?_
         refine c_skip ?_
         refine q_then_n (hK35 _ _ ?_)
         refine c_seq (fun K37 hK37 => ?_)
         refine c_block ?_
         refine c_region ?_
         refine tp rfl (lv_move rfl) ?_
         refine tp rfl (lv_move rfl) ?_
         refine tp rfl (lv_indexAddr (k' := m) Try.underlying27 Try.sizeOf3 rfl rfl hok12 (by omega) (by omega) (by omega)) ?_
         refine t_f2 ?_
         refine ts (sv_sl Try.sizeOf3 rfl rfl rfl (by first | (simp; omega) | omega) ints_set) ?_
         refine t_done ?_
         refine q_in_n ?_
         refine q_then_n (hK37 _ _ ?_)
         refine c_region ?_
         refine tp rfl (lv_move rfl) ?_
         refine tp rfl (lv_add (c := ((m + 1 : Nat) : Int)) rfl rfl (wr_i64_succ (by omega))) ?_
         refine tp rfl (lv_assign rfl) ?_
         refine t_done ?_
         refine q_then_n ?_
         refine t_f2 ?_
         refine t_f2 ?_
         exact t_weak (by exact ⟨rfl, rfl, rfl, rfl, rfl, rfl, rfl, rfl, rfl, rfl, rfl, rfl, rfl, rfl, rfl, rfl, rfl, rfl, rfl, rfl, rfl, rfl, rfl, rfl, rfl, rfl, rfl, rfl, trivial⟩) ((hK34 (m + 1, (zs).set m (-6)) ⟨by omega, by simpa using hys⟩ (by dsimp only; omega)))
        · -- no
         refine tp rfl (lv_lss rfl rfl (decide_eq_false h19)) ?_
         refine t_done ?_
         refine q_then_n (hK36 _ _ ?_)
         refine c_false rfl ?_
         refine c_exit ?_
         refine q_then_x ?_
         refine q_then_x ?_
         refine q_in_x ?_
         refine q_in_n ?_
         refine q_then_n (hK12 _ _ ?_)
         refine c_region ?_
         refine tp rfl (lv_move rfl) ?_
         refine tp rfl (lv_add (c := ((i + 1 : Nat) : Int)) rfl rfl (wr_i64_succ (by omega))) ?_
         refine tp rfl (lv_assign rfl) ?_
         refine t_done ?_
         refine q_then_n ?_
         refine t_f2 ?_
         refine t_drop ?_
         refine t_f2 ?_
         refine t_drop ?_
         refine t_f2 ?_
         refine t_drop ?_
         exact t_weak (by exact ⟨rfl, rfl, rfl, rfl, rfl, rfl, rfl, rfl, trivial⟩) ((hK9 (i + 1, u) ⟨by omega, by omega, by dsimp only; omega⟩ (by dsimp only; omega)))
    · -- no
      refine tp rfl (lv_eql rfl rfl (beq_eq_false_iff_ne.2 h5)) ?_
      refine tp rfl (lv_assign rfl) ?_
      refine t_done ?_
      refine q_then_n (hK18 _ _ ?_)
      refine c_false rfl ?_
      refine c_region ?_
      by_cases h20 : (((es).getD i (0, 0)).1) = 2
      · -- yes
        refine tp rfl (lv_eql rfl rfl (beq_iff_eq.2 h20)) ?_
        refine tp rfl (lv_assign rfl) ?_
        refine t_done ?_
        refine q_then_n (hK17 _ _ ?_)
        refine c_true rfl ?_
        refine c_seq (fun K19 hK19 => ?_)
        refine c_region ?_
        refine tp rfl (lv_move rfl) ?_
        refine tp rfl (lv_fieldAddr (o' := 1) Try.underlying31 rfl Try.sizeOf3 rfl rfl) ?_
        refine tp rfl (lv_load Try.isAgg3 rfl (gives_blk (.head _) rfl)) ?_
        refine t_f1 ?_
        refine tc rfl (en_fn Try.call12 rfl) (aadd_ok (A := max A 1) (Q := max Q 0) (s := s) (((es).getD i (0, 0)).2) (by omega)) ?_
        rintro _ _ ⟨rfl, rfl⟩
        refine tp rfl (lv_move rfl) ?_
        refine tp rfl (lv_extract rfl rfl) ?_
        refine tp rfl (lv_extract rfl rfl) ?_
        refine tp rfl (lv_assign rfl) ?_
        refine tp rfl (lv_assign rfl) ?_
        refine t_done ?_
        refine q_then_n (hK19 _ _ ?_)
        refine c_seq (fun K20 hK20 => ?_)
        refine c_region ?_
        refine tp rfl (lv_move rfl) ?_
        refine tp rfl (lv_fieldAddr (o' := 1) Try.underlying31 rfl Try.sizeOf3 rfl rfl) ?_
        refine tp rfl (lv_load Try.isAgg3 rfl (gives_blk (.tail _ (.head _)) rfl)) ?_
        refine t_f2 ?_
        refine tc rfl (en_fn Try.call13 rfl) (radd_ok (A := A) (Q := Q) (s := s) hok (((es).getD i (0, 0)).2) hA (by rw [show (rowOf s).length = s.a.length + s.q.length by simp [rowOf]]; omega)) ?_
        rintro _ _ ⟨rfl, rfl⟩
        refine tp rfl (lv_move rfl) ?_
        refine tp rfl (lv_extract rfl rfl) ?_
        refine tp rfl (lv_extract rfl rfl) ?_
        refine tp rfl (lv_assign rfl) ?_
        refine tp rfl (lv_assign rfl) ?_
        refine t_done ?_
        refine q_then_n (hK20 _ _ ?_)
        refine c_region ?_
        refine tp rfl (lv_move rfl) ?_
        refine tp rfl (lv_move rfl) ?_
        refine tp rfl (lv_eql rfl rfl (beq_iff_eq.2 rfl)) ?_
        refine tp rfl (lv_move rfl) ?_
        refine t_guard rfl rfl ?_
        refine tp rfl (lv_move rfl) ?_
        refine t_guard rfl rfl ?_
        refine tp rfl (lv_move rfl) ?_
        refine t_guard rfl rfl ?_
        refine tp rfl (lv_eql rfl rfl (beq_iff_eq.2 rfl)) ?_
        refine tp rfl (lv_pick_t rfl rfl) ?_
        refine tp rfl (lv_assign rfl) ?_
        refine t_done ?_
        refine q_in_n ?_
        refine q_then_n (hK15 _ _ ?_)
        refine c_seq (fun K21 hK21 => ?_)
        refine c_region ?_
        have hgr := addS_len (max A 1) (max Q 0) s (((es).getD i (0, 0)).2)
        have hok2 := hok.add (((es).getD i (0, 0)).2)
        obtain ⟨u, hu⟩ : ∃ x, addS (max A 1) (max Q 0) s (((es).getD i (0, 0)).2) = x := ⟨_, rfl⟩
        rw [hu] at hok2 hgr ⊢
        have hrl : (rowOf u).length = u.a.length + u.q.length := by simp [rowOf]
        refine tp rfl (lv_move rfl) ?_
        refine t_f1 ?_
        refine tc rfl (en_fn Try.call16 rfl) (actives_ok (A := max A 1) (Q := max Q 0) (s := u) (by omega)) ?_
        rintro _ _ ⟨bs21, cp22, hok23, hle24, rfl, rfl⟩
        refine tp rfl (lv_assign rfl) ?_
        refine t_done ?_
        refine q_then_n (hK21 _ _ ?_)
        refine c_seq (fun K22 hK22 => ?_)
        refine c_region ?_
        refine tp rfl (lv_move rfl) ?_
        refine t_f1 ?_
        refine tc rfl (en_fn Try.call17 rfl) (waiting_ok (A := max A 1) (Q := max Q 0) (s := u) (by omega)) ?_
        rintro _ _ ⟨bs25, cp26, hok27, hle28, rfl, rfl⟩
        refine tp rfl (lv_assign rfl) ?_
        refine t_done ?_
        refine q_then_n (hK22 _ _ ?_)
        refine c_seq (fun K23 hK23 => ?_)
        refine c_region ?_
        refine tp rfl (lv_move rfl) ?_
        refine tp rfl (lv_fieldAddr (o' := 1) Try.underlying31 rfl Try.sizeOf3 rfl rfl) ?_
        refine tp rfl (lv_load Try.isAgg3 rfl (gives_blk (.tail _ (.tail _ (.tail _ (.tail _ (.head _))))) rfl)) ?_
        refine t_f1 ?_
        refine tc rfl (en_fn Try.call18 rfl) (state_ok (A := max A 1) (Q := max Q 0) (s := u) (((es).getD i (0, 0)).2) (by omega)) ?_
        rintro _ _ ⟨rfl, rfl⟩
        refine tp rfl (lv_move rfl) ?_
        refine tp rfl (lv_extract rfl rfl) ?_
        refine tp rfl (lv_extract rfl rfl) ?_
        refine tp rfl (lv_assign rfl) ?_
        refine tp rfl (lv_assign rfl) ?_
        refine t_done ?_
        refine q_then_n (hK23 _ _ ?_)
        refine c_seq (fun K24 hK24 => ?_)
        refine c_region ?_
        refine t_f3 ?_
        refine t_openRow (fun bs29 cp30 hok31 hle32 => ?_)
        refine tp rfl (lv_move rfl) ?_
        refine tp rfl (lv_fieldAddr (o' := 1) Try.underlying31 rfl Try.sizeOf3 rfl rfl) ?_
        refine tp rfl (lv_load Try.isAgg3 rfl (gives_blk (.tail _ (.tail _ (.tail _ (.tail _ (.tail _ (.head _)))))) rfl)) ?_
        refine t_f1 ?_
        refine t_f1 ?_
        refine tc rfl (en_fn Try.call19 rfl) (rstate_ok (A := A) (Q := Q) (s := u) hok2 (((es).getD i (0, 0)).2) hok31 (by omega)) ?_
        rintro _ _ ⟨rfl, rfl⟩
        refine tp rfl (lv_move rfl) ?_
        refine tp rfl (lv_extract rfl rfl) ?_
        refine tp rfl (lv_extract rfl rfl) ?_
        refine tp rfl (lv_assign rfl) ?_
        refine tp rfl (lv_assign rfl) ?_
        refine t_done ?_
        refine q_then_n (hK24 _ _ ?_)
        refine c_seq (fun K25 hK25 => ?_)
        refine c_region ?_
        refine tp rfl (lv_move rfl) ?_
        refine t_f1 ?_
        refine t_f1 ?_
        refine tc rfl (en_fn Try.call20 rfl) (rsplit_ok (A := A) (Q := Q) (l := rowOf u) (by omega)) ?_
        rintro _ _ ⟨rfl, rfl⟩
        rw [show min (((rowOf u).length : Nat) : Int) (max A 1) = ((u.a.length : Nat) : Int) from (split_len hok2)]
        refine tp rfl (lv_assign rfl) ?_
        refine t_done ?_
        refine q_then_n (hK25 _ _ ?_)
        refine c_seq (fun K26 hK26 => ?_)
        refine c_seq (fun K27 hK27 => ?_)
        refine c_region ?_
        refine tp rfl (lv_move rfl) ?_
        refine tp rfl (lv_not (c := false) rfl rfl) ?_
        refine tp rfl (lv_move rfl) ?_
        refine t_guard rfl rfl ?_
        refine tp rfl (lv_move rfl) ?_
        refine t_guard rfl rfl ?_
        refine tp rfl (lv_move rfl) ?_
        refine t_guard rfl rfl ?_
        refine tp rfl (lv_neq rfl rfl (bne_eq_false_iff_eq.2 rfl)) ?_
        refine tp rfl (lv_pick_f rfl rfl) ?_
        refine tp rfl (lv_move rfl) ?_
        refine t_guard rfl rfl ?_
        refine tp rfl (lv_move rfl) ?_
        refine t_guard rfl rfl ?_
        refine tp rfl (lv_move rfl) ?_
        refine t_guard rfl rfl ?_
        refine tp rfl (lv_neb Try.underlying4 rfl rfl (bne_self_eq_false _)) ?_
        refine tp rfl (lv_pick_f rfl rfl) ?_
        refine tp rfl (lv_move rfl) ?_
        refine t_guard rfl rfl ?_
        refine tp rfl (lv_move rfl) ?_
        refine t_guard rfl rfl ?_
        refine tp rfl (lv_move rfl) ?_
        refine t_guard rfl rfl ?_
        refine tp rfl (lv_nilCheck rfl) ?_
        refine t_guard rfl rfl ?_
        refine tp rfl (lv_fieldAddr (o' := 2) Try.underlying29 rfl Try.sizeOf27 rfl rfl) ?_
        refine t_guard rfl rfl ?_
        refine tp rfl (lv_load Try.isAgg27 rfl (gives_blk (.head _) rfl)) ?_
        refine t_guard rfl rfl ?_
        refine tp rfl (lv_move rfl) ?_
        refine t_guard rfl rfl ?_
        refine tp rfl (lv_slice (l := 0) (h := u.a.length) (m := cp30) (v := (.slice bs29 u.a.length cp30)) Try.underlying27 Try.sizeOf3 rfl rfl rfl rfl (.inr ⟨rfl, rfl⟩) (.inl ⟨_, _, rfl, (by omega), (by omega), (by omega)⟩) (.inr ⟨rfl, rfl⟩) (by simp) (by rw [sbase_zero]; rfl)) ?_
        refine t_guard rfl rfl ?_
        refine tc rfl (en_fn Try.call21 rfl) (ints_n u.a ((rowOf u).take u.a.length) (by first | rfl | (simp; done) | (simp; omega)) (by first | rfl | (simp; done) | (simp; omega)) (rd_sl (.tail _ (.tail _ (.tail _ (.tail _ (.head _)))))) (rd_tk_ints u.a.length (rd_sl (.tail _ (.head _)))) hok23 (fun hz => hok31 (by omega)) (by first | omega | (simp; omega) | (simp; done)) (by first | omega | (simp; omega) | (simp; done))) ?_
        rintro _ _ ⟨rfl, rfl⟩
        rw [show eqI u.a ((rowOf u).take u.a.length) = true from (by simp [rowOf, eqI])]
        refine t_guard rfl rfl ?_
        refine tp rfl (lv_not (c := false) rfl rfl) ?_
        refine tp rfl (lv_pick_f rfl rfl) ?_
        refine tp rfl (lv_move rfl) ?_
        refine t_guard rfl rfl ?_
        refine tp rfl (lv_move rfl) ?_
        refine t_guard rfl rfl ?_
        refine tp rfl (lv_move rfl) ?_
        refine t_guard rfl rfl ?_
        refine tp rfl (lv_nilCheck rfl) ?_
        refine t_guard rfl rfl ?_
        refine tp rfl (lv_fieldAddr (o' := 2) Try.underlying29 rfl Try.sizeOf27 rfl rfl) ?_
        refine t_guard rfl rfl ?_
        refine tp rfl (lv_load Try.isAgg27 rfl (gives_blk (.head _) rfl)) ?_
        refine t_guard rfl rfl ?_
        refine tp rfl (lv_move rfl) ?_
        refine t_guard rfl rfl ?_
        refine tp rfl (lv_slice (l := u.a.length) (h := (rowOf u).length) (m := cp30) (v := (.slice (sbase bs29 u.a.length cp30 1) (((rowOf u).length) - u.a.length) (cp30 - u.a.length))) Try.underlying27 Try.sizeOf3 rfl rfl rfl rfl (.inr ⟨rfl, rfl⟩) (.inr ⟨rfl, rfl⟩) (.inl ⟨_, _, rfl, (by omega), (by omega), (by omega)⟩) (by simp) rfl) ?_
        refine t_guard rfl rfl ?_
        refine tc rfl (en_fn Try.call21 rfl) (ints_n u.q ((rowOf u).drop u.a.length) (by first | rfl | (simp; done) | (simp; omega)) (by first | rfl | (simp; done) | (simp; omega)) (rd_sl (.tail _ (.tail _ (.tail _ (.head _))))) (rd_sb_ints (l := u.a.length) (m := cp30) (rd_sl (.tail _ (.head _))) hok31 rfl hle32) hok27 (fun hz => slok_sbase hok31 (by omega) hz) (by first | omega | (simp; omega) | (simp; done)) (by first | omega | (simp; omega) | (simp; done))) ?_
        rintro _ _ ⟨rfl, rfl⟩
        rw [show eqI u.q ((rowOf u).drop u.a.length) = true from (by simp [rowOf, eqI])]
        refine t_guard rfl rfl ?_
        refine tp rfl (lv_not (c := false) rfl rfl) ?_
        refine tp rfl (lv_pick_f rfl rfl) ?_
        refine t_done ?_
        refine q_then_n (hK27 _ _ ?_)
        refine c_false rfl ?_
        refine c_skip ?_
        refine q_then_n (hK26 _ _ ?_)
        refine c_seq (fun K28 hK28 => ?_)
        refine c_seq (fun K29 hK29 => ?_)
        refine c_region ?_
        refine t_f1 ?_
        refine t_f1 ?_
        refine t_shutRow hok31 hle32 ?_
        refine tp rfl (lv_assign rfl) ?_
        refine t_done ?_
        refine q_then_n (hK29 _ _ ?_)
        refine c_block ?_
        refine c_loop (γ := (Nat) × (List Int)) (fun (k, ys) => k ≤ u.a.length ∧ ys.length = u.a.length) (fun (k, ys) => [(0, (.int .i64 A)), (1, (.int .i64 Q)), (2, (.slice bl es.length cl)), (7, (.bool true)), (8, (.pointer (some ⟨p1, 0, none⟩))), (9, (.pointer (some ⟨b2, 0, none⟩))), (10, (.int .i64 ((i : Nat) : Int))), (11, (.pointer (some ⟨b4, 0, none⟩))), (12, (.bool true)), (13, (.int .i64 (addV (max A 1) (max Q 0) s (((es).getD i (0, 0)).2)))), (14, (.int .i64 (addEr (max A 1) (max Q 0) s (((es).getD i (0, 0)).2)))), (15, (.int .i64 (addV (max A 1) (max Q 0) s (((es).getD i (0, 0)).2)))), (16, (.int .i64 (addEr (max A 1) (max Q 0) s (((es).getD i (0, 0)).2)))), (21, (.slice bs21 u.a.length cp22)), (22, (.slice bs25 u.q.length cp26)), (23, (.int .i64 (stV u (((es).getD i (0, 0)).2)))), (24, (.bool (there u (((es).getD i (0, 0)).2)))), (25, (.int .i64 (stV u (((es).getD i (0, 0)).2)))), (26, (.bool (there u (((es).getD i (0, 0)).2)))), (27, (.int .i64 ((u.a.length : Nat) : Int))), (28, (.int .i64 ((k : Nat) : Int))), (39, (.bool false)), (47, (.bool true)), (55, (.int .i64 (((es).getD i (0, 0)).1))), (56, (.bool true)), (158, (.bool false))]) (fun (k, ys) => (RowO b2 A Q (rowOf u)) :: (AdmO p1 (max A 1) (max Q 0) u) :: (SlV 3 1 (.slice bs25 u.q.length cp26) u.q.length (ints .i64 u.q)) :: (SlV 3 1 (.slice bs21 u.a.length cp22) u.a.length (ints .i64 ys)) :: (Blk b4 [(.int .i64 (((es).getD i (0, 0)).1)), (.int .i64 (((es).getD i (0, 0)).2))] 31) :: R) (fun (k, ys) => u.a.length - k) (0, u.a) ⟨by omega, rfl⟩ ⟨rfl, rfl, rfl, rfl, rfl, rfl, rfl, rfl, rfl, rfl, rfl, rfl, rfl, rfl, rfl, rfl, rfl, rfl, rfl, rfl, rfl, rfl, rfl, rfl, rfl, rfl, trivial⟩ (fun _ h => h) ?_
        rintro ⟨k, ys⟩ K30 hF hK30
        try dsimp only at hF hK30 ⊢
        obtain ⟨hk, hys⟩ := hF
        refine c_seq (fun K31 hK31 => ?_)
        refine c_seq (fun K32 hK32 => ?_)
        refine c_region ?_
        refine tp rfl (lv_move rfl) ?_
        refine tp rfl (lv_move rfl) ?_
        refine tp rfl (lv_len Try.underlying27 rfl rfl) ?_
        by_cases h33 : ((k : Nat) : Int) < ((u.a.length : Nat) : Int)
        · -- yes
         refine tp rfl (lv_lss rfl rfl (decide_eq_true h33)) ?_
         refine t_done ?_
         refine q_then_n (hK32 _ _ ?_)
         refine c_true rfl ?_
         refine c_skip ?_
         refine q_then_n (hK31 _ _ ?_)
         refine c_seq (fun K33 hK33 => ?_)
         refine c_block ?_
         refine c_region ?_
         refine tp rfl (lv_move rfl) ?_
         refine tp rfl (lv_move rfl) ?_
         refine tp rfl (lv_indexAddr (k' := k) Try.underlying27 Try.sizeOf3 rfl rfl hok23 (by omega) (by omega) (by omega)) ?_
         refine t_f3 ?_
         refine ts (sv_sl Try.sizeOf3 rfl rfl rfl (by first | (simp; omega) | omega) ints_set) ?_
         refine t_done ?_
         refine q_in_n ?_
         refine q_then_n (hK33 _ _ ?_)
         refine c_region ?_
         refine tp rfl (lv_move rfl) ?_
         refine tp rfl (lv_add (c := ((k + 1 : Nat) : Int)) rfl rfl (wr_i64_succ (by omega))) ?_
         refine tp rfl (lv_assign rfl) ?_
         refine t_done ?_
         refine q_then_n ?_
         refine t_f3 ?_
         refine t_f3 ?_
         refine t_f3 ?_
         exact t_weak (by exact ⟨rfl, rfl, rfl, rfl, rfl, rfl, rfl, rfl, rfl, rfl, rfl, rfl, rfl, rfl, rfl, rfl, rfl, rfl, rfl, rfl, rfl, rfl, rfl, rfl, rfl, rfl, trivial⟩) ((hK30 (k + 1, (ys).set k (-5)) ⟨by omega, by simpa using hys⟩ (by dsimp only; omega)))
        · -- no
         refine tp rfl (lv_lss rfl rfl (decide_eq_false h33)) ?_
         refine t_done ?_
         refine q_then_n (hK32 _ _ ?_)
         refine c_false rfl ?_
         refine c_exit ?_
         refine q_then_x ?_
         refine q_then_x ?_
         refine q_in_x ?_
         refine q_then_n (hK28 _ _ ?_)
         refine c_seq (fun K33 hK33 => ?_)
         refine c_region ?_
         refine tp rfl (lv_assign rfl) ?_
         refine t_done ?_
         refine q_then_n (hK33 _ _ ?_)
         refine c_block ?_
         refine c_loop (γ := (Nat) × (List Int)) (fun (m, zs) => m ≤ u.q.length ∧ zs.length = u.q.length) (fun (m, zs) => [(0, (.int .i64 A)), (1, (.int .i64 Q)), (2, (.slice bl es.length cl)), (7, (.bool true)), (8, (.pointer (some ⟨p1, 0, none⟩))), (9, (.pointer (some ⟨b2, 0, none⟩))), (10, (.int .i64 ((i : Nat) : Int))), (11, (.pointer (some ⟨b4, 0, none⟩))), (12, (.bool true)), (13, (.int .i64 (addV (max A 1) (max Q 0) s (((es).getD i (0, 0)).2)))), (14, (.int .i64 (addEr (max A 1) (max Q 0) s (((es).getD i (0, 0)).2)))), (15, (.int .i64 (addV (max A 1) (max Q 0) s (((es).getD i (0, 0)).2)))), (16, (.int .i64 (addEr (max A 1) (max Q 0) s (((es).getD i (0, 0)).2)))), (21, (.slice bs21 u.a.length cp22)), (22, (.slice bs25 u.q.length cp26)), (23, (.int .i64 (stV u (((es).getD i (0, 0)).2)))), (24, (.bool (there u (((es).getD i (0, 0)).2)))), (25, (.int .i64 (stV u (((es).getD i (0, 0)).2)))), (26, (.bool (there u (((es).getD i (0, 0)).2)))), (27, (.int .i64 ((u.a.length : Nat) : Int))), (28, (.int .i64 ((k : Nat) : Int))), (29, (.int .i64 ((m : Nat) : Int))), (39, (.bool false)), (47, (.bool true)), (55, (.int .i64 (((es).getD i (0, 0)).1))), (56, (.bool true)), (158, (.bool false)), (162, (.bool false))]) (fun (m, zs) => (RowO b2 A Q (rowOf u)) :: (AdmO p1 (max A 1) (max Q 0) u) :: (SlV 3 1 (.slice bs25 u.q.length cp26) u.q.length (ints .i64 zs)) :: (SlV 3 1 (.slice bs21 u.a.length cp22) u.a.length (ints .i64 ys)) :: (Blk b4 [(.int .i64 (((es).getD i (0, 0)).1)), (.int .i64 (((es).getD i (0, 0)).2))] 31) :: R) (fun (m, zs) => u.q.length - m) (0, u.q) ⟨by omega, rfl⟩ ⟨rfl, rfl, rfl, rfl, rfl, rfl, rfl, rfl, rfl, rfl, rfl, rfl, rfl, rfl, rfl, rfl, rfl, rfl, rfl, rfl, rfl, rfl, rfl, rfl, rfl, rfl, rfl, rfl, trivial⟩ (fun _ h => h) ?_
         rintro ⟨m, zs⟩ K34 hF hK34
         try dsimp only at hF hK34 ⊢
         obtain ⟨hk, hys⟩ := hF
         refine c_seq (fun K35 hK35 => ?_)
         refine c_seq (fun K36 hK36 => ?_)
         refine c_region ?_
         refine tp rfl (lv_move rfl) ?_
         refine tp rfl (lv_move rfl) ?_
         refine tp rfl (lv_len Try.underlying27 rfl rfl) ?_
         by_cases h34 : ((m : Nat) : Int) < ((u.q.length : Nat) : Int)
         · -- yes
          refine tp rfl (lv_lss rfl rfl (decide_eq_true h34)) ?_
          refine t_done ?_
          refine q_then_n (hK36 _ _ ?_)
          refine c_true rfl ?_
          refine c_skip ?_
          refine q_then_n (hK35 _ _ ?_)
          refine c_seq (fun K37 hK37 => ?_)
          refine c_block ?_
          refine c_region ?_
          refine tp rfl (lv_move rfl) ?_
          refine tp rfl (lv_move rfl) ?_
          refine tp rfl (lv_indexAddr (k' := m) Try.underlying27 Try.sizeOf3 rfl rfl hok27 (by omega) (by omega) (by omega)) ?_
          refine t_f2 ?_
          refine ts (sv_sl Try.sizeOf3 rfl rfl rfl (by first | (simp; omega) | omega) ints_set) ?_
          refine t_done ?_
          refine q_in_n ?_
          refine q_then_n (hK37 _ _ ?_)
          refine c_region ?_
          refine tp rfl (lv_move rfl) ?_
          refine tp rfl (lv_add (c := ((m + 1 : Nat) : Int)) rfl rfl (wr_i64_succ (by omega))) ?_
          refine tp rfl (lv_assign rfl) ?_
          refine t_done ?_
          refine q_then_n ?_
          refine t_f2 ?_
          refine t_f2 ?_
          exact t_weak (by exact ⟨rfl, rfl, rfl, rfl, rfl, rfl, rfl, rfl, rfl, rfl, rfl, rfl, rfl, rfl, rfl, rfl, rfl, rfl, rfl, rfl, rfl, rfl, rfl, rfl, rfl, rfl, rfl, rfl, trivial⟩) ((hK34 (m + 1, (zs).set m (-6)) ⟨by omega, by simpa using hys⟩ (by dsimp only; omega)))
         · -- no
          refine tp rfl (lv_lss rfl rfl (decide_eq_false h34)) ?_
          refine t_done ?_
          refine q_then_n (hK36 _ _ ?_)
          refine c_false rfl ?_
          refine c_exit ?_
          refine q_then_x ?_
          refine q_then_x ?_
          refine q_in_x ?_
          refine q_in_n ?_
          refine q_then_n (hK12 _ _ ?_)
          refine c_region ?_
          refine tp rfl (lv_move rfl) ?_
          refine tp rfl (lv_add (c := ((i + 1 : Nat) : Int)) rfl rfl (wr_i64_succ (by omega))) ?_
          refine tp rfl (lv_assign rfl) ?_
          refine t_done ?_
          refine q_then_n ?_
          refine t_f2 ?_
          refine t_drop ?_
          refine t_f2 ?_
          refine t_drop ?_
          refine t_f2 ?_
          refine t_drop ?_
          exact t_weak (by exact ⟨rfl, rfl, rfl, rfl, rfl, rfl, rfl, rfl, trivial⟩) ((hK9 (i + 1, u) ⟨by omega, by omega, by dsimp only; omega⟩ (by dsimp only; omega)))
      · -- no
        refine tp rfl (lv_eql rfl rfl (beq_eq_false_iff_ne.2 h20)) ?_
        refine tp rfl (lv_assign rfl) ?_
        refine t_done ?_
        refine q_then_n (hK17 _ _ ?_)
        refine c_false rfl ?_
        refine c_seq (fun K19 hK19 => ?_)
        refine c_region ?_
        by_cases h35 : (((es).getD i (0, 0)).1) = 3
        · -- yes
         refine tp rfl (lv_eql rfl rfl (beq_iff_eq.2 h35)) ?_
         refine tp rfl (lv_assign rfl) ?_
         refine t_done ?_
         refine q_then_n (hK19 _ _ ?_)
         refine c_true rfl ?_
         refine c_seq (fun K20 hK20 => ?_)
         refine c_region ?_
         refine tp rfl (lv_move rfl) ?_
         refine tp rfl (lv_fieldAddr (o' := 1) Try.underlying31 rfl Try.sizeOf3 rfl rfl) ?_
         refine tp rfl (lv_load Try.isAgg3 rfl (gives_blk (.head _) rfl)) ?_
         refine t_f1 ?_
         refine tc rfl (en_fn Try.call14 rfl) (aend_ok (A := max A 1) (Q := max Q 0) (s := s) (((es).getD i (0, 0)).2) (by omega)) ?_
         rintro _ _ ⟨rfl, rfl⟩
         refine tp rfl (lv_move rfl) ?_
         refine tp rfl (lv_extract rfl rfl) ?_
         refine tp rfl (lv_extract rfl rfl) ?_
         refine tp rfl (lv_assign rfl) ?_
         refine tp rfl (lv_assign rfl) ?_
         refine t_done ?_
         refine q_then_n (hK20 _ _ ?_)
         refine c_seq (fun K21 hK21 => ?_)
         refine c_region ?_
         refine tp rfl (lv_move rfl) ?_
         refine tp rfl (lv_fieldAddr (o' := 1) Try.underlying31 rfl Try.sizeOf3 rfl rfl) ?_
         refine tp rfl (lv_load Try.isAgg3 rfl (gives_blk (.tail _ (.head _)) rfl)) ?_
         refine t_f2 ?_
         refine tc rfl (en_fn Try.call15 rfl) (rend_ok (A := A) (Q := Q) (s := s) hok (((es).getD i (0, 0)).2) hA (by rw [show (rowOf s).length = s.a.length + s.q.length by simp [rowOf]]; omega)) ?_
         rintro _ _ ⟨rfl, rfl⟩
         refine tp rfl (lv_move rfl) ?_
         refine tp rfl (lv_extract rfl rfl) ?_
         refine tp rfl (lv_extract rfl rfl) ?_
         refine tp rfl (lv_assign rfl) ?_
         refine tp rfl (lv_assign rfl) ?_
         refine t_done ?_
         refine q_then_n (hK21 _ _ ?_)
         refine c_region ?_
         refine tp rfl (lv_move rfl) ?_
         refine tp rfl (lv_move rfl) ?_
         refine tp rfl (lv_eql rfl rfl (beq_iff_eq.2 rfl)) ?_
         refine tp rfl (lv_move rfl) ?_
         refine t_guard rfl rfl ?_
         refine tp rfl (lv_move rfl) ?_
         refine t_guard rfl rfl ?_
         refine tp rfl (lv_move rfl) ?_
         refine t_guard rfl rfl ?_
         refine tp rfl (lv_eql rfl rfl (beq_iff_eq.2 rfl)) ?_
         refine tp rfl (lv_pick_t rfl rfl) ?_
         refine tp rfl (lv_assign rfl) ?_
         refine t_done ?_
         refine q_in_n ?_
         refine q_then_n (hK15 _ _ ?_)
         refine c_seq (fun K22 hK22 => ?_)
         refine c_region ?_
         have hgr := endS_len s (((es).getD i (0, 0)).2)
         have hok2 := hok.ende (((es).getD i (0, 0)).2)
         obtain ⟨u, hu⟩ : ∃ x, endS s (((es).getD i (0, 0)).2) = x := ⟨_, rfl⟩
         rw [hu] at hok2 hgr ⊢
         have hrl : (rowOf u).length = u.a.length + u.q.length := by simp [rowOf]
         refine tp rfl (lv_move rfl) ?_
         refine t_f1 ?_
         refine tc rfl (en_fn Try.call16 rfl) (actives_ok (A := max A 1) (Q := max Q 0) (s := u) (by omega)) ?_
         rintro _ _ ⟨bs36, cp37, hok38, hle39, rfl, rfl⟩
         refine tp rfl (lv_assign rfl) ?_
         refine t_done ?_
         refine q_then_n (hK22 _ _ ?_)
         refine c_seq (fun K23 hK23 => ?_)
         refine c_region ?_
         refine tp rfl (lv_move rfl) ?_
         refine t_f1 ?_
         refine tc rfl (en_fn Try.call17 rfl) (waiting_ok (A := max A 1) (Q := max Q 0) (s := u) (by omega)) ?_
         rintro _ _ ⟨bs40, cp41, hok42, hle43, rfl, rfl⟩
         refine tp rfl (lv_assign rfl) ?_
         refine t_done ?_
         refine q_then_n (hK23 _ _ ?_)
         refine c_seq (fun K24 hK24 => ?_)
         refine c_region ?_
         refine tp rfl (lv_move rfl) ?_
         refine tp rfl (lv_fieldAddr (o' := 1) Try.underlying31 rfl Try.sizeOf3 rfl rfl) ?_
         refine tp rfl (lv_load Try.isAgg3 rfl (gives_blk (.tail _ (.tail _ (.tail _ (.tail _ (.head _))))) rfl)) ?_
         refine t_f1 ?_
         refine tc rfl (en_fn Try.call18 rfl) (state_ok (A := max A 1) (Q := max Q 0) (s := u) (((es).getD i (0, 0)).2) (by omega)) ?_
         rintro _ _ ⟨rfl, rfl⟩
         refine tp rfl (lv_move rfl) ?_
         refine tp rfl (lv_extract rfl rfl) ?_
         refine tp rfl (lv_extract rfl rfl) ?_
         refine tp rfl (lv_assign rfl) ?_
         refine tp rfl (lv_assign rfl) ?_
         refine t_done ?_
         refine q_then_n (hK24 _ _ ?_)
         refine c_seq (fun K25 hK25 => ?_)
         refine c_region ?_
         refine t_f3 ?_
         refine t_openRow (fun bs44 cp45 hok46 hle47 => ?_)
         refine tp rfl (lv_move rfl) ?_
         refine tp rfl (lv_fieldAddr (o' := 1) Try.underlying31 rfl Try.sizeOf3 rfl rfl) ?_
         refine tp rfl (lv_load Try.isAgg3 rfl (gives_blk (.tail _ (.tail _ (.tail _ (.tail _ (.tail _ (.head _)))))) rfl)) ?_
         refine t_f1 ?_
         refine t_f1 ?_
         refine tc rfl (en_fn Try.call19 rfl) (rstate_ok (A := A) (Q := Q) (s := u) hok2 (((es).getD i (0, 0)).2) hok46 (by omega)) ?_
         rintro _ _ ⟨rfl, rfl⟩
         refine tp rfl (lv_move rfl) ?_
         refine tp rfl (lv_extract rfl rfl) ?_
         refine tp rfl (lv_extract rfl rfl) ?_
         refine tp rfl (lv_assign rfl) ?_
         refine tp rfl (lv_assign rfl) ?_
         refine t_done ?_
         refine q_then_n (hK25 _ _ ?_)
         refine c_seq (fun K26 hK26 => ?_)
         refine c_region ?_
         refine tp rfl (lv_move rfl) ?_
         refine t_f1 ?_
         refine t_f1 ?_
         refine tc rfl (en_fn Try.call20 rfl) (rsplit_ok (A := A) (Q := Q) (l := rowOf u) (by omega)) ?_
         rintro _ _ ⟨rfl, rfl⟩
         rw [show min (((rowOf u).length : Nat) : Int) (max A 1) = ((u.a.length : Nat) : Int) from (split_len hok2)]
         refine tp rfl (lv_assign rfl) ?_
         refine t_done ?_
         refine q_then_n (hK26 _ _ ?_)
         refine c_seq (fun K27 hK27 => ?_)
         refine c_seq (fun K28 hK28 => ?_)
         refine c_region ?_
         refine tp rfl (lv_move rfl) ?_
         refine tp rfl (lv_not (c := false) rfl rfl) ?_
         refine tp rfl (lv_move rfl) ?_
         refine t_guard rfl rfl ?_
         refine tp rfl (lv_move rfl) ?_
         refine t_guard rfl rfl ?_
         refine tp rfl (lv_move rfl) ?_
         refine t_guard rfl rfl ?_
         refine tp rfl (lv_neq rfl rfl (bne_eq_false_iff_eq.2 rfl)) ?_
         refine tp rfl (lv_pick_f rfl rfl) ?_
         refine tp rfl (lv_move rfl) ?_
         refine t_guard rfl rfl ?_
         refine tp rfl (lv_move rfl) ?_
         refine t_guard rfl rfl ?_
         refine tp rfl (lv_move rfl) ?_
         refine t_guard rfl rfl ?_
         refine tp rfl (lv_neb Try.underlying4 rfl rfl (bne_self_eq_false _)) ?_
         refine tp rfl (lv_pick_f rfl rfl) ?_
         refine tp rfl (lv_move rfl) ?_
         refine t_guard rfl rfl ?_
         refine tp rfl (lv_move rfl) ?_
         refine t_guard rfl rfl ?_
         refine tp rfl (lv_move rfl) ?_
         refine t_guard rfl rfl ?_
         refine tp rfl (lv_nilCheck rfl) ?_
         refine t_guard rfl rfl ?_
         refine tp rfl (lv_fieldAddr (o' := 2) Try.underlying29 rfl Try.sizeOf27 rfl rfl) ?_
         refine t_guard rfl rfl ?_
         refine tp rfl (lv_load Try.isAgg27 rfl (gives_blk (.head _) rfl)) ?_
         refine t_guard rfl rfl ?_
         refine tp rfl (lv_move rfl) ?_
         refine t_guard rfl rfl ?_
         refine tp rfl (lv_slice (l := 0) (h := u.a.length) (m := cp45) (v := (.slice bs44 u.a.length cp45)) Try.underlying27 Try.sizeOf3 rfl rfl rfl rfl (.inr ⟨rfl, rfl⟩) (.inl ⟨_, _, rfl, (by omega), (by omega), (by omega)⟩) (.inr ⟨rfl, rfl⟩) (by simp) (by rw [sbase_zero]; rfl)) ?_
         refine t_guard rfl rfl ?_
         refine tc rfl (en_fn Try.call21 rfl) (ints_n u.a ((rowOf u).take u.a.length) (by first | rfl | (simp; done) | (simp; omega)) (by first | rfl | (simp; done) | (simp; omega)) (rd_sl (.tail _ (.tail _ (.tail _ (.tail _ (.head _)))))) (rd_tk_ints u.a.length (rd_sl (.tail _ (.head _)))) hok38 (fun hz => hok46 (by omega)) (by first | omega | (simp; omega) | (simp; done)) (by first | omega | (simp; omega) | (simp; done))) ?_
         rintro _ _ ⟨rfl, rfl⟩
         rw [show eqI u.a ((rowOf u).take u.a.length) = true from (by simp [rowOf, eqI])]
         refine t_guard rfl rfl ?_
         refine tp rfl (lv_not (c := false) rfl rfl) ?_
         refine tp rfl (lv_pick_f rfl rfl) ?_
         refine tp rfl (lv_move rfl) ?_
         refine t_guard rfl rfl ?_
         refine tp rfl (lv_move rfl) ?_
         refine t_guard rfl rfl ?_
         refine tp rfl (lv_move rfl) ?_
         refine t_guard rfl rfl ?_
         refine tp rfl (lv_nilCheck rfl) ?_
         refine t_guard rfl rfl ?_
         refine tp rfl (lv_fieldAddr (o' := 2) Try.underlying29 rfl Try.sizeOf27 rfl rfl) ?_
         refine t_guard rfl rfl ?_
         refine tp rfl (lv_load Try.isAgg27 rfl (gives_blk (.head _) rfl)) ?_
         refine t_guard rfl rfl ?_
         refine tp rfl (lv_move rfl) ?_
         refine t_guard rfl rfl ?_
         refine tp rfl (lv_slice (l := u.a.length) (h := (rowOf u).length) (m := cp45) (v := (.slice (sbase bs44 u.a.length cp45 1) (((rowOf u).length) - u.a.length) (cp45 - u.a.length))) Try.underlying27 Try.sizeOf3 rfl rfl rfl rfl (.inr ⟨rfl, rfl⟩) (.inr ⟨rfl, rfl⟩) (.inl ⟨_, _, rfl, (by omega), (by omega), (by omega)⟩) (by simp) rfl) ?_
         refine t_guard rfl rfl ?_
         refine tc rfl (en_fn Try.call21 rfl) (ints_n u.q ((rowOf u).drop u.a.length) (by first | rfl | (simp; done) | (simp; omega)) (by first | rfl | (simp; done) | (simp; omega)) (rd_sl (.tail _ (.tail _ (.tail _ (.head _))))) (rd_sb_ints (l := u.a.length) (m := cp45) (rd_sl (.tail _ (.head _))) hok46 rfl hle47) hok42 (fun hz => slok_sbase hok46 (by omega) hz) (by first | omega | (simp; omega) | (simp; done)) (by first | omega | (simp; omega) | (simp; done))) ?_
         rintro _ _ ⟨rfl, rfl⟩
         rw [show eqI u.q ((rowOf u).drop u.a.length) = true from (by simp [rowOf, eqI])]
         refine t_guard rfl rfl ?_
         refine tp rfl (lv_not (c := false) rfl rfl) ?_
         refine tp rfl (lv_pick_f rfl rfl) ?_
         refine t_done ?_
         refine q_then_n (hK28 _ _ ?_)
         refine c_false rfl ?_
         refine c_skip ?_
         refine q_then_n (hK27 _ _ ?_)
         refine c_seq (fun K29 hK29 => ?_)
         refine c_seq (fun K30 hK30 => ?_)
         refine c_region ?_
         refine t_f1 ?_
         refine t_f1 ?_
         refine t_shutRow hok46 hle47 ?_
         refine tp rfl (lv_assign rfl) ?_
         refine t_done ?_
         refine q_then_n (hK30 _ _ ?_)
         refine c_block ?_
         refine c_loop (γ := (Nat) × (List Int)) (fun (k, ys) => k ≤ u.a.length ∧ ys.length = u.a.length) (fun (k, ys) => [(0, (.int .i64 A)), (1, (.int .i64 Q)), (2, (.slice bl es.length cl)), (7, (.bool true)), (8, (.pointer (some ⟨p1, 0, none⟩))), (9, (.pointer (some ⟨b2, 0, none⟩))), (10, (.int .i64 ((i : Nat) : Int))), (11, (.pointer (some ⟨b4, 0, none⟩))), (12, (.bool true)), (17, (.int .i64 (endV s (((es).getD i (0, 0)).2)))), (18, (.int .i64 (endEr s (((es).getD i (0, 0)).2)))), (19, (.int .i64 (endV s (((es).getD i (0, 0)).2)))), (20, (.int .i64 (endEr s (((es).getD i (0, 0)).2)))), (21, (.slice bs36 u.a.length cp37)), (22, (.slice bs40 u.q.length cp41)), (23, (.int .i64 (stV u (((es).getD i (0, 0)).2)))), (24, (.bool (there u (((es).getD i (0, 0)).2)))), (25, (.int .i64 (stV u (((es).getD i (0, 0)).2)))), (26, (.bool (there u (((es).getD i (0, 0)).2)))), (27, (.int .i64 ((u.a.length : Nat) : Int))), (28, (.int .i64 ((k : Nat) : Int))), (39, (.bool false)), (47, (.bool true)), (55, (.int .i64 (((es).getD i (0, 0)).1))), (56, (.bool false)), (81, (.bool true)), (158, (.bool false))]) (fun (k, ys) => (RowO b2 A Q (rowOf u)) :: (AdmO p1 (max A 1) (max Q 0) u) :: (SlV 3 1 (.slice bs40 u.q.length cp41) u.q.length (ints .i64 u.q)) :: (SlV 3 1 (.slice bs36 u.a.length cp37) u.a.length (ints .i64 ys)) :: (Blk b4 [(.int .i64 (((es).getD i (0, 0)).1)), (.int .i64 (((es).getD i (0, 0)).2))] 31) :: R) (fun (k, ys) => u.a.length - k) (0, u.a) ⟨by omega, rfl⟩ ⟨rfl, rfl, rfl, rfl, rfl, rfl, rfl, rfl, rfl, rfl, rfl, rfl, rfl, rfl, rfl, rfl, rfl, rfl, rfl, rfl, rfl, rfl, rfl, rfl, rfl, rfl, rfl, trivial⟩ (fun _ h => h) ?_
         rintro ⟨k, ys⟩ K31 hF hK31
         try dsimp only at hF hK31 ⊢
         obtain ⟨hk, hys⟩ := hF
         refine c_seq (fun K32 hK32 => ?_)
         refine c_seq (fun K33 hK33 => ?_)
         refine c_region ?_
         refine tp rfl (lv_move rfl) ?_
         refine tp rfl (lv_move rfl) ?_
         refine tp rfl (lv_len Try.underlying27 rfl rfl) ?_
         by_cases h48 : ((k : Nat) : Int) < ((u.a.length : Nat) : Int)
         · -- yes
          refine tp rfl (lv_lss rfl rfl (decide_eq_true h48)) ?_
          refine t_done ?_
          refine q_then_n (hK33 _ _ ?_)
          refine c_true rfl ?_
          refine c_skip ?_
          refine q_then_n (hK32 _ _ ?_)
          refine c_seq (fun K34 hK34 => ?_)
          refine c_block ?_
          refine c_region ?_
          refine tp rfl (lv_move rfl) ?_
          refine tp rfl (lv_move rfl) ?_
          refine tp rfl (lv_indexAddr (k' := k) Try.underlying27 Try.sizeOf3 rfl rfl hok38 (by omega) (by omega) (by omega)) ?_
          refine t_f3 ?_
          refine ts (sv_sl Try.sizeOf3 rfl rfl rfl (by first | (simp; omega) | omega) ints_set) ?_
          refine t_done ?_
          refine q_in_n ?_
          refine q_then_n (hK34 _ _ ?_)
          refine c_region ?_
          refine tp rfl (lv_move rfl) ?_
          refine tp rfl (lv_add (c := ((k + 1 : Nat) : Int)) rfl rfl (wr_i64_succ (by omega))) ?_
          refine tp rfl (lv_assign rfl) ?_
          refine t_done ?_
          refine q_then_n ?_
          refine t_f3 ?_
          refine t_f3 ?_
          refine t_f3 ?_
          exact t_weak (by exact ⟨rfl, rfl, rfl, rfl, rfl, rfl, rfl, rfl, rfl, rfl, rfl, rfl, rfl, rfl, rfl, rfl, rfl, rfl, rfl, rfl, rfl, rfl, rfl, rfl, rfl, rfl, rfl, trivial⟩) ((hK31 (k + 1, (ys).set k (-5)) ⟨by omega, by simpa using hys⟩ (by dsimp only; omega)))
         · -- no
          refine tp rfl (lv_lss rfl rfl (decide_eq_false h48)) ?_
          refine t_done ?_
          refine q_then_n (hK33 _ _ ?_)
          refine c_false rfl ?_
          refine c_exit ?_
          refine q_then_x ?_
          refine q_then_x ?_
          refine q_in_x ?_
          refine q_then_n (hK29 _ _ ?_)
          refine c_seq (fun K34 hK34 => ?_)
          refine c_region ?_
          refine tp rfl (lv_assign rfl) ?_
          refine t_done ?_
          refine q_then_n (hK34 _ _ ?_)
          refine c_block ?_
          refine c_loop (γ := (Nat) × (List Int)) (fun (m, zs) => m ≤ u.q.length ∧ zs.length = u.q.length) (fun (m, zs) => [(0, (.int .i64 A)), (1, (.int .i64 Q)), (2, (.slice bl es.length cl)), (7, (.bool true)), (8, (.pointer (some ⟨p1, 0, none⟩))), (9, (.pointer (some ⟨b2, 0, none⟩))), (10, (.int .i64 ((i : Nat) : Int))), (11, (.pointer (some ⟨b4, 0, none⟩))), (12, (.bool true)), (17, (.int .i64 (endV s (((es).getD i (0, 0)).2)))), (18, (.int .i64 (endEr s (((es).getD i (0, 0)).2)))), (19, (.int .i64 (endV s (((es).getD i (0, 0)).2)))), (20, (.int .i64 (endEr s (((es).getD i (0, 0)).2)))), (21, (.slice bs36 u.a.length cp37)), (22, (.slice bs40 u.q.length cp41)), (23, (.int .i64 (stV u (((es).getD i (0, 0)).2)))), (24, (.bool (there u (((es).getD i (0, 0)).2)))), (25, (.int .i64 (stV u (((es).getD i (0, 0)).2)))), (26, (.bool (there u (((es).getD i (0, 0)).2)))), (27, (.int .i64 ((u.a.length : Nat) : Int))), (28, (.int .i64 ((k : Nat) : Int))), (29, (.int .i64 ((m : Nat) : Int))), (39, (.bool false)), (47, (.bool true)), (55, (.int .i64 (((es).getD i (0, 0)).1))), (56, (.bool false)), (81, (.bool true)), (158, (.bool false)), (162, (.bool false))]) (fun (m, zs) => (RowO b2 A Q (rowOf u)) :: (AdmO p1 (max A 1) (max Q 0) u) :: (SlV 3 1 (.slice bs40 u.q.length cp41) u.q.length (ints .i64 zs)) :: (SlV 3 1 (.slice bs36 u.a.length cp37) u.a.length (ints .i64 ys)) :: (Blk b4 [(.int .i64 (((es).getD i (0, 0)).1)), (.int .i64 (((es).getD i (0, 0)).2))] 31) :: R) (fun (m, zs) => u.q.length - m) (0, u.q) ⟨by omega, rfl⟩ ⟨rfl, rfl, rfl, rfl, rfl, rfl, rfl, rfl, rfl, rfl, rfl, rfl, rfl, rfl, rfl, rfl, rfl, rfl, rfl, rfl, rfl, rfl, rfl, rfl, rfl, rfl, rfl, rfl, rfl, trivial⟩ (fun _ h => h) ?_
          rintro ⟨m, zs⟩ K35 hF hK35
          try dsimp only at hF hK35 ⊢
          obtain ⟨hk, hys⟩ := hF
          refine c_seq (fun K36 hK36 => ?_)
          refine c_seq (fun K37 hK37 => ?_)
          refine c_region ?_
          refine tp rfl (lv_move rfl) ?_
          refine tp rfl (lv_move rfl) ?_
          refine tp rfl (lv_len Try.underlying27 rfl rfl) ?_
          by_cases h49 : ((m : Nat) : Int) < ((u.q.length : Nat) : Int)
          · -- yes
           refine tp rfl (lv_lss rfl rfl (decide_eq_true h49)) ?_
           refine t_done ?_
           refine q_then_n (hK37 _ _ ?_)
           refine c_true rfl ?_
           refine c_skip ?_
           refine q_then_n (hK36 _ _ ?_)
           refine c_seq (fun K38 hK38 => ?_)
           refine c_block ?_
           refine c_region ?_
           refine tp rfl (lv_move rfl) ?_
           refine tp rfl (lv_move rfl) ?_
           refine tp rfl (lv_indexAddr (k' := m) Try.underlying27 Try.sizeOf3 rfl rfl hok42 (by omega) (by omega) (by omega)) ?_
           refine t_f2 ?_
           refine ts (sv_sl Try.sizeOf3 rfl rfl rfl (by first | (simp; omega) | omega) ints_set) ?_
           refine t_done ?_
           refine q_in_n ?_
           refine q_then_n (hK38 _ _ ?_)
           refine c_region ?_
           refine tp rfl (lv_move rfl) ?_
           refine tp rfl (lv_add (c := ((m + 1 : Nat) : Int)) rfl rfl (wr_i64_succ (by omega))) ?_
           refine tp rfl (lv_assign rfl) ?_
           refine t_done ?_
           refine q_then_n ?_
           refine t_f2 ?_
           refine t_f2 ?_
           exact t_weak (by exact ⟨rfl, rfl, rfl, rfl, rfl, rfl, rfl, rfl, rfl, rfl, rfl, rfl, rfl, rfl, rfl, rfl, rfl, rfl, rfl, rfl, rfl, rfl, rfl, rfl, rfl, rfl, rfl, rfl, rfl, trivial⟩) ((hK35 (m + 1, (zs).set m (-6)) ⟨by omega, by simpa using hys⟩ (by dsimp only; omega)))
          · -- no
           refine tp rfl (lv_lss rfl rfl (decide_eq_false h49)) ?_
           refine t_done ?_
           refine q_then_n (hK37 _ _ ?_)
           refine c_false rfl ?_
           refine c_exit ?_
           refine q_then_x ?_
           refine q_then_x ?_
           refine q_in_x ?_
           refine q_in_n ?_
           refine q_then_n (hK12 _ _ ?_)
           refine c_region ?_
           refine tp rfl (lv_move rfl) ?_
           refine tp rfl (lv_add (c := ((i + 1 : Nat) : Int)) rfl rfl (wr_i64_succ (by omega))) ?_
           refine tp rfl (lv_assign rfl) ?_
           refine t_done ?_
           refine q_then_n ?_
           refine t_f2 ?_
           refine t_drop ?_
           refine t_f2 ?_
           refine t_drop ?_
           refine t_f2 ?_
           refine t_drop ?_
           exact t_weak (by exact ⟨rfl, rfl, rfl, rfl, rfl, rfl, rfl, rfl, trivial⟩) ((hK9 (i + 1, u) ⟨by omega, by omega, by dsimp only; omega⟩ (by dsimp only; omega)))
        · -- no
         refine tp rfl (lv_eql rfl rfl (beq_eq_false_iff_ne.2 h35)) ?_
         refine tp rfl (lv_assign rfl) ?_
         refine t_done ?_
         refine q_then_n (hK19 _ _ ?_)
         refine c_false rfl ?_
         refine c_skip ?_
         refine q_in_n ?_
         refine q_then_n (hK15 _ _ ?_)
         refine c_seq (fun K20 hK20 => ?_)
         refine c_region ?_
         have hgr := Nat.le_refl 0
         have hok2 := hok
         have hrl : (rowOf s).length = s.a.length + s.q.length := by simp [rowOf]
         refine tp rfl (lv_move rfl) ?_
         refine t_f1 ?_
         refine tc rfl (en_fn Try.call16 rfl) (actives_ok (A := max A 1) (Q := max Q 0) (s := s) (by omega)) ?_
         rintro _ _ ⟨bs50, cp51, hok52, hle53, rfl, rfl⟩
         refine tp rfl (lv_assign rfl) ?_
         refine t_done ?_
         refine q_then_n (hK20 _ _ ?_)
         refine c_seq (fun K21 hK21 => ?_)
         refine c_region ?_
         refine tp rfl (lv_move rfl) ?_
         refine t_f1 ?_
         refine tc rfl (en_fn Try.call17 rfl) (waiting_ok (A := max A 1) (Q := max Q 0) (s := s) (by omega)) ?_
         rintro _ _ ⟨bs54, cp55, hok56, hle57, rfl, rfl⟩
         refine tp rfl (lv_assign rfl) ?_
         refine t_done ?_
         refine q_then_n (hK21 _ _ ?_)
         refine c_seq (fun K22 hK22 => ?_)
         refine c_region ?_
         refine tp rfl (lv_move rfl) ?_
         refine tp rfl (lv_fieldAddr (o' := 1) Try.underlying31 rfl Try.sizeOf3 rfl rfl) ?_
         refine tp rfl (lv_load Try.isAgg3 rfl (gives_blk (.tail _ (.tail _ (.tail _ (.head _)))) rfl)) ?_
         refine t_f1 ?_
         refine tc rfl (en_fn Try.call18 rfl) (state_ok (A := max A 1) (Q := max Q 0) (s := s) (((es).getD i (0, 0)).2) (by omega)) ?_
         rintro _ _ ⟨rfl, rfl⟩
         refine tp rfl (lv_move rfl) ?_
         refine tp rfl (lv_extract rfl rfl) ?_
         refine tp rfl (lv_extract rfl rfl) ?_
         refine tp rfl (lv_assign rfl) ?_
         refine tp rfl (lv_assign rfl) ?_
         refine t_done ?_
         refine q_then_n (hK22 _ _ ?_)
         refine c_seq (fun K23 hK23 => ?_)
         refine c_region ?_
         refine t_f4 ?_
         refine t_openRow (fun bs58 cp59 hok60 hle61 => ?_)
         refine tp rfl (lv_move rfl) ?_
         refine tp rfl (lv_fieldAddr (o' := 1) Try.underlying31 rfl Try.sizeOf3 rfl rfl) ?_
         refine tp rfl (lv_load Try.isAgg3 rfl (gives_blk (.tail _ (.tail _ (.tail _ (.tail _ (.tail _ (.head _)))))) rfl)) ?_
         refine t_f1 ?_
         refine t_f1 ?_
         refine tc rfl (en_fn Try.call19 rfl) (rstate_ok (A := A) (Q := Q) (s := s) hok2 (((es).getD i (0, 0)).2) hok60 (by omega)) ?_
         rintro _ _ ⟨rfl, rfl⟩
         refine tp rfl (lv_move rfl) ?_
         refine tp rfl (lv_extract rfl rfl) ?_
         refine tp rfl (lv_extract rfl rfl) ?_
         refine tp rfl (lv_assign rfl) ?_
         refine tp rfl (lv_assign rfl) ?_
         refine t_done ?_
         refine q_then_n (hK23 _ _ ?_)
         refine c_seq (fun K24 hK24 => ?_)
         refine c_region ?_
         refine tp rfl (lv_move rfl) ?_
         refine t_f1 ?_
         refine t_f1 ?_
         refine tc rfl (en_fn Try.call20 rfl) (rsplit_ok (A := A) (Q := Q) (l := rowOf s) (by omega)) ?_
         rintro _ _ ⟨rfl, rfl⟩
         rw [show min (((rowOf s).length : Nat) : Int) (max A 1) = ((s.a.length : Nat) : Int) from (split_len hok2)]
         refine tp rfl (lv_assign rfl) ?_
         refine t_done ?_
         refine q_then_n (hK24 _ _ ?_)
         refine c_seq (fun K25 hK25 => ?_)
         refine c_seq (fun K26 hK26 => ?_)
         refine c_region ?_
         refine tp rfl (lv_move rfl) ?_
         refine tp rfl (lv_not (c := false) rfl rfl) ?_
         refine tp rfl (lv_move rfl) ?_
         refine t_guard rfl rfl ?_
         refine tp rfl (lv_move rfl) ?_
         refine t_guard rfl rfl ?_
         refine tp rfl (lv_move rfl) ?_
         refine t_guard rfl rfl ?_
         refine tp rfl (lv_neq rfl rfl (bne_eq_false_iff_eq.2 rfl)) ?_
         refine tp rfl (lv_pick_f rfl rfl) ?_
         refine tp rfl (lv_move rfl) ?_
         refine t_guard rfl rfl ?_
         refine tp rfl (lv_move rfl) ?_
         refine t_guard rfl rfl ?_
         refine tp rfl (lv_move rfl) ?_
         refine t_guard rfl rfl ?_
         refine tp rfl (lv_neb Try.underlying4 rfl rfl (bne_self_eq_false _)) ?_
         refine tp rfl (lv_pick_f rfl rfl) ?_
         refine tp rfl (lv_move rfl) ?_
         refine t_guard rfl rfl ?_
         refine tp rfl (lv_move rfl) ?_
         refine t_guard rfl rfl ?_
         refine tp rfl (lv_move rfl) ?_
         refine t_guard rfl rfl ?_
         refine tp rfl (lv_nilCheck rfl) ?_
         refine t_guard rfl rfl ?_
         refine tp rfl (lv_fieldAddr (o' := 2) Try.underlying29 rfl Try.sizeOf27 rfl rfl) ?_
         refine t_guard rfl rfl ?_
         refine tp rfl (lv_load Try.isAgg27 rfl (gives_blk (.head _) rfl)) ?_
         refine t_guard rfl rfl ?_
         refine tp rfl (lv_move rfl) ?_
         refine t_guard rfl rfl ?_
         refine tp rfl (lv_slice (l := 0) (h := s.a.length) (m := cp59) (v := (.slice bs58 s.a.length cp59)) Try.underlying27 Try.sizeOf3 rfl rfl rfl rfl (.inr ⟨rfl, rfl⟩) (.inl ⟨_, _, rfl, (by omega), (by omega), (by omega)⟩) (.inr ⟨rfl, rfl⟩) (by simp) (by rw [sbase_zero]; rfl)) ?_
         refine t_guard rfl rfl ?_
         refine tc rfl (en_fn Try.call21 rfl) (ints_n s.a ((rowOf s).take s.a.length) (by first | rfl | (simp; done) | (simp; omega)) (by first | rfl | (simp; done) | (simp; omega)) (rd_sl (.tail _ (.tail _ (.tail _ (.tail _ (.head _)))))) (rd_tk_ints s.a.length (rd_sl (.tail _ (.head _)))) hok52 (fun hz => hok60 (by omega)) (by first | omega | (simp; omega) | (simp; done)) (by first | omega | (simp; omega) | (simp; done))) ?_
         rintro _ _ ⟨rfl, rfl⟩
         rw [show eqI s.a ((rowOf s).take s.a.length) = true from (by simp [rowOf, eqI])]
         refine t_guard rfl rfl ?_
         refine tp rfl (lv_not (c := false) rfl rfl) ?_
         refine tp rfl (lv_pick_f rfl rfl) ?_
         refine tp rfl (lv_move rfl) ?_
         refine t_guard rfl rfl ?_
         refine tp rfl (lv_move rfl) ?_
         refine t_guard rfl rfl ?_
         refine tp rfl (lv_move rfl) ?_
         refine t_guard rfl rfl ?_
         refine tp rfl (lv_nilCheck rfl) ?_
         refine t_guard rfl rfl ?_
         refine tp rfl (lv_fieldAddr (o' := 2) Try.underlying29 rfl Try.sizeOf27 rfl rfl) ?_
         refine t_guard rfl rfl ?_
         refine tp rfl (lv_load Try.isAgg27 rfl (gives_blk (.head _) rfl)) ?_
         refine t_guard rfl rfl ?_
         refine tp rfl (lv_move rfl) ?_
         refine t_guard rfl rfl ?_
         refine tp rfl (lv_slice (l := s.a.length) (h := (rowOf s).length) (m := cp59) (v := (.slice (sbase bs58 s.a.length cp59 1) (((rowOf s).length) - s.a.length) (cp59 - s.a.length))) Try.underlying27 Try.sizeOf3 rfl rfl rfl rfl (.inr ⟨rfl, rfl⟩) (.inr ⟨rfl, rfl⟩) (.inl ⟨_, _, rfl, (by omega), (by omega), (by omega)⟩) (by simp) rfl) ?_
         refine t_guard rfl rfl ?_
         refine tc rfl (en_fn Try.call21 rfl) (ints_n s.q ((rowOf s).drop s.a.length) (by first | rfl | (simp; done) | (simp; omega)) (by first | rfl | (simp; done) | (simp; omega)) (rd_sl (.tail _ (.tail _ (.tail _ (.head _))))) (rd_sb_ints (l := s.a.length) (m := cp59) (rd_sl (.tail _ (.head _))) hok60 rfl hle61) hok56 (fun hz => slok_sbase hok60 (by omega) hz) (by first | omega | (simp; omega) | (simp; done)) (by first | omega | (simp; omega) | (simp; done))) ?_
         rintro _ _ ⟨rfl, rfl⟩
         rw [show eqI s.q ((rowOf s).drop s.a.length) = true from (by simp [rowOf, eqI])]
         refine t_guard rfl rfl ?_
         refine tp rfl (lv_not (c := false) rfl rfl) ?_
         refine tp rfl (lv_pick_f rfl rfl) ?_
         refine t_done ?_
         refine q_then_n (hK26 _ _ ?_)
         refine c_false rfl ?_
         refine c_skip ?_
         refine q_then_n (hK25 _ _ ?_)
         refine c_seq (fun K27 hK27 => ?_)
         refine c_seq (fun K28 hK28 => ?_)
         refine c_region ?_
         refine t_f1 ?_
         refine t_f1 ?_
         refine t_shutRow hok60 hle61 ?_
         refine tp rfl (lv_assign rfl) ?_
         refine t_done ?_
         refine q_then_n (hK28 _ _ ?_)
         refine c_block ?_
         refine c_loop (γ := (Nat) × (List Int)) (fun (k, ys) => k ≤ s.a.length ∧ ys.length = s.a.length) (fun (k, ys) => [(0, (.int .i64 A)), (1, (.int .i64 Q)), (2, (.slice bl es.length cl)), (7, (.bool true)), (8, (.pointer (some ⟨p1, 0, none⟩))), (9, (.pointer (some ⟨b2, 0, none⟩))), (10, (.int .i64 ((i : Nat) : Int))), (11, (.pointer (some ⟨b4, 0, none⟩))), (12, (.bool true)), (21, (.slice bs50 s.a.length cp51)), (22, (.slice bs54 s.q.length cp55)), (23, (.int .i64 (stV s (((es).getD i (0, 0)).2)))), (24, (.bool (there s (((es).getD i (0, 0)).2)))), (25, (.int .i64 (stV s (((es).getD i (0, 0)).2)))), (26, (.bool (there s (((es).getD i (0, 0)).2)))), (27, (.int .i64 ((s.a.length : Nat) : Int))), (28, (.int .i64 ((k : Nat) : Int))), (39, (.bool false)), (47, (.bool true)), (55, (.int .i64 (((es).getD i (0, 0)).1))), (56, (.bool false)), (81, (.bool false)), (158, (.bool false))]) (fun (k, ys) => (RowO b2 A Q (rowOf s)) :: (AdmO p1 (max A 1) (max Q 0) s) :: (SlV 3 1 (.slice bs54 s.q.length cp55) s.q.length (ints .i64 s.q)) :: (SlV 3 1 (.slice bs50 s.a.length cp51) s.a.length (ints .i64 ys)) :: (Blk b4 [(.int .i64 (((es).getD i (0, 0)).1)), (.int .i64 (((es).getD i (0, 0)).2))] 31) :: R) (fun (k, ys) => s.a.length - k) (0, s.a) ⟨by omega, rfl⟩ ⟨rfl, rfl, rfl, rfl, rfl, rfl, rfl, rfl, rfl, rfl, rfl, rfl, rfl, rfl, rfl, rfl, rfl, rfl, rfl, rfl, rfl, rfl, rfl, trivial⟩ (fun _ h => h) ?_
         rintro ⟨k, ys⟩ K29 hF hK29
         try dsimp only at hF hK29 ⊢
         obtain ⟨hk, hys⟩ := hF
         refine c_seq (fun K30 hK30 => ?_)
         refine c_seq (fun K31 hK31 => ?_)
         refine c_region ?_
         refine tp rfl (lv_move rfl) ?_
         refine tp rfl (lv_move rfl) ?_
         refine tp rfl (lv_len Try.underlying27 rfl rfl) ?_
         by_cases h62 : ((k : Nat) : Int) < ((s.a.length : Nat) : Int)
         · -- yes
          refine tp rfl (lv_lss rfl rfl (decide_eq_true h62)) ?_
          refine t_done ?_
          refine q_then_n (hK31 _ _ ?_)
          refine c_true rfl ?_
          refine c_skip ?_
          refine q_then_n (hK30 _ _ ?_)
          refine c_seq (fun K32 hK32 => ?_)
          refine c_block ?_
          refine c_region ?_
          refine tp rfl (lv_move rfl) ?_
          refine tp rfl (lv_move rfl) ?_
          refine tp rfl (lv_indexAddr (k' := k) Try.underlying27 Try.sizeOf3 rfl rfl hok52 (by omega) (by omega) (by omega)) ?_
          refine t_f3 ?_
          refine ts (sv_sl Try.sizeOf3 rfl rfl rfl (by first | (simp; omega) | omega) ints_set) ?_
          refine t_done ?_
          refine q_in_n ?_
          refine q_then_n (hK32 _ _ ?_)
          refine c_region ?_
          refine tp rfl (lv_move rfl) ?_
          refine tp rfl (lv_add (c := ((k + 1 : Nat) : Int)) rfl rfl (wr_i64_succ (by omega))) ?_
          refine tp rfl (lv_assign rfl) ?_
          refine t_done ?_
          refine q_then_n ?_
          refine t_f3 ?_
          refine t_f3 ?_
          refine t_f3 ?_
          exact t_weak (by exact ⟨rfl, rfl, rfl, rfl, rfl, rfl, rfl, rfl, rfl, rfl, rfl, rfl, rfl, rfl, rfl, rfl, rfl, rfl, rfl, rfl, rfl, rfl, rfl, trivial⟩) ((hK29 (k + 1, (ys).set k (-5)) ⟨by omega, by simpa using hys⟩ (by dsimp only; omega)))
         · -- no
          refine tp rfl (lv_lss rfl rfl (decide_eq_false h62)) ?_
          refine t_done ?_
          refine q_then_n (hK31 _ _ ?_)
          refine c_false rfl ?_
          refine c_exit ?_
          refine q_then_x ?_
          refine q_then_x ?_
          refine q_in_x ?_
          refine q_then_n (hK27 _ _ ?_)
          refine c_seq (fun K32 hK32 => ?_)
          refine c_region ?_
          refine tp rfl (lv_assign rfl) ?_
          refine t_done ?_
          refine q_then_n (hK32 _ _ ?_)
          refine c_block ?_
          refine c_loop (γ := (Nat) × (List Int)) (fun (m, zs) => m ≤ s.q.length ∧ zs.length = s.q.length) (fun (m, zs) => [(0, (.int .i64 A)), (1, (.int .i64 Q)), (2, (.slice bl es.length cl)), (7, (.bool true)), (8, (.pointer (some ⟨p1, 0, none⟩))), (9, (.pointer (some ⟨b2, 0, none⟩))), (10, (.int .i64 ((i : Nat) : Int))), (11, (.pointer (some ⟨b4, 0, none⟩))), (12, (.bool true)), (21, (.slice bs50 s.a.length cp51)), (22, (.slice bs54 s.q.length cp55)), (23, (.int .i64 (stV s (((es).getD i (0, 0)).2)))), (24, (.bool (there s (((es).getD i (0, 0)).2)))), (25, (.int .i64 (stV s (((es).getD i (0, 0)).2)))), (26, (.bool (there s (((es).getD i (0, 0)).2)))), (27, (.int .i64 ((s.a.length : Nat) : Int))), (28, (.int .i64 ((k : Nat) : Int))), (29, (.int .i64 ((m : Nat) : Int))), (39, (.bool false)), (47, (.bool true)), (55, (.int .i64 (((es).getD i (0, 0)).1))), (56, (.bool false)), (81, (.bool false)), (158, (.bool false)), (162, (.bool false))]) (fun (m, zs) => (RowO b2 A Q (rowOf s)) :: (AdmO p1 (max A 1) (max Q 0) s) :: (SlV 3 1 (.slice bs54 s.q.length cp55) s.q.length (ints .i64 zs)) :: (SlV 3 1 (.slice bs50 s.a.length cp51) s.a.length (ints .i64 ys)) :: (Blk b4 [(.int .i64 (((es).getD i (0, 0)).1)), (.int .i64 (((es).getD i (0, 0)).2))] 31) :: R) (fun (m, zs) => s.q.length - m) (0, s.q) ⟨by omega, rfl⟩ ⟨rfl, rfl, rfl, rfl, rfl, rfl, rfl, rfl, rfl, rfl, rfl, rfl, rfl, rfl, rfl, rfl, rfl, rfl, rfl, rfl, rfl, rfl, rfl, rfl, rfl, trivial⟩ (fun _ h => h) ?_
          rintro ⟨m, zs⟩ K33 hF hK33
          try dsimp only at hF hK33 ⊢
          obtain ⟨hk, hys⟩ := hF
          refine c_seq (fun K34 hK34 => ?_)
          refine c_seq (fun K35 hK35 => ?_)
          refine c_region ?_
          refine tp rfl (lv_move rfl) ?_
          refine tp rfl (lv_move rfl) ?_
          refine tp rfl (lv_len Try.underlying27 rfl rfl) ?_
          by_cases h63 : ((m : Nat) : Int) < ((s.q.length : Nat) : Int)
          · -- yes
           refine tp rfl (lv_lss rfl rfl (decide_eq_true h63)) ?_
           refine t_done ?_
           refine q_then_n (hK35 _ _ ?_)
           refine c_true rfl ?_
           refine c_skip ?_
           refine q_then_n (hK34 _ _ ?_)
           refine c_seq (fun K36 hK36 => ?_)
           refine c_block ?_
           refine c_region ?_
           refine tp rfl (lv_move rfl) ?_
           refine tp rfl (lv_move rfl) ?_
           refine tp rfl (lv_indexAddr (k' := m) Try.underlying27 Try.sizeOf3 rfl rfl hok56 (by omega) (by omega) (by omega)) ?_
           refine t_f2 ?_
           refine ts (sv_sl Try.sizeOf3 rfl rfl rfl (by first | (simp; omega) | omega) ints_set) ?_
           refine t_done ?_
           refine q_in_n ?_
           refine q_then_n (hK36 _ _ ?_)
           refine c_region ?_
           refine tp rfl (lv_move rfl) ?_
           refine tp rfl (lv_add (c := ((m + 1 : Nat) : Int)) rfl rfl (wr_i64_succ (by omega))) ?_
           refine tp rfl (lv_assign rfl) ?_
           refine t_done ?_
           refine q_then_n ?_
           refine t_f2 ?_
           refine t_f2 ?_
           exact t_weak (by exact ⟨rfl, rfl, rfl, rfl, rfl, rfl, rfl, rfl, rfl, rfl, rfl, rfl, rfl, rfl, rfl, rfl, rfl, rfl, rfl, rfl, rfl, rfl, rfl, rfl, rfl, trivial⟩) ((hK33 (m + 1, (zs).set m (-6)) ⟨by omega, by simpa using hys⟩ (by dsimp only; omega)))
          · -- no
           refine tp rfl (lv_lss rfl rfl (decide_eq_false h63)) ?_
           refine t_done ?_
           refine q_then_n (hK35 _ _ ?_)
           refine c_false rfl ?_
           refine c_exit ?_
           refine q_then_x ?_
           refine q_then_x ?_
           refine q_in_x ?_
           refine q_in_n ?_
           refine q_then_n (hK12 _ _ ?_)
           refine c_region ?_
           refine tp rfl (lv_move rfl) ?_
           refine tp rfl (lv_add (c := ((i + 1 : Nat) : Int)) rfl rfl (wr_i64_succ (by omega))) ?_
           refine tp rfl (lv_assign rfl) ?_
           refine t_done ?_
           refine q_then_n ?_
           refine t_f2 ?_
           refine t_drop ?_
           refine t_f2 ?_
           refine t_drop ?_
           refine t_f2 ?_
           refine t_drop ?_
           exact t_weak (by exact ⟨rfl, rfl, rfl, rfl, rfl, rfl, rfl, rfl, trivial⟩) ((hK9 (i + 1, s) ⟨by omega, by omega, by dsimp only; omega⟩ (by dsimp only; omega)))
  · -- not both
    refine t_cut0 (E' := [(0, (.int .i64 A)), (1, (.int .i64 Q)), (2, (.slice bl es.length cl)), (7, (.bool true)), (8, (.pointer (some ⟨p1, 0, none⟩))), (9, (.pointer (some ⟨b2, 0, none⟩))), (10, (.int .i64 ((i : Nat) : Int))), (39, (.bool false)), (47, (.bool false))]) ?_ (fun KK hKK => ?_)
    ·
      refine q_then_n (hK11 _ _ ?_)
      refine c_false rfl ?_
      refine c_exit ?_
      refine q_then_x ?_
      refine q_then_x ?_
      refine q_in_x ?_
      refine q_then_n (hK7 _ _ ?_)
      refine c_seq (fun K12 hK12 => ?_)
      refine c_region ?_
      refine tp rfl (lv_move rfl) ?_
      refine tp rfl (lv_assign rfl) ?_
      refine t_done ?_
      refine q_then_n (hK12 _ _ ?_)
      refine c_ret ?_
      refine t_drop ?_
      refine t_drop ?_
      refine q_ret rfl rfl ?_
      exact ⟨rfl, rfl⟩
    · -- which
      by_cases hc3A : ((i : Nat) : Int) < ((es.length : Nat) : Int)
      ·
        have hc3B : ¬ (((i : Nat) : Int) < 200) := fun hh => hc3 ⟨hc3A, hh⟩
        refine tp rfl (lv_move rfl) ?_
        refine tp rfl (lv_move rfl) ?_
        refine tp rfl (lv_len Try.underlying22 rfl rfl) ?_
        refine tp rfl (lv_lss rfl rfl (decide_eq_true hc3A)) ?_
        refine tp rfl (lv_move rfl) ?_
        refine t_guard rfl rfl ?_
        refine tp rfl (lv_move rfl) ?_
        refine t_guard rfl rfl ?_
        refine tp rfl (lv_lss rfl rfl (decide_eq_false hc3B)) ?_
        refine tp rfl (lv_pick_t rfl rfl) ?_
        exact t_done (t_weak (by exact ⟨rfl, rfl, rfl, rfl, rfl, rfl, rfl, rfl, rfl, trivial⟩) hKK)
      ·
        refine tp rfl (lv_move rfl) ?_
        refine tp rfl (lv_move rfl) ?_
        refine tp rfl (lv_len Try.underlying22 rfl rfl) ?_
        refine tp rfl (lv_lss rfl rfl (decide_eq_false hc3A)) ?_
        refine tp rfl (lv_move rfl) ?_
        refine t_skip rfl rfl rfl ?_
        refine t_skip rfl rfl rfl ?_
        refine tp rfl (lv_pick_f rfl rfl) ?_
        exact t_done (t_weak (by exact ⟨rfl, rfl, rfl, rfl, rfl, rfl, rfl, rfl, rfl, trivial⟩) hKK)
end Go.Proofs.Ythhmdcbhgnoemaa
