/- AdmitAgain: the law's walk. -/
import Derived.Test.YthhmdcbhgnoemaaLa
import Derived.Test.YthhmdcbhgnoemaaAdl
set_option maxRecDepth 100000
set_option linter.unusedVariables false
set_option linter.unusedSimpArgs false
namespace Go.Proofs.Ythhmdcbhgnoemaa
open Go Go.Proofs Sp
theorem again_ok {R : List HP} {bl : Option Addr} {cl : Nat} (A Q : Int) (es : List (Int × Int)) (hl : Rd R bl (pairs es)) (okl : SlOk bl es.length) (ll : es.length ≤ 9223372036854775807) :
    Ok Try.prog 9 [(.int .i64 A), (.int .i64 Q), (.slice bl es.length cl)] R
      (fun v M => v = .bool true ∧ M = R) := by
  refine ok_of (N := 123) Try.func9 rfl rfl rfl (fun W => ?_)
  refine c_seq (fun K1 hK1 => ?_)
  refine c_region ?_
  refine tp rfl (lv_assign rfl) ?_
  refine t_done ?_
  refine q_then_n (hK1 _ _ ?_)
  refine c_seq (fun K2 hK2 => ?_)
  refine c_region ?_
  refine tc rfl (en_fn Try.call10 rfl) (shown_ok) ?_
  rintro _ _ ⟨rfl, hMR⟩
  rw [hMR]; clear hMR
  refine tp rfl (lv_assign rfl) ?_
  refine t_done ?_
  refine q_then_n (hK2 _ _ ?_)
  refine c_seq (fun K3 hK3 => ?_)
  refine c_region ?_
  refine tp rfl (lv_move rfl) ?_
  refine tp rfl (lv_move rfl) ?_
  refine tc rfl (en_fn Try.call11 rfl) (anew_ok A Q) ?_
  rintro _ _ ⟨p1, rfl, rfl⟩
  refine tp rfl (lv_assign rfl) ?_
  refine t_done ?_
  refine q_then_n (hK3 _ _ ?_)
  refine c_seq (fun K4 hK4 => ?_)
  refine c_region ?_
  refine tp rfl (lv_move rfl) ?_
  refine tp rfl (lv_move rfl) ?_
  refine tc rfl (en_fn Try.call11 rfl) (anew_ok A Q) ?_
  rintro _ _ ⟨p2, rfl, rfl⟩
  refine tp rfl (lv_assign rfl) ?_
  refine t_done ?_
  refine q_then_n (hK4 _ _ ?_)
  refine c_seq (fun K5 hK5 => ?_)
  refine c_seq (fun K6 hK6 => ?_)
  refine c_region ?_
  refine tp rfl (lv_move rfl) ?_
  refine tp rfl (lv_eqnil Try.underlying24 rfl rfl) ?_
  refine tp rfl (lv_move rfl) ?_
  refine t_guard rfl rfl ?_
  refine tp rfl (lv_move rfl) ?_
  refine t_guard rfl rfl ?_
  refine tp rfl (lv_eqnil Try.underlying24 rfl rfl) ?_
  refine tp rfl (lv_pick_f rfl rfl) ?_
  refine t_done ?_
  refine q_then_n (hK6 _ _ ?_)
  refine c_false rfl ?_
  refine c_skip ?_
  refine q_then_n (hK5 _ _ ?_)
  refine c_seq (fun K7 hK7 => ?_)
  refine c_seq (fun K8 hK8 => ?_)
  refine c_region ?_
  refine tp rfl (lv_assign rfl) ?_
  refine t_done ?_
  refine q_then_n (hK8 _ _ ?_)
  refine c_block ?_
  refine c_loop (γ := (Nat) × (AS)) (fun (i, s) => i ≤ es.length ∧ i ≤ 100 ∧ s.a.length + s.q.length ≤ i) (fun (i, s) => [(0, (.int .i64 A)), (1, (.int .i64 Q)), (2, (.slice bl es.length cl)), (7, (.bool true)), (8, (.pointer (some ⟨p1, 0, none⟩))), (9, (.pointer (some ⟨p2, 0, none⟩))), (10, (.int .i64 ((i : Nat) : Int))), (31, (.bool false))]) (fun (i, s) => (AdmO p2 (max A 1) (max Q 0) s) :: (AdmO p1 (max A 1) (max Q 0) s) :: R) (fun (i, s) => es.length - i) (0, ⟨[], []⟩) ⟨by omega, by omega, by decide⟩ ⟨rfl, rfl, rfl, rfl, rfl, rfl, rfl, rfl, trivial⟩ (fun _ h => h) ?_
  rintro ⟨i, s⟩ K9 hF hK9
  try dsimp only at hF hK9 ⊢
  obtain ⟨hi, hi2, hsl⟩ := hF
  refine c_seq (fun K10 hK10 => ?_)
  refine c_seq (fun K11 hK11 => ?_)
  refine c_region ?_
  by_cases hc3 : ((i : Nat) : Int) < ((es.length : Nat) : Int) ∧ ((i : Nat) : Int) < 100
  · -- both
    have hc3a := hc3.1
    have hc3b := hc3.2
    refine tp rfl (lv_move rfl) ?_
    refine tp rfl (lv_move rfl) ?_
    refine tp rfl (lv_len Try.underlying22 rfl rfl) ?_
    refine tp rfl (lv_lss rfl rfl (decide_eq_true hc3.1)) ?_
    refine tp rfl (lv_move rfl) ?_
    refine t_guard rfl rfl ?_
    refine tp rfl (lv_move rfl) ?_
    refine t_guard rfl rfl ?_
    refine tp rfl (lv_lss rfl rfl (decide_eq_true hc3.2)) ?_
    refine tp rfl (lv_pick_t rfl rfl) ?_
    refine t_done ?_
    refine q_then_n (hK11 _ _ ?_)
    refine c_true rfl ?_
    refine c_skip ?_
    refine q_then_n (hK10 _ _ ?_)
    refine c_seq (fun K12 hK12 => ?_)
    refine c_block ?_
    refine c_seq (fun K13 hK13 => ?_)
    refine c_seq (fun K14 hK14 => ?_)
    refine c_region ?_
    refine tp rfl (lv_move rfl) ?_
    refine tp rfl (lv_move rfl) ?_
    refine tp rfl (lv_indexAddr (k' := i * 2) Try.underlying22 Try.sizeOf31 rfl rfl okl (by omega) (by omega) (by omega)) ?_
    refine tp rfl (lv_fieldAddr_ad (o' := i * 2) Try.underlying31 rfl Try.sizeOf3 rfl rfl) ?_
    refine tp rfl (lv_load Try.isAgg3 rfl (Rd.gives (Rd.cons (Rd.cons hl)) (pairs_get0 (by omega)))) ?_
    by_cases h4 : (((es).getD i (0, 0)).1) = 3
    · -- yes
      refine tp rfl (lv_eql rfl rfl (beq_iff_eq.2 h4)) ?_
      refine t_done ?_
      refine q_then_n (hK14 _ _ ?_)
      refine c_true rfl ?_
      refine c_seq (fun K15 hK15 => ?_)
      refine c_region ?_
      refine tp rfl (lv_move rfl) ?_
      refine tp rfl (lv_move rfl) ?_
      refine tp rfl (lv_move rfl) ?_
      refine tp rfl (lv_indexAddr (k' := i * 2) Try.underlying22 Try.sizeOf31 rfl rfl okl (by omega) (by omega) (by omega)) ?_
      refine tp rfl (lv_fieldAddr_ad (o' := i * 2 + 1) Try.underlying31 rfl Try.sizeOf3 rfl rfl) ?_
      refine tp rfl (lv_load Try.isAgg3 rfl (Rd.gives (Rd.cons (Rd.cons hl)) (pairs_get1 (by omega)))) ?_
      refine t_f1 ?_
      refine tc rfl (en_fn Try.call14 rfl) (aend_ok (A := max A 1) (Q := max Q 0) (s := s) (((es).getD i (0, 0)).2) (by omega)) ?_
      rintro _ _ ⟨rfl, rfl⟩
      refine tp rfl (lv_move rfl) ?_
      refine tp rfl (lv_extract rfl rfl) ?_
      refine tp rfl (lv_extract rfl rfl) ?_
      refine tp rfl (lv_assign rfl) ?_
      refine tp rfl (lv_assign rfl) ?_
      refine t_done ?_
      refine q_then_n (hK15 _ _ ?_)
      refine c_seq (fun K16 hK16 => ?_)
      refine c_region ?_
      refine tp rfl (lv_move rfl) ?_
      by_cases h5 : (endEr s (((es).getD i (0, 0)).2)) = 0
      · -- yes
        refine tp rfl (lv_eql rfl rfl (beq_iff_eq.2 h5)) ?_
        refine t_done ?_
        refine q_then_n (hK16 _ _ ?_)
        refine c_true rfl ?_
        refine c_seq (fun K17 hK17 => ?_)
        refine c_region ?_
        refine tp rfl (lv_move rfl) ?_
        refine tp rfl (lv_move rfl) ?_
        refine tp rfl (lv_move rfl) ?_
        refine tp rfl (lv_indexAddr (k' := i * 2) Try.underlying22 Try.sizeOf31 rfl rfl okl (by omega) (by omega) (by omega)) ?_
        refine tp rfl (lv_fieldAddr_ad (o' := i * 2 + 1) Try.underlying31 rfl Try.sizeOf3 rfl rfl) ?_
        refine tp rfl (lv_load Try.isAgg3 rfl (Rd.gives (Rd.cons (Rd.cons hl)) (pairs_get1 (by omega)))) ?_
        refine t_f1 ?_
        refine tc rfl (en_fn Try.call14 rfl) (aend_ok (A := max A 1) (Q := max Q 0) (s := s) (((es).getD i (0, 0)).2) (by omega)) ?_
        rintro _ _ ⟨rfl, rfl⟩
        refine tp rfl (lv_move rfl) ?_
        refine tp rfl (lv_extract rfl rfl) ?_
        refine tp rfl (lv_extract rfl rfl) ?_
        refine tp rfl (lv_assign rfl) ?_
        refine tp rfl (lv_assign rfl) ?_
        refine t_done ?_
        refine q_then_n (hK17 _ _ ?_)
        refine c_seq (fun K18 hK18 => ?_)
        refine c_region ?_
        refine tp rfl (lv_move rfl) ?_
        refine tp rfl (lv_move rfl) ?_
        refine tp rfl (lv_neq rfl rfl (bne_eq_false_iff_eq.2 rfl)) ?_
        refine tp rfl (lv_move rfl) ?_
        refine t_guard rfl rfl ?_
        refine tp rfl (lv_move rfl) ?_
        refine t_guard rfl rfl ?_
        refine tp rfl (lv_move rfl) ?_
        refine t_guard rfl rfl ?_
        refine tp rfl (lv_neq rfl rfl (bne_eq_false_iff_eq.2 rfl)) ?_
        refine tp rfl (lv_pick_f rfl rfl) ?_
        refine t_done ?_
        refine q_then_n (hK18 _ _ ?_)
        refine c_false rfl ?_
        refine c_skip ?_
        refine q_then_n (hK13 _ _ ?_)
        refine c_seq (fun K19 hK19 => ?_)
        refine c_region ?_
        have hgr := endS_len s (((es).getD i (0, 0)).2)
        refine tp rfl (lv_move rfl) ?_
        refine t_f1 ?_
        refine tc rfl (en_fn Try.call16 rfl) (actives_ok (A := max A 1) (Q := max Q 0) (s := endS s (((es).getD i (0, 0)).2)) (by omega)) ?_
        rintro _ _ ⟨bs6, cp7, hok8, hle9, rfl, rfl⟩
        refine tp rfl (lv_move rfl) ?_
        refine t_f2 ?_
        refine tc rfl (en_fn Try.call16 rfl) (actives_ok (A := max A 1) (Q := max Q 0) (s := endS s (((es).getD i (0, 0)).2)) (by omega)) ?_
        rintro _ _ ⟨bs10, cp11, hok12, hle13, rfl, rfl⟩
        refine tc rfl (en_fn Try.call21 rfl) (ints_ok ((endS s (((es).getD i (0, 0)).2)).a) ((endS s (((es).getD i (0, 0)).2)).a) (rd_sl (.tail _ (.tail _ (.head _)))) (rd_sl (.head _)) hok8 hok12 (by first | omega | (simp; omega) | (simp; done)) (by first | omega | (simp; omega) | (simp; done))) ?_
        rintro _ _ ⟨rfl, rfl⟩
        rw [eqI_refl]
        refine tp rfl (lv_not (c := false) rfl rfl) ?_
        refine tp rfl (lv_move rfl) ?_
        refine t_guard rfl rfl ?_
        refine tp rfl (lv_move rfl) ?_
        refine t_guard rfl rfl ?_
        refine t_f3 ?_
        refine tc rfl (en_fn Try.call17 rfl) (waiting_ok (A := max A 1) (Q := max Q 0) (s := endS s (((es).getD i (0, 0)).2)) (by omega)) ?_
        rintro _ _ ⟨bs14, cp15, hok16, hle17, rfl, rfl⟩
        refine t_guard rfl rfl ?_
        refine tp rfl (lv_move rfl) ?_
        refine t_guard rfl rfl ?_
        refine t_f3 ?_
        refine tc rfl (en_fn Try.call17 rfl) (waiting_ok (A := max A 1) (Q := max Q 0) (s := endS s (((es).getD i (0, 0)).2)) (by omega)) ?_
        rintro _ _ ⟨bs18, cp19, hok20, hle21, rfl, rfl⟩
        refine t_guard rfl rfl ?_
        refine tc rfl (en_fn Try.call21 rfl) (ints_ok ((endS s (((es).getD i (0, 0)).2)).q) ((endS s (((es).getD i (0, 0)).2)).q) (rd_sl (.tail _ (.tail _ (.head _)))) (rd_sl (.head _)) hok16 hok20 (by first | omega | (simp; omega) | (simp; done)) (by first | omega | (simp; omega) | (simp; done))) ?_
        rintro _ _ ⟨rfl, rfl⟩
        rw [eqI_refl]
        refine t_guard rfl rfl ?_
        refine tp rfl (lv_not (c := false) rfl rfl) ?_
        refine tp rfl (lv_pick_f rfl rfl) ?_
        refine t_done ?_
        refine q_then_n (hK19 _ _ ?_)
        refine c_false rfl ?_
        refine c_skip ?_
        refine q_in_n ?_
        refine q_then_n (hK12 _ _ ?_)
        refine c_region ?_
        refine tp rfl (lv_move rfl) ?_
        refine tp rfl (lv_add (c := ((i + 1 : Nat) : Int)) rfl rfl (wr_i64_succ (by omega))) ?_
        refine tp rfl (lv_assign rfl) ?_
        refine t_done ?_
        refine q_then_n ?_
        refine t_drop ?_
        refine t_f1 ?_
        refine t_drop ?_
        refine t_f2 ?_
        refine t_drop ?_
        refine t_f2 ?_
        refine t_drop ?_
        exact t_weak (by exact ⟨rfl, rfl, rfl, rfl, rfl, rfl, rfl, rfl, trivial⟩) ((hK9 (i + 1, endS s (((es).getD i (0, 0)).2)) ⟨by omega, by omega, by dsimp only; omega⟩ (by dsimp only; omega)))
      · -- no
        refine tp rfl (lv_eql rfl rfl (beq_eq_false_iff_ne.2 h5)) ?_
        refine t_done ?_
        refine q_then_n (hK16 _ _ ?_)
        refine c_false rfl ?_
        refine c_skip ?_
        refine q_then_n (hK13 _ _ ?_)
        refine c_seq (fun K17 hK17 => ?_)
        refine c_region ?_
        have hgr := endS_len s (((es).getD i (0, 0)).2)
        rw [show endS s (((es).getD i (0, 0)).2) = s from endS_same h5]
        refine tp rfl (lv_move rfl) ?_
        refine tc rfl (en_fn Try.call16 rfl) (actives_ok (A := max A 1) (Q := max Q 0) (s := s) (by omega)) ?_
        rintro _ _ ⟨bs22, cp23, hok24, hle25, rfl, rfl⟩
        refine tp rfl (lv_move rfl) ?_
        refine t_f2 ?_
        refine tc rfl (en_fn Try.call16 rfl) (actives_ok (A := max A 1) (Q := max Q 0) (s := s) (by omega)) ?_
        rintro _ _ ⟨bs26, cp27, hok28, hle29, rfl, rfl⟩
        refine tc rfl (en_fn Try.call21 rfl) (ints_ok s.a s.a (rd_sl (.tail _ (.tail _ (.head _)))) (rd_sl (.head _)) hok24 hok28 (by first | omega | (simp; omega) | (simp; done)) (by first | omega | (simp; omega) | (simp; done))) ?_
        rintro _ _ ⟨rfl, rfl⟩
        rw [eqI_refl]
        refine tp rfl (lv_not (c := false) rfl rfl) ?_
        refine tp rfl (lv_move rfl) ?_
        refine t_guard rfl rfl ?_
        refine tp rfl (lv_move rfl) ?_
        refine t_guard rfl rfl ?_
        refine t_f3 ?_
        refine tc rfl (en_fn Try.call17 rfl) (waiting_ok (A := max A 1) (Q := max Q 0) (s := s) (by omega)) ?_
        rintro _ _ ⟨bs30, cp31, hok32, hle33, rfl, rfl⟩
        refine t_guard rfl rfl ?_
        refine tp rfl (lv_move rfl) ?_
        refine t_guard rfl rfl ?_
        refine t_f3 ?_
        refine tc rfl (en_fn Try.call17 rfl) (waiting_ok (A := max A 1) (Q := max Q 0) (s := s) (by omega)) ?_
        rintro _ _ ⟨bs34, cp35, hok36, hle37, rfl, rfl⟩
        refine t_guard rfl rfl ?_
        refine tc rfl (en_fn Try.call21 rfl) (ints_ok s.q s.q (rd_sl (.tail _ (.tail _ (.head _)))) (rd_sl (.head _)) hok32 hok36 (by first | omega | (simp; omega) | (simp; done)) (by first | omega | (simp; omega) | (simp; done))) ?_
        rintro _ _ ⟨rfl, rfl⟩
        rw [eqI_refl]
        refine t_guard rfl rfl ?_
        refine tp rfl (lv_not (c := false) rfl rfl) ?_
        refine tp rfl (lv_pick_f rfl rfl) ?_
        refine t_done ?_
        refine q_then_n (hK17 _ _ ?_)
        refine c_false rfl ?_
        refine c_skip ?_
        refine q_in_n ?_
        refine q_then_n (hK12 _ _ ?_)
        refine c_region ?_
        refine tp rfl (lv_move rfl) ?_
        refine tp rfl (lv_add (c := ((i + 1 : Nat) : Int)) rfl rfl (wr_i64_succ (by omega))) ?_
        refine tp rfl (lv_assign rfl) ?_
        refine t_done ?_
        refine q_then_n ?_
        refine t_drop ?_
        refine t_f1 ?_
        refine t_drop ?_
        refine t_f2 ?_
        refine t_drop ?_
        refine t_f2 ?_
        refine t_drop ?_
        exact t_weak (by exact ⟨rfl, rfl, rfl, rfl, rfl, rfl, rfl, rfl, trivial⟩) ((hK9 (i + 1, s) ⟨by omega, by omega, by dsimp only; omega⟩ (by dsimp only; omega)))
    · -- no
      refine tp rfl (lv_eql rfl rfl (beq_eq_false_iff_ne.2 h4)) ?_
      refine t_done ?_
      refine q_then_n (hK14 _ _ ?_)
      refine c_false rfl ?_
      refine c_seq (fun K15 hK15 => ?_)
      refine c_region ?_
      refine tp rfl (lv_move rfl) ?_
      refine tp rfl (lv_move rfl) ?_
      refine tp rfl (lv_move rfl) ?_
      refine tp rfl (lv_indexAddr (k' := i * 2) Try.underlying22 Try.sizeOf31 rfl rfl okl (by omega) (by omega) (by omega)) ?_
      refine tp rfl (lv_fieldAddr_ad (o' := i * 2 + 1) Try.underlying31 rfl Try.sizeOf3 rfl rfl) ?_
      refine tp rfl (lv_load Try.isAgg3 rfl (Rd.gives (Rd.cons (Rd.cons hl)) (pairs_get1 (by omega)))) ?_
      refine t_f1 ?_
      refine tc rfl (en_fn Try.call12 rfl) (aadd_ok (A := max A 1) (Q := max Q 0) (s := s) (((es).getD i (0, 0)).2) (by omega)) ?_
      rintro _ _ ⟨rfl, rfl⟩
      refine tp rfl (lv_move rfl) ?_
      refine tp rfl (lv_extract rfl rfl) ?_
      refine tp rfl (lv_extract rfl rfl) ?_
      refine tp rfl (lv_assign rfl) ?_
      refine tp rfl (lv_assign rfl) ?_
      refine t_done ?_
      refine q_then_n (hK15 _ _ ?_)
      refine c_seq (fun K16 hK16 => ?_)
      refine c_region ?_
      refine tp rfl (lv_move rfl) ?_
      by_cases h38 : (addEr (max A 1) (max Q 0) s (((es).getD i (0, 0)).2)) = 0
      · -- yes
        refine tp rfl (lv_eql rfl rfl (beq_iff_eq.2 h38)) ?_
        refine t_done ?_
        refine q_then_n (hK16 _ _ ?_)
        refine c_true rfl ?_
        refine c_seq (fun K17 hK17 => ?_)
        refine c_region ?_
        refine tp rfl (lv_move rfl) ?_
        refine tp rfl (lv_move rfl) ?_
        refine tp rfl (lv_move rfl) ?_
        refine tp rfl (lv_indexAddr (k' := i * 2) Try.underlying22 Try.sizeOf31 rfl rfl okl (by omega) (by omega) (by omega)) ?_
        refine tp rfl (lv_fieldAddr_ad (o' := i * 2 + 1) Try.underlying31 rfl Try.sizeOf3 rfl rfl) ?_
        refine tp rfl (lv_load Try.isAgg3 rfl (Rd.gives (Rd.cons (Rd.cons hl)) (pairs_get1 (by omega)))) ?_
        refine t_f1 ?_
        refine tc rfl (en_fn Try.call12 rfl) (aadd_ok (A := max A 1) (Q := max Q 0) (s := s) (((es).getD i (0, 0)).2) (by omega)) ?_
        rintro _ _ ⟨rfl, rfl⟩
        refine tp rfl (lv_move rfl) ?_
        refine tp rfl (lv_extract rfl rfl) ?_
        refine tp rfl (lv_extract rfl rfl) ?_
        refine tp rfl (lv_assign rfl) ?_
        refine tp rfl (lv_assign rfl) ?_
        refine t_done ?_
        refine q_then_n (hK17 _ _ ?_)
        refine c_seq (fun K18 hK18 => ?_)
        refine c_region ?_
        refine tp rfl (lv_move rfl) ?_
        refine tp rfl (lv_move rfl) ?_
        refine tp rfl (lv_neq rfl rfl (bne_eq_false_iff_eq.2 rfl)) ?_
        refine tp rfl (lv_move rfl) ?_
        refine t_guard rfl rfl ?_
        refine tp rfl (lv_move rfl) ?_
        refine t_guard rfl rfl ?_
        refine tp rfl (lv_move rfl) ?_
        refine t_guard rfl rfl ?_
        refine tp rfl (lv_neq rfl rfl (bne_eq_false_iff_eq.2 rfl)) ?_
        refine tp rfl (lv_pick_f rfl rfl) ?_
        refine t_done ?_
        refine q_then_n (hK18 _ _ ?_)
        refine c_false rfl ?_
        refine c_skip ?_
        refine q_then_n (hK13 _ _ ?_)
        refine c_seq (fun K19 hK19 => ?_)
        refine c_region ?_
        have hgr := addS_len (max A 1) (max Q 0) s (((es).getD i (0, 0)).2)
        refine tp rfl (lv_move rfl) ?_
        refine t_f1 ?_
        refine tc rfl (en_fn Try.call16 rfl) (actives_ok (A := max A 1) (Q := max Q 0) (s := addS (max A 1) (max Q 0) s (((es).getD i (0, 0)).2)) (by omega)) ?_
        rintro _ _ ⟨bs39, cp40, hok41, hle42, rfl, rfl⟩
        refine tp rfl (lv_move rfl) ?_
        refine t_f2 ?_
        refine tc rfl (en_fn Try.call16 rfl) (actives_ok (A := max A 1) (Q := max Q 0) (s := addS (max A 1) (max Q 0) s (((es).getD i (0, 0)).2)) (by omega)) ?_
        rintro _ _ ⟨bs43, cp44, hok45, hle46, rfl, rfl⟩
        refine tc rfl (en_fn Try.call21 rfl) (ints_ok ((addS (max A 1) (max Q 0) s (((es).getD i (0, 0)).2)).a) ((addS (max A 1) (max Q 0) s (((es).getD i (0, 0)).2)).a) (rd_sl (.tail _ (.tail _ (.head _)))) (rd_sl (.head _)) hok41 hok45 (by first | omega | (simp; omega) | (simp; done)) (by first | omega | (simp; omega) | (simp; done))) ?_
        rintro _ _ ⟨rfl, rfl⟩
        rw [eqI_refl]
        refine tp rfl (lv_not (c := false) rfl rfl) ?_
        refine tp rfl (lv_move rfl) ?_
        refine t_guard rfl rfl ?_
        refine tp rfl (lv_move rfl) ?_
        refine t_guard rfl rfl ?_
        refine t_f3 ?_
        refine tc rfl (en_fn Try.call17 rfl) (waiting_ok (A := max A 1) (Q := max Q 0) (s := addS (max A 1) (max Q 0) s (((es).getD i (0, 0)).2)) (by omega)) ?_
        rintro _ _ ⟨bs47, cp48, hok49, hle50, rfl, rfl⟩
        refine t_guard rfl rfl ?_
        refine tp rfl (lv_move rfl) ?_
        refine t_guard rfl rfl ?_
        refine t_f3 ?_
        refine tc rfl (en_fn Try.call17 rfl) (waiting_ok (A := max A 1) (Q := max Q 0) (s := addS (max A 1) (max Q 0) s (((es).getD i (0, 0)).2)) (by omega)) ?_
        rintro _ _ ⟨bs51, cp52, hok53, hle54, rfl, rfl⟩
        refine t_guard rfl rfl ?_
        refine tc rfl (en_fn Try.call21 rfl) (ints_ok ((addS (max A 1) (max Q 0) s (((es).getD i (0, 0)).2)).q) ((addS (max A 1) (max Q 0) s (((es).getD i (0, 0)).2)).q) (rd_sl (.tail _ (.tail _ (.head _)))) (rd_sl (.head _)) hok49 hok53 (by first | omega | (simp; omega) | (simp; done)) (by first | omega | (simp; omega) | (simp; done))) ?_
        rintro _ _ ⟨rfl, rfl⟩
        rw [eqI_refl]
        refine t_guard rfl rfl ?_
        refine tp rfl (lv_not (c := false) rfl rfl) ?_
        refine tp rfl (lv_pick_f rfl rfl) ?_
        refine t_done ?_
        refine q_then_n (hK19 _ _ ?_)
        refine c_false rfl ?_
        refine c_skip ?_
        refine q_in_n ?_
        refine q_then_n (hK12 _ _ ?_)
        refine c_region ?_
        refine tp rfl (lv_move rfl) ?_
        refine tp rfl (lv_add (c := ((i + 1 : Nat) : Int)) rfl rfl (wr_i64_succ (by omega))) ?_
        refine tp rfl (lv_assign rfl) ?_
        refine t_done ?_
        refine q_then_n ?_
        refine t_drop ?_
        refine t_f1 ?_
        refine t_drop ?_
        refine t_f2 ?_
        refine t_drop ?_
        refine t_f2 ?_
        refine t_drop ?_
        exact t_weak (by exact ⟨rfl, rfl, rfl, rfl, rfl, rfl, rfl, rfl, trivial⟩) ((hK9 (i + 1, addS (max A 1) (max Q 0) s (((es).getD i (0, 0)).2)) ⟨by omega, by omega, by dsimp only; omega⟩ (by dsimp only; omega)))
      · -- no
        refine tp rfl (lv_eql rfl rfl (beq_eq_false_iff_ne.2 h38)) ?_
        refine t_done ?_
        refine q_then_n (hK16 _ _ ?_)
        refine c_false rfl ?_
        refine c_skip ?_
        refine q_then_n (hK13 _ _ ?_)
        refine c_seq (fun K17 hK17 => ?_)
        refine c_region ?_
        have hgr := addS_len (max A 1) (max Q 0) s (((es).getD i (0, 0)).2)
        rw [show addS (max A 1) (max Q 0) s (((es).getD i (0, 0)).2) = s from addS_same h38]
        refine tp rfl (lv_move rfl) ?_
        refine tc rfl (en_fn Try.call16 rfl) (actives_ok (A := max A 1) (Q := max Q 0) (s := s) (by omega)) ?_
        rintro _ _ ⟨bs55, cp56, hok57, hle58, rfl, rfl⟩
        refine tp rfl (lv_move rfl) ?_
        refine t_f2 ?_
        refine tc rfl (en_fn Try.call16 rfl) (actives_ok (A := max A 1) (Q := max Q 0) (s := s) (by omega)) ?_
        rintro _ _ ⟨bs59, cp60, hok61, hle62, rfl, rfl⟩
        refine tc rfl (en_fn Try.call21 rfl) (ints_ok s.a s.a (rd_sl (.tail _ (.tail _ (.head _)))) (rd_sl (.head _)) hok57 hok61 (by first | omega | (simp; omega) | (simp; done)) (by first | omega | (simp; omega) | (simp; done))) ?_
        rintro _ _ ⟨rfl, rfl⟩
        rw [eqI_refl]
        refine tp rfl (lv_not (c := false) rfl rfl) ?_
        refine tp rfl (lv_move rfl) ?_
        refine t_guard rfl rfl ?_
        refine tp rfl (lv_move rfl) ?_
        refine t_guard rfl rfl ?_
        refine t_f3 ?_
        refine tc rfl (en_fn Try.call17 rfl) (waiting_ok (A := max A 1) (Q := max Q 0) (s := s) (by omega)) ?_
        rintro _ _ ⟨bs63, cp64, hok65, hle66, rfl, rfl⟩
        refine t_guard rfl rfl ?_
        refine tp rfl (lv_move rfl) ?_
        refine t_guard rfl rfl ?_
        refine t_f3 ?_
        refine tc rfl (en_fn Try.call17 rfl) (waiting_ok (A := max A 1) (Q := max Q 0) (s := s) (by omega)) ?_
        rintro _ _ ⟨bs67, cp68, hok69, hle70, rfl, rfl⟩
        refine t_guard rfl rfl ?_
        refine tc rfl (en_fn Try.call21 rfl) (ints_ok s.q s.q (rd_sl (.tail _ (.tail _ (.head _)))) (rd_sl (.head _)) hok65 hok69 (by first | omega | (simp; omega) | (simp; done)) (by first | omega | (simp; omega) | (simp; done))) ?_
        rintro _ _ ⟨rfl, rfl⟩
        rw [eqI_refl]
        refine t_guard rfl rfl ?_
        refine tp rfl (lv_not (c := false) rfl rfl) ?_
        refine tp rfl (lv_pick_f rfl rfl) ?_
        refine t_done ?_
        refine q_then_n (hK17 _ _ ?_)
        refine c_false rfl ?_
        refine c_skip ?_
        refine q_in_n ?_
        refine q_then_n (hK12 _ _ ?_)
        refine c_region ?_
        refine tp rfl (lv_move rfl) ?_
        refine tp rfl (lv_add (c := ((i + 1 : Nat) : Int)) rfl rfl (wr_i64_succ (by omega))) ?_
        refine tp rfl (lv_assign rfl) ?_
        refine t_done ?_
        refine q_then_n ?_
        refine t_drop ?_
        refine t_f1 ?_
        refine t_drop ?_
        refine t_f2 ?_
        refine t_drop ?_
        refine t_f2 ?_
        refine t_drop ?_
        exact t_weak (by exact ⟨rfl, rfl, rfl, rfl, rfl, rfl, rfl, rfl, trivial⟩) ((hK9 (i + 1, s) ⟨by omega, by omega, by dsimp only; omega⟩ (by dsimp only; omega)))
  · -- not both
    refine t_cut0 (E' := [(0, (.int .i64 A)), (1, (.int .i64 Q)), (2, (.slice bl es.length cl)), (7, (.bool true)), (8, (.pointer (some ⟨p1, 0, none⟩))), (9, (.pointer (some ⟨p2, 0, none⟩))), (10, (.int .i64 ((i : Nat) : Int))), (31, (.bool false)), (39, (.bool false))]) ?_ (fun KK hKK => ?_)
    ·
      refine q_then_n (hK11 _ _ ?_)
      refine c_false rfl ?_
      refine c_exit ?_
      refine q_then_x ?_
      refine q_then_x ?_
      refine q_in_x ?_
      refine q_then_n (hK7 _ _ ?_)
      refine c_seq (fun K12 hK12 => ?_)
      refine c_region ?_
      refine tp rfl (lv_move rfl) ?_
      refine tp rfl (lv_assign rfl) ?_
      refine t_done ?_
      refine q_then_n (hK12 _ _ ?_)
      refine c_ret ?_
      refine t_drop ?_
      refine t_drop ?_
      refine q_ret rfl rfl ?_
      exact ⟨rfl, rfl⟩
    · -- which
      by_cases hc3A : ((i : Nat) : Int) < ((es.length : Nat) : Int)
      ·
        have hc3B : ¬ (((i : Nat) : Int) < 100) := fun hh => hc3 ⟨hc3A, hh⟩
        refine tp rfl (lv_move rfl) ?_
        refine tp rfl (lv_move rfl) ?_
        refine tp rfl (lv_len Try.underlying22 rfl rfl) ?_
        refine tp rfl (lv_lss rfl rfl (decide_eq_true hc3A)) ?_
        refine tp rfl (lv_move rfl) ?_
        refine t_guard rfl rfl ?_
        refine tp rfl (lv_move rfl) ?_
        refine t_guard rfl rfl ?_
        refine tp rfl (lv_lss rfl rfl (decide_eq_false hc3B)) ?_
        refine tp rfl (lv_pick_t rfl rfl) ?_
        exact t_done (t_weak (by exact ⟨rfl, rfl, rfl, rfl, rfl, rfl, rfl, rfl, rfl, trivial⟩) hKK)
      ·
        refine tp rfl (lv_move rfl) ?_
        refine tp rfl (lv_move rfl) ?_
        refine tp rfl (lv_len Try.underlying22 rfl rfl) ?_
        refine tp rfl (lv_lss rfl rfl (decide_eq_false hc3A)) ?_
        refine tp rfl (lv_move rfl) ?_
        refine t_skip rfl rfl rfl ?_
        refine t_skip rfl rfl rfl ?_
        refine tp rfl (lv_pick_f rfl rfl) ?_
        exact t_done (t_weak (by exact ⟨rfl, rfl, rfl, rfl, rfl, rfl, rfl, rfl, rfl, trivial⟩) hKK)
end Go.Proofs.Ythhmdcbhgnoemaa
