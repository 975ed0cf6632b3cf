/- AdmitTurns: the law's walk. -/
import Derived.Test.YthhmdcbhgnoemaaLa
import Derived.Test.YthhmdcbhgnoemaaAdm4
set_option maxRecDepth 100000
set_option linter.unusedVariables false
set_option linter.unusedSimpArgs false
namespace Go.Proofs.Ythhmdcbhgnoemaa
open Go Go.Proofs Sp
set_option maxHeartbeats 4000000 in
theorem turns_ok {R : List HP} {bl : Option Addr} {cl : Nat} (n m : Int) (ps : List Int) (hl : Rd R bl (ints .u8 ps)) (okl : SlOk bl ps.length) (ll : ps.length ≤ 9223372036854775807) (hw : ∀ x ∈ ps, (Lit.int .u8 x).wf = true) :
    Ok Try.prog 4 [(.int .i64 n), (.int .i64 m), (.slice bl ps.length cl)] R
      (fun v M => v = .bool true ∧ M = R) := by
  obtain ⟨A, hA⟩ : ∃ A : Nat, 1 + n % 65536 % 10 = (A : Int) := ⟨(1 + n % 65536 % 10).toNat, by omega⟩
  have hA1 : 1 ≤ A := by omega
  have hA2 : A ≤ 10 := by omega
  obtain ⟨Q, hQ⟩ : ∃ Q : Nat, m % 65536 % 21 = (Q : Int) := ⟨(m % 65536 % 21).toNat, by omega⟩
  have hQ2 : Q ≤ 20 := by omega
  refine ok_of (N := 145) Try.func4 rfl rfl rfl (fun W => ?_)
  refine c_seq (fun K1 hK1 => ?_)
  refine c_region ?_
  refine tp rfl (lv_assign rfl) ?_
  refine t_done ?_
  refine q_then_n (hK1 _ _ ?_)
  refine c_seq (fun K2 hK2 => ?_)
  refine c_region ?_
  refine tc rfl (en_fn Try.call10 rfl) (shown_ok) ?_
  rintro _ _ ⟨rfl, hMR⟩
  rw [hMR]; clear hMR
  refine tp rfl (lv_assign rfl) ?_
  refine t_done ?_
  refine q_then_n (hK2 _ _ ?_)
  refine c_seq (fun K3 hK3 => ?_)
  refine c_region ?_
  refine tp rfl (lv_move rfl) ?_
  refine tp rfl (lv_and (c := n % 65536) rfl rfl (and_ffff n)) ?_
  refine tp rfl (lv_rem (c := (n % 65536) % 10) rfl rfl (by omega) (Int.tmod_eq_emod_of_nonneg (by omega))) ?_
  refine tp rfl (lv_add (c := ((A : Nat) : Int)) rfl rfl ((wr_i64 (by omega) (by omega)).trans hA)) ?_
  refine tp rfl (lv_assign rfl) ?_
  refine t_done ?_
  refine q_then_n (hK3 _ _ ?_)
  refine c_seq (fun K4 hK4 => ?_)
  refine c_region ?_
  refine tp rfl (lv_move rfl) ?_
  refine tp rfl (lv_and (c := m % 65536) rfl rfl (and_ffff m)) ?_
  refine tp rfl (lv_rem (c := ((Q : Nat) : Int)) rfl rfl (by omega) ((Int.tmod_eq_emod_of_nonneg (by omega)).trans hQ)) ?_
  refine tp rfl (lv_assign rfl) ?_
  refine t_done ?_
  refine q_then_n (hK4 _ _ ?_)
  refine c_seq (fun K5 hK5 => ?_)
  refine c_region ?_
  refine tp rfl (lv_move rfl) ?_
  refine tp rfl (lv_move rfl) ?_
  refine tc rfl (en_fn Try.call11 rfl) (anew_ok ((A : Nat) : Int) ((Q : Nat) : Int)) ?_
  rintro _ _ ⟨p1, rfl, rfl⟩
  rw [show max ((A : Nat) : Int) 1 = ((A : Nat) : Int) from (by omega)]
  rw [show max ((Q : Nat) : Int) 0 = ((Q : Nat) : Int) from (by omega)]
  refine tp rfl (lv_assign rfl) ?_
  refine t_done ?_
  refine q_then_n (hK5 _ _ ?_)
  refine c_seq (fun K6 hK6 => ?_)
  refine c_seq (fun K7 hK7 => ?_)
  refine c_region ?_
  refine tp rfl (lv_move rfl) ?_
  refine tp rfl (lv_eqnil Try.underlying24 rfl rfl) ?_
  refine t_done ?_
  refine q_then_n (hK7 _ _ ?_)
  refine c_false rfl ?_
  refine c_skip ?_
  refine q_then_n (hK6 _ _ ?_)
  refine c_seq (fun K8 hK8 => ?_)
  refine c_region ?_
  refine tp rfl (lv_move rfl) ?_
  refine tp rfl (lv_move rfl) ?_
  refine tp rfl (lv_add (c := ((A + Q : Nat) : Int)) rfl rfl ((wr_i64 (by omega) (by omega)).trans (by push_cast; rfl))) ?_
  refine tp rfl (lv_assign rfl) ?_
  refine t_done ?_
  refine q_then_n (hK8 _ _ ?_)
  refine c_seq (fun K9 hK9 => ?_)
  refine c_seq (fun K10 hK10 => ?_)
  refine c_region ?_
  refine tp rfl (lv_assign rfl) ?_
  refine t_done ?_
  refine q_then_n (hK10 _ _ ?_)
  refine c_block ?_
  refine c_loop (γ := (Nat)) (fun (k : Nat) => k ≤ A + Q) (fun (k : Nat) => [(0, (.int .i64 ((A : Nat) : Int))), (1, (.int .i64 ((Q : Nat) : Int))), (2, (.slice bl ps.length cl)), (7, (.bool true)), (8, (.pointer (some ⟨p1, 0, none⟩))), (9, (.int .i64 ((A + Q : Nat) : Int))), (10, (.int .i64 ((k : Nat) : Int))), (34, (.bool false))]) (fun (k : Nat) => (AdmO p1 ((A : Nat) : Int) ((Q : Nat) : Int) (fillS A k)) :: R) (fun (k : Nat) => A + Q - k) (0) (by omega) ⟨rfl, rfl, rfl, rfl, rfl, rfl, rfl, rfl, trivial⟩ (fun _ h => by rw [fill_zero]; exact h) ?_
  rintro k K11 hF hK11
  try dsimp only at hF hK11 ⊢
  refine c_seq (fun K12 hK12 => ?_)
  refine c_seq (fun K13 hK13 => ?_)
  refine c_region ?_
  refine tp rfl (lv_move rfl) ?_
  refine tp rfl (lv_move rfl) ?_
  by_cases h2 : ((k : Nat) : Int) < ((A + Q : Nat) : Int)
  · -- yes
    refine tp rfl (lv_lss rfl rfl (decide_eq_true h2)) ?_
    refine t_done ?_
    refine q_then_n (hK13 _ _ ?_)
    refine c_true rfl ?_
    refine c_skip ?_
    refine q_then_n (hK12 _ _ ?_)
    refine c_seq (fun K14 hK14 => ?_)
    refine c_block ?_
    refine c_seq (fun K15 hK15 => ?_)
    refine c_region ?_
    obtain ⟨e1, e2, e3⟩ := fill_add (Q := Q) hA1 (show k < A + Q by omega)
    refine tp rfl (lv_move rfl) ?_
    refine tp rfl (lv_move rfl) ?_
    refine tp rfl (lv_add (c := 100 + ((k : Nat) : Int)) rfl rfl (wr_i64 (by omega) (by omega))) ?_
    refine tc rfl (en_fn Try.call12 rfl) (aadd_ok (A := ((A : Nat) : Int)) (Q := ((Q : Nat) : Int)) (s := fillS A k) (100 + ((k : Nat) : Int)) (by simp [fillS, hun_len]; omega)) ?_
    rintro _ _ ⟨rfl, rfl⟩
    rw [show addS ((A : Nat) : Int) ((Q : Nat) : Int) (fillS A k) (100 + ((k : Nat) : Int)) = fillS A (k + 1) from e1]
    rw [show addV ((A : Nat) : Int) ((Q : Nat) : Int) (fillS A k) (100 + ((k : Nat) : Int)) = if k < A then 1 else 0 from e2]
    rw [show addEr ((A : Nat) : Int) ((Q : Nat) : Int) (fillS A k) (100 + ((k : Nat) : Int)) = 0 from e3]
    refine tp rfl (lv_move rfl) ?_
    refine tp rfl (lv_extract rfl rfl) ?_
    refine tp rfl (lv_extract rfl rfl) ?_
    refine tp rfl (lv_assign rfl) ?_
    refine tp rfl (lv_assign rfl) ?_
    refine t_done ?_
    refine q_then_n (hK15 _ _ ?_)
    refine c_seq (fun K16 hK16 => ?_)
    refine c_region ?_
    refine tp rfl (lv_move rfl) ?_
    refine tp rfl (lv_neq (r := false) rfl rfl (by decide)) ?_
    refine tp rfl (lv_move rfl) ?_
    refine t_guard rfl rfl ?_
    refine tp rfl (lv_move rfl) ?_
    refine t_guard rfl rfl ?_
    refine tp rfl (lv_eql rfl rfl rfl) ?_
    refine t_guard rfl rfl ?_
    refine tp rfl (lv_move rfl) ?_
    refine t_guard rfl rfl ?_
    refine tp rfl (lv_move rfl) ?_
    refine t_guard rfl rfl ?_
    refine tp rfl (lv_lss rfl rfl rfl) ?_
    refine t_guard rfl rfl ?_
    refine tp rfl (lv_neb Try.underlying4 rfl rfl (fill_ok k A)) ?_
    refine tp rfl (lv_pick_f rfl rfl) ?_
    refine t_done ?_
    refine q_then_n (hK16 _ _ ?_)
    refine c_false rfl ?_
    refine c_skip ?_
    refine q_in_n ?_
    refine q_then_n (hK14 _ _ ?_)
    refine c_region ?_
    refine tp rfl (lv_move rfl) ?_
    refine tp rfl (lv_add (c := ((k + 1 : Nat) : Int)) rfl rfl (wr_i64_succ (by omega))) ?_
    refine tp rfl (lv_assign rfl) ?_
    refine t_done ?_
    refine q_then_n ?_
    exact t_weak (by exact ⟨rfl, rfl, rfl, rfl, rfl, rfl, rfl, rfl, trivial⟩) ((hK11 (k + 1) (by omega) (by omega)))
  · -- no
    refine tp rfl (lv_lss rfl rfl (decide_eq_false h2)) ?_
    refine t_done ?_
    refine q_then_n (hK13 _ _ ?_)
    refine c_false rfl ?_
    refine c_exit ?_
    refine q_then_x ?_
    refine q_then_x ?_
    refine q_in_x ?_
    refine q_then_n (hK9 _ _ ?_)
    refine c_seq (fun K14 hK14 => ?_)
    refine c_region ?_
    rw [show fillS A k = fillS A (A + Q) from by rw [show k = A + Q by omega]]
    obtain ⟨e1, e2, e3⟩ := fill_full (A := A) (Q := Q) hA1
    refine tp rfl (lv_move rfl) ?_
    refine tc rfl (en_fn Try.call12 rfl) (aadd_ok (A := ((A : Nat) : Int)) (Q := ((Q : Nat) : Int)) (s := fillS A (A + Q)) 99 (by simp [fillS, hun_len]; omega)) ?_
    rintro _ _ ⟨rfl, rfl⟩
    rw [show addS ((A : Nat) : Int) ((Q : Nat) : Int) (fillS A (A + Q)) 99 = fillS A (A + Q) from e1]
    rw [show addV ((A : Nat) : Int) ((Q : Nat) : Int) (fillS A (A + Q)) 99 = 0 from e2]
    rw [show addEr ((A : Nat) : Int) ((Q : Nat) : Int) (fillS A (A + Q)) 99 = 4 from e3]
    refine tp rfl (lv_move rfl) ?_
    refine tp rfl (lv_extract rfl rfl) ?_
    refine tp rfl (lv_extract rfl rfl) ?_
    refine tp rfl (lv_assign rfl) ?_
    refine tp rfl (lv_assign rfl) ?_
    refine t_done ?_
    refine q_then_n (hK14 _ _ ?_)
    refine c_seq (fun K15 hK15 => ?_)
    refine c_region ?_
    refine tp rfl (lv_move rfl) ?_
    refine tp rfl (lv_assign rfl) ?_
    refine t_done ?_
    refine q_then_n (hK15 _ _ ?_)
    refine c_seq (fun K16 hK16 => ?_)
    refine c_seq (fun K17 hK17 => ?_)
    refine c_region ?_
    refine tp rfl (lv_assign rfl) ?_
    refine t_done ?_
    refine q_then_n (hK17 _ _ ?_)
    refine c_block ?_
    refine c_loop (γ := (Nat) × (Nat) × (AS)) (fun (i, nx, s) => i ≤ A + Q ∧ nx = min (A + Q) (A + i) ∧ s.q = hun nx (A + Q) ∧ s.a.length = min A (A + Q - i)) (fun (i, nx, s) => [(0, (.int .i64 ((A : Nat) : Int))), (1, (.int .i64 ((Q : Nat) : Int))), (2, (.slice bl ps.length cl)), (7, (.bool true)), (8, (.pointer (some ⟨p1, 0, none⟩))), (9, (.int .i64 ((A + Q : Nat) : Int))), (10, (.int .i64 ((k : Nat) : Int))), (14, (.int .i64 4)), (15, (.int .i64 ((nx : Nat) : Int))), (16, (.int .i64 ((i : Nat) : Int))), (34, (.bool false)), (40, (.bool false))]) (fun (i, nx, s) => (AdmO p1 ((A : Nat) : Int) ((Q : Nat) : Int) s) :: R) (fun (i, nx, s) => A + Q - i) (0, A, fillS A (A + Q)) ⟨by omega, by omega, rfl, by show (hun 0 (min (A + Q) A)).length = _; rw [hun_len]; omega⟩ ⟨rfl, rfl, rfl, rfl, rfl, rfl, rfl, rfl, rfl, rfl, rfl, rfl, trivial⟩ (fun _ h => h) ?_
    rintro ⟨i, nx, s⟩ K18 hF hK18
    try dsimp only at hF hK18 ⊢
    obtain ⟨hi, hnx, hsq, hsa⟩ := hF
    have hql : s.q.length = A + Q - nx := by rw [hsq, hun_len]
    refine c_seq (fun K19 hK19 => ?_)
    refine c_seq (fun K20 hK20 => ?_)
    refine c_region ?_
    refine tp rfl (lv_move rfl) ?_
    refine tp rfl (lv_move rfl) ?_
    by_cases h3 : ((i : Nat) : Int) < ((A + Q : Nat) : Int)
    · -- yes
      refine tp rfl (lv_lss rfl rfl (decide_eq_true h3)) ?_
      refine t_done ?_
      refine q_then_n (hK20 _ _ ?_)
      refine c_true rfl ?_
      refine c_skip ?_
      refine q_then_n (hK19 _ _ ?_)
      refine c_seq (fun K21 hK21 => ?_)
      refine c_block ?_
      refine c_seq (fun K22 hK22 => ?_)
      refine c_region ?_
      refine t_learn (fun _ h => aok_of h) (fun hok => ?_)
      have hokla := hok.la
      have hoklq := hok.lq
      refine tp rfl (lv_move rfl) ?_
      refine tc rfl (en_fn Try.call16 rfl) (actives_ok (A := ((A : Nat) : Int)) (Q := ((Q : Nat) : Int)) (s := s) (by omega)) ?_
      rintro _ _ ⟨bs4, cp5, hok6, hle7, rfl, rfl⟩
      refine tp rfl (lv_assign rfl) ?_
      refine t_done ?_
      refine q_then_n (hK22 _ _ ?_)
      refine c_seq (fun K23 hK23 => ?_)
      refine c_seq (fun K24 hK24 => ?_)
      refine c_region ?_
      refine tp rfl (lv_move rfl) ?_
      refine tp rfl (lv_len Try.underlying27 rfl rfl) ?_
      refine tp rfl (lv_move rfl) ?_
      refine tp rfl (lv_move rfl) ?_
      refine tp rfl (lv_move rfl) ?_
      refine tp rfl (lv_sub (c := ((A + Q : Nat) : Int) - ((i : Nat) : Int)) rfl rfl (wr_i64 (by omega) (by omega))) ?_
      refine tp rfl (lv_min (c := min ((A : Nat) : Int) (((A + Q : Nat) : Int) - ((i : Nat) : Int))) rfl rfl rfl) ?_
      refine tp rfl (lv_neq rfl rfl (bne_eq_false_iff_eq.2 (by omega))) ?_
      refine tp rfl (lv_move rfl) ?_
      refine t_guard rfl rfl ?_
      refine tp rfl (lv_move rfl) ?_
      refine t_guard rfl rfl ?_
      refine t_f1 ?_
      refine tc rfl (en_fn Try.call17 rfl) (waiting_ok (A := ((A : Nat) : Int)) (Q := ((Q : Nat) : Int)) (s := s) (by omega)) ?_
      rintro _ _ ⟨bs8, cp9, hok10, hle11, rfl, rfl⟩
      refine t_guard rfl rfl ?_
      refine tp rfl (lv_len Try.underlying27 rfl rfl) ?_
      refine t_guard rfl rfl ?_
      refine tp rfl (lv_move rfl) ?_
      refine t_guard rfl rfl ?_
      refine tp rfl (lv_move rfl) ?_
      refine t_guard rfl rfl ?_
      refine tp rfl (lv_sub (c := ((A + Q : Nat) : Int) - ((i : Nat) : Int)) rfl rfl (wr_i64 (by omega) (by omega))) ?_
      refine t_guard rfl rfl ?_
      refine tp rfl (lv_move rfl) ?_
      refine t_guard rfl rfl ?_
      refine tp rfl (lv_sub (c := (((A + Q : Nat) : Int) - ((i : Nat) : Int)) - ((A : Nat) : Int)) rfl rfl (wr_i64 (by omega) (by omega))) ?_
      refine t_guard rfl rfl ?_
      refine tp rfl (lv_max (c := max 0 ((((A + Q : Nat) : Int) - ((i : Nat) : Int)) - ((A : Nat) : Int))) rfl rfl rfl) ?_
      refine t_guard rfl rfl ?_
      refine tp rfl (lv_neq rfl rfl (bne_eq_false_iff_eq.2 (by omega))) ?_
      refine tp rfl (lv_pick_f rfl rfl) ?_
      refine t_done ?_
      refine q_then_n (hK24 _ _ ?_)
      refine c_false rfl ?_
      refine c_skip ?_
      refine q_then_n (hK23 _ _ ?_)
      refine c_seq (fun K25 hK25 => ?_)
      refine c_region ?_
      refine tp rfl (lv_assign rfl) ?_
      refine t_done ?_
      refine q_then_n (hK25 _ _ ?_)
      refine c_seq (fun K26 hK26 => ?_)
      refine c_seq (fun K27 hK27 => ?_)
      refine c_region ?_
      refine tp rfl (lv_move rfl) ?_
      refine tp rfl (lv_move rfl) ?_
      refine tp rfl (lv_len Try.underlying41 rfl rfl) ?_
      by_cases h12 : ((i : Nat) : Int) < ((ps.length : Nat) : Int)
      · -- yes
        refine tp rfl (lv_lss rfl rfl (decide_eq_true h12)) ?_
        refine t_done ?_
        refine q_then_n (hK27 _ _ ?_)
        refine c_true rfl ?_
        refine c_region ?_
        have hpk := hw (ps.getD i 0) (getD_mem (by omega))
        have hpk2 : 0 ≤ ps.getD i 0 ∧ ps.getD i 0 ≤ 255 := by simpa [Lit.wf, IntKind.min, IntKind.max, IntKind.signed, IntKind.bits] using hpk
        refine tp rfl (lv_move rfl) ?_
        refine tp rfl (lv_move rfl) ?_
        refine tp rfl (lv_indexAddr (k' := i) Try.underlying41 Try.sizeOf5 rfl rfl okl (by omega) (by omega) (by omega)) ?_
        refine tp rfl (lv_load Try.isAgg5 rfl (Rd.gives (Rd.cons (Rd.cons (Rd.cons hl))) (ints_get (by omega)))) ?_
        refine tp rfl (lv_convert (c := (ps).getD i 0) Try.underlying5 Try.underlying3 rfl (wr_i64 (by omega) (by omega))) ?_
        refine tp rfl (lv_move rfl) ?_
        refine tp rfl (lv_len Try.underlying27 rfl rfl) ?_
        refine tp rfl (lv_rem (c := (ps).getD i 0 % ((s.a.length : Nat) : Int)) rfl rfl (by omega) (Int.tmod_eq_emod_of_nonneg (by omega))) ?_
        refine tp rfl (lv_assign rfl) ?_
        refine t_done ?_
        refine q_then_n (hK26 _ _ ?_)
        refine c_seq (fun K28 hK28 => ?_)
        have hkk : ((ps).getD i 0 % ((s.a.length : Nat) : Int)).toNat < s.a.length := by have h1 := Int.emod_nonneg ((ps).getD i 0) (show ((s.a.length : Nat) : Int) ≠ 0 by omega); have h2 := Int.emod_lt_of_pos ((ps).getD i 0) (show (0 : Int) < ((s.a.length : Nat) : Int) by omega); omega
        obtain ⟨e1, e2, e3, e4⟩ := turn_end (A := ((A : Nat) : Int)) (Q := ((Q : Nat) : Int)) (k := ((ps).getD i 0 % ((s.a.length : Nat) : Int)).toNat) hok hsq hkk
        by_cases hlast : nx < A + Q
        · -- True
         rw [if_pos hlast] at e2 e4
         have hnq : (endS s ((s.a).getD (((ps).getD i 0 % ((s.a.length : Nat) : Int)).toNat) 0)).q = hun (nx + 1) (A + Q) := e3
         refine c_region ?_
         refine tp rfl (lv_move rfl) ?_
         refine tp rfl (lv_move rfl) ?_
         refine tp rfl (lv_move rfl) ?_
         refine tp rfl (lv_indexAddr (k' := ((ps).getD i 0 % ((s.a.length : Nat) : Int)).toNat) Try.underlying27 Try.sizeOf3 rfl rfl hok6 (by first | omega | exact Int.emod_nonneg _ (by omega)) (by omega) (by omega)) ?_
         refine tp rfl (lv_load Try.isAgg3 rfl (gives_sl (.tail _ (.tail _ (.head _))) (ints_get hkk))) ?_
         refine t_f1 ?_
         refine tc rfl (en_fn Try.call14 rfl) (aend_ok (A := ((A : Nat) : Int)) (Q := ((Q : Nat) : Int)) (s := s) ((s.a).getD (((ps).getD i 0 % ((s.a.length : Nat) : Int)).toNat) 0) (by omega)) ?_
         rintro _ _ ⟨rfl, rfl⟩
         rw [show endV s ((s.a).getD (((ps).getD i 0 % ((s.a.length : Nat) : Int)).toNat) 0) = 100 + ((nx : Nat) : Int) from e2]
         rw [show endEr s ((s.a).getD (((ps).getD i 0 % ((s.a.length : Nat) : Int)).toNat) 0) = 0 from e1]
         refine tp rfl (lv_move rfl) ?_
         refine tp rfl (lv_extract rfl rfl) ?_
         refine tp rfl (lv_extract rfl rfl) ?_
         refine tp rfl (lv_assign rfl) ?_
         refine tp rfl (lv_assign rfl) ?_
         refine t_done ?_
         refine q_then_n (hK28 _ _ ?_)
         refine c_seq (fun K29 hK29 => ?_)
         refine c_region ?_
         refine tp rfl (lv_assign rfl) ?_
         refine t_done ?_
         refine q_then_n (hK29 _ _ ?_)
         refine c_seq (fun K30 hK30 => ?_)
         refine c_seq (fun K31 hK31 => ?_)
         refine c_region ?_
         refine tp rfl (lv_move rfl) ?_
         refine tp rfl (lv_move rfl) ?_
         refine tp rfl (lv_lss rfl rfl (decide_eq_true (by omega))) ?_
         refine t_done ?_
         refine q_then_n (hK31 _ _ ?_)
         refine c_true rfl ?_
         refine c_seq (fun K32 hK32 => ?_)
         refine c_region ?_
         refine tp rfl (lv_move rfl) ?_
         refine tp rfl (lv_add (c := 100 + ((nx : Nat) : Int)) rfl rfl (wr_i64 (by omega) (by omega))) ?_
         refine tp rfl (lv_assign rfl) ?_
         refine t_done ?_
         refine q_then_n (hK32 _ _ ?_)
         refine c_region ?_
         refine tp rfl (lv_move rfl) ?_
         refine tp rfl (lv_add (c := ((nx + 1 : Nat) : Int)) rfl rfl (wr_i64_succ (by omega))) ?_
         refine tp rfl (lv_assign rfl) ?_
         refine t_done ?_
         refine q_then_n (hK30 _ _ ?_)
         refine c_seq (fun K33 hK33 => ?_)
         refine c_region ?_
         refine tp rfl (lv_move rfl) ?_
         refine tp rfl (lv_neq (r := false) rfl rfl (by decide)) ?_
         refine tp rfl (lv_move rfl) ?_
         refine t_guard rfl rfl ?_
         refine tp rfl (lv_move rfl) ?_
         refine t_guard rfl rfl ?_
         refine tp rfl (lv_move rfl) ?_
         refine t_guard rfl rfl ?_
         refine tp rfl (lv_neq rfl rfl (bne_eq_false_iff_eq.2 rfl)) ?_
         refine tp rfl (lv_pick_f rfl rfl) ?_
         refine t_done ?_
         refine q_then_n (hK33 _ _ ?_)
         refine c_false rfl ?_
         refine c_skip ?_
         refine q_in_n ?_
         refine q_then_n (hK21 _ _ ?_)
         refine c_region ?_
         refine tp rfl (lv_move rfl) ?_
         refine tp rfl (lv_add (c := ((i + 1 : Nat) : Int)) rfl rfl (wr_i64_succ (by omega))) ?_
         refine tp rfl (lv_assign rfl) ?_
         refine t_done ?_
         refine q_then_n ?_
         refine t_f1 ?_
         refine t_drop ?_
         refine t_f1 ?_
         refine t_drop ?_
         exact t_weak (by exact ⟨rfl, rfl, rfl, rfl, rfl, rfl, rfl, rfl, rfl, rfl, rfl, rfl, trivial⟩) ((hK18 (i + 1, nx + 1, endS s ((s.a).getD (((ps).getD i 0 % ((s.a.length : Nat) : Int)).toNat) 0)) ⟨by omega, by dsimp only; omega, hnq, by dsimp only; omega⟩ (by dsimp only; omega)))
        · -- False
         rw [if_neg hlast] at e2 e4
         have hnq : (endS s ((s.a).getD (((ps).getD i 0 % ((s.a.length : Nat) : Int)).toNat) 0)).q = hun nx (A + Q) := e3.trans (by rw [hun_nil (by omega), hun_nil (by omega)])
         refine c_region ?_
         refine tp rfl (lv_move rfl) ?_
         refine tp rfl (lv_move rfl) ?_
         refine tp rfl (lv_move rfl) ?_
         refine tp rfl (lv_indexAddr (k' := ((ps).getD i 0 % ((s.a.length : Nat) : Int)).toNat) Try.underlying27 Try.sizeOf3 rfl rfl hok6 (by first | omega | exact Int.emod_nonneg _ (by omega)) (by omega) (by omega)) ?_
         refine tp rfl (lv_load Try.isAgg3 rfl (gives_sl (.tail _ (.tail _ (.head _))) (ints_get hkk))) ?_
         refine t_f1 ?_
         refine tc rfl (en_fn Try.call14 rfl) (aend_ok (A := ((A : Nat) : Int)) (Q := ((Q : Nat) : Int)) (s := s) ((s.a).getD (((ps).getD i 0 % ((s.a.length : Nat) : Int)).toNat) 0) (by omega)) ?_
         rintro _ _ ⟨rfl, rfl⟩
         rw [show endV s ((s.a).getD (((ps).getD i 0 % ((s.a.length : Nat) : Int)).toNat) 0) = (-1) from e2]
         rw [show endEr s ((s.a).getD (((ps).getD i 0 % ((s.a.length : Nat) : Int)).toNat) 0) = 0 from e1]
         refine tp rfl (lv_move rfl) ?_
         refine tp rfl (lv_extract rfl rfl) ?_
         refine tp rfl (lv_extract rfl rfl) ?_
         refine tp rfl (lv_assign rfl) ?_
         refine tp rfl (lv_assign rfl) ?_
         refine t_done ?_
         refine q_then_n (hK28 _ _ ?_)
         refine c_seq (fun K29 hK29 => ?_)
         refine c_region ?_
         refine tp rfl (lv_assign rfl) ?_
         refine t_done ?_
         refine q_then_n (hK29 _ _ ?_)
         refine c_seq (fun K30 hK30 => ?_)
         refine c_seq (fun K31 hK31 => ?_)
         refine c_region ?_
         refine tp rfl (lv_move rfl) ?_
         refine tp rfl (lv_move rfl) ?_
         refine tp rfl (lv_lss rfl rfl (decide_eq_false (by omega))) ?_
         refine t_done ?_
         refine q_then_n (hK31 _ _ ?_)
         refine c_false rfl ?_
         refine c_skip ?_
         refine q_then_n (hK30 _ _ ?_)
         refine c_seq (fun K32 hK32 => ?_)
         refine c_region ?_
         refine tp rfl (lv_move rfl) ?_
         refine tp rfl (lv_neq (r := false) rfl rfl (by decide)) ?_
         refine tp rfl (lv_move rfl) ?_
         refine t_guard rfl rfl ?_
         refine tp rfl (lv_move rfl) ?_
         refine t_guard rfl rfl ?_
         refine tp rfl (lv_move rfl) ?_
         refine t_guard rfl rfl ?_
         refine tp rfl (lv_neq (r := false) rfl rfl (by decide)) ?_
         refine tp rfl (lv_pick_f rfl rfl) ?_
         refine t_done ?_
         refine q_then_n (hK32 _ _ ?_)
         refine c_false rfl ?_
         refine c_skip ?_
         refine q_in_n ?_
         refine q_then_n (hK21 _ _ ?_)
         refine c_region ?_
         refine tp rfl (lv_move rfl) ?_
         refine tp rfl (lv_add (c := ((i + 1 : Nat) : Int)) rfl rfl (wr_i64_succ (by omega))) ?_
         refine tp rfl (lv_assign rfl) ?_
         refine t_done ?_
         refine q_then_n ?_
         refine t_f1 ?_
         refine t_drop ?_
         refine t_f1 ?_
         refine t_drop ?_
         exact t_weak (by exact ⟨rfl, rfl, rfl, rfl, rfl, rfl, rfl, rfl, rfl, rfl, rfl, rfl, trivial⟩) ((hK18 (i + 1, nx, endS s ((s.a).getD (((ps).getD i 0 % ((s.a.length : Nat) : Int)).toNat) 0)) ⟨by omega, by dsimp only; omega, hnq, by dsimp only; omega⟩ (by dsimp only; omega)))
      · -- no
        refine tp rfl (lv_lss rfl rfl (decide_eq_false h12)) ?_
        refine t_done ?_
        refine q_then_n (hK27 _ _ ?_)
        refine c_false rfl ?_
        refine c_skip ?_
        refine q_then_n (hK26 _ _ ?_)
        refine c_seq (fun K28 hK28 => ?_)
        have hkk : 0 < s.a.length := by omega
        obtain ⟨e1, e2, e3, e4⟩ := turn_end (A := ((A : Nat) : Int)) (Q := ((Q : Nat) : Int)) (k := 0) hok hsq hkk
        by_cases hlast : nx < A + Q
        · -- True
         rw [if_pos hlast] at e2 e4
         have hnq : (endS s ((s.a).getD 0 0)).q = hun (nx + 1) (A + Q) := e3
         refine c_region ?_
         refine tp rfl (lv_move rfl) ?_
         refine tp rfl (lv_move rfl) ?_
         refine tp rfl (lv_move rfl) ?_
         refine tp rfl (lv_indexAddr (k' := 0) Try.underlying27 Try.sizeOf3 rfl rfl hok6 (by first | omega | exact Int.emod_nonneg _ (by omega)) (by omega) (by omega)) ?_
         refine tp rfl (lv_load Try.isAgg3 rfl (gives_sl (.tail _ (.tail _ (.head _))) (ints_get hkk))) ?_
         refine t_f1 ?_
         refine tc rfl (en_fn Try.call14 rfl) (aend_ok (A := ((A : Nat) : Int)) (Q := ((Q : Nat) : Int)) (s := s) ((s.a).getD 0 0) (by omega)) ?_
         rintro _ _ ⟨rfl, rfl⟩
         rw [show endV s ((s.a).getD 0 0) = 100 + ((nx : Nat) : Int) from e2]
         rw [show endEr s ((s.a).getD 0 0) = 0 from e1]
         refine tp rfl (lv_move rfl) ?_
         refine tp rfl (lv_extract rfl rfl) ?_
         refine tp rfl (lv_extract rfl rfl) ?_
         refine tp rfl (lv_assign rfl) ?_
         refine tp rfl (lv_assign rfl) ?_
         refine t_done ?_
         refine q_then_n (hK28 _ _ ?_)
         refine c_seq (fun K29 hK29 => ?_)
         refine c_region ?_
         refine tp rfl (lv_assign rfl) ?_
         refine t_done ?_
         refine q_then_n (hK29 _ _ ?_)
         refine c_seq (fun K30 hK30 => ?_)
         refine c_seq (fun K31 hK31 => ?_)
         refine c_region ?_
         refine tp rfl (lv_move rfl) ?_
         refine tp rfl (lv_move rfl) ?_
         refine tp rfl (lv_lss rfl rfl (decide_eq_true (by omega))) ?_
         refine t_done ?_
         refine q_then_n (hK31 _ _ ?_)
         refine c_true rfl ?_
         refine c_seq (fun K32 hK32 => ?_)
         refine c_region ?_
         refine tp rfl (lv_move rfl) ?_
         refine tp rfl (lv_add (c := 100 + ((nx : Nat) : Int)) rfl rfl (wr_i64 (by omega) (by omega))) ?_
         refine tp rfl (lv_assign rfl) ?_
         refine t_done ?_
         refine q_then_n (hK32 _ _ ?_)
         refine c_region ?_
         refine tp rfl (lv_move rfl) ?_
         refine tp rfl (lv_add (c := ((nx + 1 : Nat) : Int)) rfl rfl (wr_i64_succ (by omega))) ?_
         refine tp rfl (lv_assign rfl) ?_
         refine t_done ?_
         refine q_then_n (hK30 _ _ ?_)
         refine c_seq (fun K33 hK33 => ?_)
         refine c_region ?_
         refine tp rfl (lv_move rfl) ?_
         refine tp rfl (lv_neq (r := false) rfl rfl (by decide)) ?_
         refine tp rfl (lv_move rfl) ?_
         refine t_guard rfl rfl ?_
         refine tp rfl (lv_move rfl) ?_
         refine t_guard rfl rfl ?_
         refine tp rfl (lv_move rfl) ?_
         refine t_guard rfl rfl ?_
         refine tp rfl (lv_neq rfl rfl (bne_eq_false_iff_eq.2 rfl)) ?_
         refine tp rfl (lv_pick_f rfl rfl) ?_
         refine t_done ?_
         refine q_then_n (hK33 _ _ ?_)
         refine c_false rfl ?_
         refine c_skip ?_
         refine q_in_n ?_
         refine q_then_n (hK21 _ _ ?_)
         refine c_region ?_
         refine tp rfl (lv_move rfl) ?_
         refine tp rfl (lv_add (c := ((i + 1 : Nat) : Int)) rfl rfl (wr_i64_succ (by omega))) ?_
         refine tp rfl (lv_assign rfl) ?_
         refine t_done ?_
         refine q_then_n ?_
         refine t_f1 ?_
         refine t_drop ?_
         refine t_f1 ?_
         refine t_drop ?_
         exact t_weak (by exact ⟨rfl, rfl, rfl, rfl, rfl, rfl, rfl, rfl, rfl, rfl, rfl, rfl, trivial⟩) ((hK18 (i + 1, nx + 1, endS s ((s.a).getD 0 0)) ⟨by omega, by dsimp only; omega, hnq, by dsimp only; omega⟩ (by dsimp only; omega)))
        · -- False
         rw [if_neg hlast] at e2 e4
         have hnq : (endS s ((s.a).getD 0 0)).q = hun nx (A + Q) := e3.trans (by rw [hun_nil (by omega), hun_nil (by omega)])
         refine c_region ?_
         refine tp rfl (lv_move rfl) ?_
         refine tp rfl (lv_move rfl) ?_
         refine tp rfl (lv_move rfl) ?_
         refine tp rfl (lv_indexAddr (k' := 0) Try.underlying27 Try.sizeOf3 rfl rfl hok6 (by first | omega | exact Int.emod_nonneg _ (by omega)) (by omega) (by omega)) ?_
         refine tp rfl (lv_load Try.isAgg3 rfl (gives_sl (.tail _ (.tail _ (.head _))) (ints_get hkk))) ?_
         refine t_f1 ?_
         refine tc rfl (en_fn Try.call14 rfl) (aend_ok (A := ((A : Nat) : Int)) (Q := ((Q : Nat) : Int)) (s := s) ((s.a).getD 0 0) (by omega)) ?_
         rintro _ _ ⟨rfl, rfl⟩
         rw [show endV s ((s.a).getD 0 0) = (-1) from e2]
         rw [show endEr s ((s.a).getD 0 0) = 0 from e1]
         refine tp rfl (lv_move rfl) ?_
         refine tp rfl (lv_extract rfl rfl) ?_
         refine tp rfl (lv_extract rfl rfl) ?_
         refine tp rfl (lv_assign rfl) ?_
         refine tp rfl (lv_assign rfl) ?_
         refine t_done ?_
         refine q_then_n (hK28 _ _ ?_)
         refine c_seq (fun K29 hK29 => ?_)
         refine c_region ?_
         refine tp rfl (lv_assign rfl) ?_
         refine t_done ?_
         refine q_then_n (hK29 _ _ ?_)
         refine c_seq (fun K30 hK30 => ?_)
         refine c_seq (fun K31 hK31 => ?_)
         refine c_region ?_
         refine tp rfl (lv_move rfl) ?_
         refine tp rfl (lv_move rfl) ?_
         refine tp rfl (lv_lss rfl rfl (decide_eq_false (by omega))) ?_
         refine t_done ?_
         refine q_then_n (hK31 _ _ ?_)
         refine c_false rfl ?_
         refine c_skip ?_
         refine q_then_n (hK30 _ _ ?_)
         refine c_seq (fun K32 hK32 => ?_)
         refine c_region ?_
         refine tp rfl (lv_move rfl) ?_
         refine tp rfl (lv_neq (r := false) rfl rfl (by decide)) ?_
         refine tp rfl (lv_move rfl) ?_
         refine t_guard rfl rfl ?_
         refine tp rfl (lv_move rfl) ?_
         refine t_guard rfl rfl ?_
         refine tp rfl (lv_move rfl) ?_
         refine t_guard rfl rfl ?_
         refine tp rfl (lv_neq (r := false) rfl rfl (by decide)) ?_
         refine tp rfl (lv_pick_f rfl rfl) ?_
         refine t_done ?_
         refine q_then_n (hK32 _ _ ?_)
         refine c_false rfl ?_
         refine c_skip ?_
         refine q_in_n ?_
         refine q_then_n (hK21 _ _ ?_)
         refine c_region ?_
         refine tp rfl (lv_move rfl) ?_
         refine tp rfl (lv_add (c := ((i + 1 : Nat) : Int)) rfl rfl (wr_i64_succ (by omega))) ?_
         refine tp rfl (lv_assign rfl) ?_
         refine t_done ?_
         refine q_then_n ?_
         refine t_f1 ?_
         refine t_drop ?_
         refine t_f1 ?_
         refine t_drop ?_
         exact t_weak (by exact ⟨rfl, rfl, rfl, rfl, rfl, rfl, rfl, rfl, rfl, rfl, rfl, rfl, trivial⟩) ((hK18 (i + 1, nx, endS s ((s.a).getD 0 0)) ⟨by omega, by dsimp only; omega, hnq, by dsimp only; omega⟩ (by dsimp only; omega)))
    · -- no
      refine tp rfl (lv_lss rfl rfl (decide_eq_false h3)) ?_
      refine t_done ?_
      refine q_then_n (hK20 _ _ ?_)
      refine c_false rfl ?_
      refine c_exit ?_
      refine q_then_x ?_
      refine q_then_x ?_
      refine q_in_x ?_
      refine q_then_n (hK16 _ _ ?_)
      refine c_seq (fun K21 hK21 => ?_)
      refine c_region ?_
      refine tp rfl (lv_move rfl) ?_
      refine tp rfl (lv_move rfl) ?_
      refine t_guard rfl rfl ?_
      refine tp rfl (lv_move rfl) ?_
      refine t_guard rfl rfl ?_
      refine tp rfl (lv_eql (r := true) rfl rfl (by decide)) ?_
      refine tp rfl (lv_pick_t rfl rfl) ?_
      refine tp rfl (lv_move rfl) ?_
      refine t_guard rfl rfl ?_
      refine tp rfl (lv_move rfl) ?_
      refine t_guard rfl rfl ?_
      refine tc rfl (en_fn Try.call16 rfl) (actives_ok (A := ((A : Nat) : Int)) (Q := ((Q : Nat) : Int)) (s := s) (by omega)) ?_
      rintro _ _ ⟨bs13, cp14, hok15, hle16, rfl, rfl⟩
      refine t_guard rfl rfl ?_
      refine tp rfl (lv_len Try.underlying27 rfl rfl) ?_
      refine t_guard rfl rfl ?_
      refine tp rfl (lv_eql rfl rfl (beq_iff_eq.2 (by omega))) ?_
      refine tp rfl (lv_pick_t rfl rfl) ?_
      refine tp rfl (lv_move rfl) ?_
      refine t_guard rfl rfl ?_
      refine tp rfl (lv_move rfl) ?_
      refine t_guard rfl rfl ?_
      refine t_f1 ?_
      refine tc rfl (en_fn Try.call17 rfl) (waiting_ok (A := ((A : Nat) : Int)) (Q := ((Q : Nat) : Int)) (s := s) (by omega)) ?_
      rintro _ _ ⟨bs17, cp18, hok19, hle20, rfl, rfl⟩
      refine t_guard rfl rfl ?_
      refine tp rfl (lv_len Try.underlying27 rfl rfl) ?_
      refine t_guard rfl rfl ?_
      refine tp rfl (lv_eql rfl rfl (beq_iff_eq.2 (by omega))) ?_
      refine tp rfl (lv_pick_t rfl rfl) ?_
      refine tp rfl (lv_assign rfl) ?_
      refine t_done ?_
      refine q_then_n (hK21 _ _ ?_)
      refine c_ret ?_
      refine t_drop ?_
      refine t_drop ?_
      refine t_drop ?_
      refine q_ret rfl rfl ?_
      exact ⟨rfl, rfl⟩
end Go.Proofs.Ythhmdcbhgnoemaa
