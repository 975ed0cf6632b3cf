/- AdmitBounds: the law's walk. -/
import Derived.Test.YthhmdcbhgnoemaaLa
import Derived.Test.YthhmdcbhgnoemaaAdl
set_option maxRecDepth 100000
set_option linter.unusedVariables false
set_option linter.unusedSimpArgs false
namespace Go.Proofs.Ythhmdcbhgnoemaa
open Go Go.Proofs Sp
set_option maxHeartbeats 4000000 in
theorem bounds_ok {R : List HP} {bl : Option Addr} {cl : Nat} (A Q : Int) (es : List (Int × Int)) (hl : Rd R bl (pairs es)) (okl : SlOk bl es.length) (ll : es.length ≤ 9223372036854775807) :
    Ok Try.prog 5 [(.int .i64 A), (.int .i64 Q), (.slice bl es.length cl)] R
      (fun v M => v = .bool true ∧ M = R) := by
  refine ok_of (N := 173) Try.func5 rfl rfl rfl (fun W => ?_)
  refine c_seq (fun K1 hK1 => ?_)
  refine c_region ?_
  refine tp rfl (lv_assign rfl) ?_
  refine t_done ?_
  refine q_then_n (hK1 _ _ ?_)
  refine c_seq (fun K2 hK2 => ?_)
  refine c_region ?_
  refine tc rfl (en_fn Try.call10 rfl) (shown_ok) ?_
  rintro _ _ ⟨rfl, hMR⟩
  rw [hMR]; clear hMR
  refine tp rfl (lv_assign rfl) ?_
  refine t_done ?_
  refine q_then_n (hK2 _ _ ?_)
  refine c_seq (fun K3 hK3 => ?_)
  refine c_region ?_
  refine tp rfl (lv_move rfl) ?_
  refine tp rfl (lv_move rfl) ?_
  refine tc rfl (en_fn Try.call11 rfl) (anew_ok A Q) ?_
  rintro _ _ ⟨p1, rfl, rfl⟩
  refine tp rfl (lv_assign rfl) ?_
  refine t_done ?_
  refine q_then_n (hK3 _ _ ?_)
  refine c_seq (fun K4 hK4 => ?_)
  refine c_seq (fun K5 hK5 => ?_)
  refine c_region ?_
  refine tp rfl (lv_move rfl) ?_
  refine tp rfl (lv_eqnil Try.underlying24 rfl rfl) ?_
  refine t_done ?_
  refine q_then_n (hK5 _ _ ?_)
  refine c_false rfl ?_
  refine c_skip ?_
  refine q_then_n (hK4 _ _ ?_)
  refine c_seq (fun K6 hK6 => ?_)
  refine c_seq (fun K7 hK7 => ?_)
  refine c_region ?_
  refine tp rfl (lv_assign rfl) ?_
  refine t_done ?_
  refine q_then_n (hK7 _ _ ?_)
  refine c_block ?_
  refine c_loop (γ := (Nat) × (AS)) (fun (i, s) => i ≤ es.length ∧ i ≤ 200 ∧ s.a.length + s.q.length ≤ i) (fun (i, s) => [(0, (.int .i64 A)), (1, (.int .i64 Q)), (2, (.slice bl es.length cl)), (7, (.bool true)), (8, (.pointer (some ⟨p1, 0, none⟩))), (9, (.int .i64 ((i : Nat) : Int))), (30, (.bool false))]) (fun (i, s) => (AdmO p1 (max A 1) (max Q 0) s) :: R) (fun (i, s) => es.length - i) (0, ⟨[], []⟩) ⟨by omega, by omega, by decide⟩ ⟨rfl, rfl, rfl, rfl, rfl, rfl, rfl, trivial⟩ (fun _ h => h) ?_
  rintro ⟨i, s⟩ K8 hF hK8
  try dsimp only at hF hK8 ⊢
  obtain ⟨hi, hi2, hsl⟩ := hF
  refine c_seq (fun K9 hK9 => ?_)
  refine c_seq (fun K10 hK10 => ?_)
  refine c_region ?_
  by_cases hc2 : ((i : Nat) : Int) < ((es.length : Nat) : Int) ∧ ((i : Nat) : Int) < 200
  · -- both
    have hc2a := hc2.1
    have hc2b := hc2.2
    refine tp rfl (lv_move rfl) ?_
    refine tp rfl (lv_move rfl) ?_
    refine tp rfl (lv_len Try.underlying22 rfl rfl) ?_
    refine tp rfl (lv_lss rfl rfl (decide_eq_true hc2.1)) ?_
    refine tp rfl (lv_move rfl) ?_
    refine t_guard rfl rfl ?_
    refine tp rfl (lv_move rfl) ?_
    refine t_guard rfl rfl ?_
    refine tp rfl (lv_lss rfl rfl (decide_eq_true hc2.2)) ?_
    refine tp rfl (lv_pick_t rfl rfl) ?_
    refine t_done ?_
    refine q_then_n (hK10 _ _ ?_)
    refine c_true rfl ?_
    refine c_skip ?_
    refine q_then_n (hK9 _ _ ?_)
    refine c_seq (fun K11 hK11 => ?_)
    refine c_block ?_
    refine c_seq (fun K12 hK12 => ?_)
    refine c_region ?_
    refine t_learn (fun _ h => aok_of h) (fun hok => ?_)
    have hokla := hok.la
    have hoklq := hok.lq
    refine tp rfl (lv_move rfl) ?_
    refine tp rfl (lv_move rfl) ?_
    refine tp rfl (lv_move rfl) ?_
    refine tp rfl (lv_indexAddr (k' := i * 2) Try.underlying22 Try.sizeOf31 rfl rfl okl (by omega) (by omega) (by omega)) ?_
    refine tp rfl (lv_fieldAddr_ad (o' := i * 2 + 1) Try.underlying31 rfl Try.sizeOf3 rfl rfl) ?_
    refine tp rfl (lv_load Try.isAgg3 rfl (Rd.gives (Rd.cons hl) (pairs_get1 (by omega)))) ?_
    refine tc rfl (en_fn Try.call18 rfl) (state_ok (A := max A 1) (Q := max Q 0) (s := s) (((es).getD i (0, 0)).2) (by omega)) ?_
    rintro _ _ ⟨rfl, rfl⟩
    refine tp rfl (lv_move rfl) ?_
    refine tp rfl (lv_extract rfl rfl) ?_
    refine tp rfl (lv_extract rfl rfl) ?_
    refine tp rfl (lv_assign rfl) ?_
    refine tp rfl (lv_assign rfl) ?_
    refine t_done ?_
    refine q_then_n (hK12 _ _ ?_)
    refine c_seq (fun K13 hK13 => ?_)
    refine c_seq (fun K14 hK14 => ?_)
    refine c_region ?_
    refine tp rfl (lv_move rfl) ?_
    refine tp rfl (lv_move rfl) ?_
    refine tp rfl (lv_indexAddr (k' := i * 2) Try.underlying22 Try.sizeOf31 rfl rfl okl (by omega) (by omega) (by omega)) ?_
    refine tp rfl (lv_fieldAddr_ad (o' := i * 2) Try.underlying31 rfl Try.sizeOf3 rfl rfl) ?_
    refine tp rfl (lv_load Try.isAgg3 rfl (Rd.gives (Rd.cons hl) (pairs_get0 (by omega)))) ?_
    by_cases h3 : (((es).getD i (0, 0)).1) = 3
    · -- yes
      refine tp rfl (lv_eql rfl rfl (beq_iff_eq.2 h3)) ?_
      refine t_done ?_
      refine q_then_n (hK14 _ _ ?_)
      refine c_true rfl ?_
      refine c_seq (fun K15 hK15 => ?_)
      refine c_region ?_
      refine tp rfl (lv_move rfl) ?_
      refine tp rfl (lv_move rfl) ?_
      refine tp rfl (lv_move rfl) ?_
      refine tp rfl (lv_indexAddr (k' := i * 2) Try.underlying22 Try.sizeOf31 rfl rfl okl (by omega) (by omega) (by omega)) ?_
      refine tp rfl (lv_fieldAddr_ad (o' := i * 2 + 1) Try.underlying31 rfl Try.sizeOf3 rfl rfl) ?_
      refine tp rfl (lv_load Try.isAgg3 rfl (Rd.gives (Rd.cons hl) (pairs_get1 (by omega)))) ?_
      refine tc rfl (en_fn Try.call14 rfl) (aend_ok (A := max A 1) (Q := max Q 0) (s := s) (((es).getD i (0, 0)).2) (by omega)) ?_
      rintro _ _ ⟨rfl, rfl⟩
      refine tp rfl (lv_move rfl) ?_
      refine tp rfl (lv_extract rfl rfl) ?_
      refine tp rfl (lv_extract rfl rfl) ?_
      refine tp rfl (lv_assign rfl) ?_
      refine tp rfl (lv_assign rfl) ?_
      refine t_done ?_
      refine q_then_n (hK15 _ _ ?_)
      refine c_seq (fun K16 hK16 => ?_)
      refine c_region ?_
      refine tp rfl (lv_move rfl) ?_
      refine tp rfl (lv_move rfl) ?_
      refine tp rfl (lv_move rfl) ?_
      refine tp rfl (lv_indexAddr (k' := i * 2) Try.underlying22 Try.sizeOf31 rfl rfl okl (by omega) (by omega) (by omega)) ?_
      refine tp rfl (lv_fieldAddr_ad (o' := i * 2 + 1) Try.underlying31 rfl Try.sizeOf3 rfl rfl) ?_
      refine tp rfl (lv_load Try.isAgg3 rfl (Rd.gives (Rd.cons hl) (pairs_get1 (by omega)))) ?_
      refine tc rfl (en_fn Try.call18 rfl) (state_ok (A := max A 1) (Q := max Q 0) (s := endS s (((es).getD i (0, 0)).2)) (((es).getD i (0, 0)).2) (by have := endS_len s (((es).getD i (0, 0)).2); omega)) ?_
      rintro _ _ ⟨rfl, rfl⟩
      rw [show there (endS s (((es).getD i (0, 0)).2)) (((es).getD i (0, 0)).2) = false from (there_end hok _)]
      refine tp rfl (lv_move rfl) ?_
      refine tp rfl (lv_extract rfl rfl) ?_
      refine tp rfl (lv_extract rfl rfl) ?_
      refine tp rfl (lv_assign rfl) ?_
      refine tp rfl (lv_assign rfl) ?_
      refine t_done ?_
      refine q_then_n (hK16 _ _ ?_)
      refine c_seq (fun K17 hK17 => ?_)
      refine c_region ?_
      refine tp rfl (lv_move rfl) ?_
      refine tp rfl (lv_eql rfl rfl rfl) ?_
      refine tp rfl (lv_move rfl) ?_
      refine tp rfl (lv_neb Try.underlying4 rfl rfl (endEr_ok _ _)) ?_
      refine tp rfl (lv_move rfl) ?_
      refine t_guard rfl rfl ?_
      refine tp rfl (lv_move rfl) ?_
      refine tp rfl (lv_pick_f rfl rfl) ?_
      refine t_done ?_
      refine q_then_n (hK17 _ _ ?_)
      refine c_false rfl ?_
      refine c_skip ?_
      refine q_then_n (hK13 _ _ ?_)
      refine c_seq (fun K18 hK18 => ?_)
      refine c_region ?_
      refine t_learn (fun _ h => aok_of h) (fun hok2 => ?_)
      have hok2la := hok2.la
      have hok2lq := hok2.lq
      have hgr := endS_len s (((es).getD i (0, 0)).2)
      refine tp rfl (lv_move rfl) ?_
      refine tc rfl (en_fn Try.call16 rfl) (actives_ok (A := max A 1) (Q := max Q 0) (s := endS s (((es).getD i (0, 0)).2)) (by omega)) ?_
      rintro _ _ ⟨bs4, cp5, hok6, hle7, rfl, rfl⟩
      refine tp rfl (lv_assign rfl) ?_
      refine t_done ?_
      refine q_then_n (hK18 _ _ ?_)
      refine c_seq (fun K19 hK19 => ?_)
      refine c_region ?_
      refine tp rfl (lv_move rfl) ?_
      refine t_f1 ?_
      refine tc rfl (en_fn Try.call17 rfl) (waiting_ok (A := max A 1) (Q := max Q 0) (s := endS s (((es).getD i (0, 0)).2)) (by omega)) ?_
      rintro _ _ ⟨bs8, cp9, hok10, hle11, rfl, rfl⟩
      refine tp rfl (lv_assign rfl) ?_
      refine t_done ?_
      refine q_then_n (hK19 _ _ ?_)
      refine c_seq (fun K20 hK20 => ?_)
      refine c_seq (fun K21 hK21 => ?_)
      refine c_region ?_
      refine tp rfl (lv_move rfl) ?_
      refine tp rfl (lv_len Try.underlying27 rfl rfl) ?_
      refine tp rfl (lv_move rfl) ?_
      refine tp rfl (lv_max (c := max A 1) rfl rfl rfl) ?_
      refine tp rfl (lv_gtr rfl rfl (decide_eq_false (by omega))) ?_
      refine tp rfl (lv_move rfl) ?_
      refine t_guard rfl rfl ?_
      refine tp rfl (lv_move rfl) ?_
      refine t_guard rfl rfl ?_
      refine tp rfl (lv_len Try.underlying27 rfl rfl) ?_
      refine t_guard rfl rfl ?_
      refine tp rfl (lv_move rfl) ?_
      refine t_guard rfl rfl ?_
      refine tp rfl (lv_max (c := max Q 0) rfl rfl rfl) ?_
      refine t_guard rfl rfl ?_
      refine tp rfl (lv_gtr rfl rfl (decide_eq_false (by omega))) ?_
      refine tp rfl (lv_pick_f rfl rfl) ?_
      refine tp rfl (lv_move rfl) ?_
      refine t_guard rfl rfl ?_
      refine tp rfl (lv_move rfl) ?_
      refine t_guard rfl rfl ?_
      refine tp rfl (lv_len Try.underlying27 rfl rfl) ?_
      refine t_guard rfl rfl ?_
      by_cases h12 : ((((endS s (((es).getD i (0, 0)).2)).q).length : Nat) : Int) > 0
      · -- yes
        refine tp rfl (lv_gtr rfl rfl (decide_eq_true h12)) ?_
        refine t_guard rfl rfl ?_
        refine tp rfl (lv_move rfl) ?_
        refine t_guard rfl rfl ?_
        refine tp rfl (lv_move rfl) ?_
        refine t_guard rfl rfl ?_
        refine tp rfl (lv_len Try.underlying27 rfl rfl) ?_
        refine t_guard rfl rfl ?_
        refine tp rfl (lv_move rfl) ?_
        refine t_guard rfl rfl ?_
        refine tp rfl (lv_max (c := max A 1) rfl rfl rfl) ?_
        refine t_guard rfl rfl ?_
        refine tp rfl (lv_neq rfl rfl (bne_eq_false_iff_eq.2 (hok2.full' (by omega)))) ?_
        refine t_guard rfl rfl ?_
        refine tp rfl (lv_pick_t rfl rfl) ?_
        refine tp rfl (lv_pick_f rfl rfl) ?_
        refine t_done ?_
        refine q_then_n (hK21 _ _ ?_)
        refine c_false rfl ?_
        refine c_skip ?_
        refine q_then_n (hK20 _ _ ?_)
        refine c_seq (fun K22 hK22 => ?_)
        refine c_region ?_
        refine tm rfl (mv_buildSlice (cs := []) Try.underlying27 Try.sizeOf3 Try.zeroValue3 (by decide) rfl rfl rfl rfl) ?_
        rintro _ _ ⟨bs13, cp14, hok15, hle16, rfl, rfl⟩
        refine tp rfl (lv_move rfl) ?_
        refine tm rfl (mv_append (i := Try.t3) Try.underlying27 Try.type3 rfl rfl rfl (by decide) rfl rfl hok6 (by simp) (rd_sl (.tail _ (.tail _ (.tail _ (.head _))))) ints_one (by rw [show Try.t3.bytes = 8 from rfl]; omega)) ?_
        rintro _ _ ⟨bs17, cp18, hok19, hle20, rfl, rfl⟩
        simp only [Nat.zero_add] at hok19 hle20 ⊢
        rw [List.nil_append]
        refine tp rfl (lv_move rfl) ?_
        refine tm rfl (mv_append (i := Try.t3) Try.underlying27 Try.type3 rfl rfl rfl (by decide) rfl rfl hok10 (by simp) (rd_sl (.tail _ (.head _))) ints_one (by rw [show Try.t3.bytes = 8 from rfl]; omega)) ?_
        rintro _ _ ⟨bs21, cp22, hok23, hle24, rfl, rfl⟩
        rw [← ints_append]
        refine tp rfl (lv_assign rfl) ?_
        refine t_done ?_
        refine q_then_n (hK22 _ _ ?_)
        refine c_seq (fun K23 hK23 => ?_)
        refine c_region ?_
        refine tp rfl (lv_assign rfl) ?_
        refine t_done ?_
        refine q_then_n (hK23 _ _ ?_)
        refine c_block ?_
        refine c_loop (γ := (Nat)) (fun (k : Nat) => k ≤ (((endS s (((es).getD i (0, 0)).2)).a).length) + (((endS s (((es).getD i (0, 0)).2)).q).length)) (fun (k : Nat) => [(0, (.int .i64 A)), (1, (.int .i64 Q)), (2, (.slice bl es.length cl)), (7, (.bool true)), (8, (.pointer (some ⟨p1, 0, none⟩))), (9, (.int .i64 ((i : Nat) : Int))), (11, (.bool (there s (((es).getD i (0, 0)).2)))), (13, (.int .i64 (endEr s (((es).getD i (0, 0)).2)))), (15, (.bool false)), (20, (.slice bs4 (((endS s (((es).getD i (0, 0)).2)).a).length) cp5)), (21, (.slice bs8 (((endS s (((es).getD i (0, 0)).2)).q).length) cp9)), (22, (.slice bs21 ((((endS s (((es).getD i (0, 0)).2)).a).length) + (((endS s (((es).getD i (0, 0)).2)).q).length)) cp22)), (23, (.int .i64 ((k : Nat) : Int))), (30, (.bool false)), (38, (.bool true)), (56, (.bool true)), (83, (.bool false)), (146, (.bool false))]) (fun (k : Nat) => (SlV 3 1 (.slice bs21 ((((endS s (((es).getD i (0, 0)).2)).a).length) + (((endS s (((es).getD i (0, 0)).2)).q).length)) cp22) ((((endS s (((es).getD i (0, 0)).2)).a).length) + (((endS s (((es).getD i (0, 0)).2)).q).length)) (ints .i64 (((endS s (((es).getD i (0, 0)).2)).a) ++ ((endS s (((es).getD i (0, 0)).2)).q)))) :: (SlV 3 1 (.slice bs8 (((endS s (((es).getD i (0, 0)).2)).q).length) cp9) (((endS s (((es).getD i (0, 0)).2)).q).length) (ints .i64 ((endS s (((es).getD i (0, 0)).2)).q))) :: (AdmO p1 (max A 1) (max Q 0) (endS s (((es).getD i (0, 0)).2))) :: (SlV 3 1 (.slice bs4 (((endS s (((es).getD i (0, 0)).2)).a).length) cp5) (((endS s (((es).getD i (0, 0)).2)).a).length) (ints .i64 ((endS s (((es).getD i (0, 0)).2)).a))) :: R) (fun (k : Nat) => (((endS s (((es).getD i (0, 0)).2)).a).length) + (((endS s (((es).getD i (0, 0)).2)).q).length) - k) (0) (by omega) ⟨rfl, rfl, rfl, rfl, rfl, rfl, rfl, rfl, rfl, rfl, rfl, rfl, rfl, rfl, rfl, rfl, rfl, rfl, trivial⟩ (fun _ h => h) ?_
        rintro k K24 hF hK24
        try dsimp only at hF hK24 ⊢
        refine c_seq (fun K25 hK25 => ?_)
        refine c_seq (fun K26 hK26 => ?_)
        refine c_region ?_
        refine tp rfl (lv_move rfl) ?_
        refine tp rfl (lv_move rfl) ?_
        refine tp rfl (lv_len Try.underlying27 rfl rfl) ?_
        by_cases h25 : ((k : Nat) : Int) < (((((endS s (((es).getD i (0, 0)).2)).a).length) + (((endS s (((es).getD i (0, 0)).2)).q).length) : Nat) : Int)
        · -- yes
         refine tp rfl (lv_lss rfl rfl (decide_eq_true h25)) ?_
         refine t_done ?_
         refine q_then_n (hK26 _ _ ?_)
         refine c_true rfl ?_
         refine c_skip ?_
         refine q_then_n (hK25 _ _ ?_)
         refine c_seq (fun K27 hK27 => ?_)
         refine c_block ?_
         refine c_seq (fun K28 hK28 => ?_)
         refine c_region ?_
         refine tp rfl (lv_assign rfl) ?_
         refine t_done ?_
         refine q_then_n (hK28 _ _ ?_)
         refine c_block ?_
         refine c_loop (γ := (Nat)) (fun (m : Nat) => m ≤ k) (fun (m : Nat) => [(0, (.int .i64 A)), (1, (.int .i64 Q)), (2, (.slice bl es.length cl)), (7, (.bool true)), (8, (.pointer (some ⟨p1, 0, none⟩))), (9, (.int .i64 ((i : Nat) : Int))), (11, (.bool (there s (((es).getD i (0, 0)).2)))), (13, (.int .i64 (endEr s (((es).getD i (0, 0)).2)))), (15, (.bool false)), (20, (.slice bs4 (((endS s (((es).getD i (0, 0)).2)).a).length) cp5)), (21, (.slice bs8 (((endS s (((es).getD i (0, 0)).2)).q).length) cp9)), (22, (.slice bs21 ((((endS s (((es).getD i (0, 0)).2)).a).length) + (((endS s (((es).getD i (0, 0)).2)).q).length)) cp22)), (23, (.int .i64 ((k : Nat) : Int))), (24, (.int .i64 ((m : Nat) : Int))), (30, (.bool false)), (38, (.bool true)), (56, (.bool true)), (83, (.bool false)), (146, (.bool false)), (155, (.bool true))]) (fun (m : Nat) => (SlV 3 1 (.slice bs21 ((((endS s (((es).getD i (0, 0)).2)).a).length) + (((endS s (((es).getD i (0, 0)).2)).q).length)) cp22) ((((endS s (((es).getD i (0, 0)).2)).a).length) + (((endS s (((es).getD i (0, 0)).2)).q).length)) (ints .i64 (((endS s (((es).getD i (0, 0)).2)).a) ++ ((endS s (((es).getD i (0, 0)).2)).q)))) :: (SlV 3 1 (.slice bs8 (((endS s (((es).getD i (0, 0)).2)).q).length) cp9) (((endS s (((es).getD i (0, 0)).2)).q).length) (ints .i64 ((endS s (((es).getD i (0, 0)).2)).q))) :: (AdmO p1 (max A 1) (max Q 0) (endS s (((es).getD i (0, 0)).2))) :: (SlV 3 1 (.slice bs4 (((endS s (((es).getD i (0, 0)).2)).a).length) cp5) (((endS s (((es).getD i (0, 0)).2)).a).length) (ints .i64 ((endS s (((es).getD i (0, 0)).2)).a))) :: R) (fun (m : Nat) => k - m) (0) (by omega) ⟨rfl, rfl, rfl, rfl, rfl, rfl, rfl, rfl, rfl, rfl, rfl, rfl, rfl, rfl, rfl, rfl, rfl, rfl, rfl, rfl, trivial⟩ (fun _ h => h) ?_
         rintro m K29 hF hK29
         try dsimp only at hF hK29 ⊢
         refine c_seq (fun K30 hK30 => ?_)
         refine c_seq (fun K31 hK31 => ?_)
         refine c_region ?_
         refine tp rfl (lv_move rfl) ?_
         refine tp rfl (lv_move rfl) ?_
         by_cases h26 : ((m : Nat) : Int) < ((k : Nat) : Int)
         · -- yes
          refine tp rfl (lv_lss rfl rfl (decide_eq_true h26)) ?_
          refine t_done ?_
          refine q_then_n (hK31 _ _ ?_)
          refine c_true rfl ?_
          refine c_skip ?_
          refine q_then_n (hK30 _ _ ?_)
          refine c_seq (fun K32 hK32 => ?_)
          refine c_block ?_
          refine c_seq (fun K33 hK33 => ?_)
          refine c_draw (γ := Unit) (n := 9) Try.mixed rfl rfl (fun _ S => True) (fun _ => [(0, 163, (.slice bs21 ((((endS s (((es).getD i (0, 0)).2)).a).length) + (((endS s (((es).getD i (0, 0)).2)).q).length)) cp22)), (1, 164, (.int .i64 ((k : Nat) : Int))), (2, 165, (.pointer (some (ad bs21 k)))), (3, 166, (.int .i64 ((((endS s (((es).getD i (0, 0)).2)).a) ++ ((endS s (((es).getD i (0, 0)).2)).q)).getD k 0))), (4, 167, (.slice bs21 ((((endS s (((es).getD i (0, 0)).2)).a).length) + (((endS s (((es).getD i (0, 0)).2)).q).length)) cp22)), (5, 168, (.int .i64 ((m : Nat) : Int))), (6, 169, (.pointer (some (ad bs21 m)))), (7, 170, (.int .i64 ((((endS s (((es).getD i (0, 0)).2)).a) ++ ((endS s (((es).getD i (0, 0)).2)).q)).getD m 0))), (8, 171, (.bool false))]) (fun _ S => (SlV 3 1 (.slice bs21 ((((endS s (((es).getD i (0, 0)).2)).a).length) + (((endS s (((es).getD i (0, 0)).2)).q).length)) cp22) ((((endS s (((es).getD i (0, 0)).2)).a).length) + (((endS s (((es).getD i (0, 0)).2)).q).length)) (ints .i64 (((endS s (((es).getD i (0, 0)).2)).a) ++ ((endS s (((es).getD i (0, 0)).2)).q)))) :: (SlV 3 1 (.slice bs8 (((endS s (((es).getD i (0, 0)).2)).q).length) cp9) (((endS s (((es).getD i (0, 0)).2)).q).length) (ints .i64 ((endS s (((es).getD i (0, 0)).2)).q))) :: (AdmO p1 (max A 1) (max Q 0) (endS s (((es).getD i (0, 0)).2))) :: (SlV 3 1 (.slice bs4 (((endS s (((es).getD i (0, 0)).2)).a).length) cp5) (((endS s (((es).getD i (0, 0)).2)).a).length) (ints .i64 ((endS s (((es).getD i (0, 0)).2)).a))) :: R) (()) trivial (fun _ h => h) (fun _ _ h => h) ?_ ?_
          · -- steps
           refine ⟨?_, ?_, ?_, ?_, ?_, ?_, ?_, ?_, ?_, trivial⟩
           · -- 0
            rintro _ S hF hS D hp K hK
            try dsimp only at hF ⊢
            refine d_need (small := [(22, (.slice bs21 ((((endS s (((es).getD i (0, 0)).2)).a).length) + (((endS s (((es).getD i (0, 0)).2)).q).length)) cp22))]) ⟨look_b rfl rfl, trivial⟩ ?_
            refine tp rfl (lv_move rfl) ?_
            exact d_closes ⟨look_b rfl rfl, trivial⟩ 0 rfl rfl rfl hS (AgreeR.refl _) (t_sat (fun _ h => h) (hK () trivial))
           · -- 1
            rintro _ S hF hS D hp K hK
            try dsimp only at hF ⊢
            refine d_need (small := [(23, (.int .i64 ((k : Nat) : Int)))]) ⟨look_b rfl rfl, trivial⟩ ?_
            refine tp rfl (lv_move rfl) ?_
            exact d_closes ⟨look_b rfl rfl, trivial⟩ 1 rfl rfl rfl hS (AgreeR.refl _) (t_sat (fun _ h => h) (hK () trivial))
           · -- 2
            rintro _ S hF hS D hp K hK
            try dsimp only at hF ⊢
            have s0 := hp 0 rfl
            have s1 := hp 1 rfl
            refine d_need (small := [(163, (.slice bs21 ((((endS s (((es).getD i (0, 0)).2)).a).length) + (((endS s (((es).getD i (0, 0)).2)).q).length)) cp22)), (164, (.int .i64 ((k : Nat) : Int)))]) ⟨look_row rfl 0 rfl s0, look_row rfl 1 rfl s1, trivial⟩ ?_
            refine tp rfl (lv_indexAddr (k' := k) Try.underlying27 Try.sizeOf3 rfl rfl hok23 (by omega) (by omega) (by omega)) ?_
            exact d_closes ⟨look_row rfl 0 rfl s0, look_row rfl 1 rfl s1, trivial⟩ 2 rfl rfl rfl hS (AgreeR.refl _) (t_sat (fun _ h => h) (hK () trivial))
           · -- 3
            rintro _ S hF hS D hp K hK
            try dsimp only at hF ⊢
            have s2 := hp 2 rfl
            refine d_need (small := [(165, (.pointer (some (ad bs21 k))))]) ⟨look_row rfl 2 rfl s2, trivial⟩ ?_
            refine tp rfl (lv_load Try.isAgg3 rfl (gives_sl (.head _) (ints_get (by rw [List.length_append]; omega)))) ?_
            exact d_closes ⟨look_row rfl 2 rfl s2, trivial⟩ 3 rfl rfl rfl hS (AgreeR.refl _) (t_sat (fun _ h => h) (hK () trivial))
           · -- 4
            rintro _ S hF hS D hp K hK
            try dsimp only at hF ⊢
            refine d_need (small := [(22, (.slice bs21 ((((endS s (((es).getD i (0, 0)).2)).a).length) + (((endS s (((es).getD i (0, 0)).2)).q).length)) cp22))]) ⟨look_b rfl rfl, trivial⟩ ?_
            refine tp rfl (lv_move rfl) ?_
            exact d_closes ⟨look_b rfl rfl, trivial⟩ 4 rfl rfl rfl hS (AgreeR.refl _) (t_sat (fun _ h => h) (hK () trivial))
           · -- 5
            rintro _ S hF hS D hp K hK
            try dsimp only at hF ⊢
            refine d_need (small := [(24, (.int .i64 ((m : Nat) : Int)))]) ⟨look_b rfl rfl, trivial⟩ ?_
            refine tp rfl (lv_move rfl) ?_
            exact d_closes ⟨look_b rfl rfl, trivial⟩ 5 rfl rfl rfl hS (AgreeR.refl _) (t_sat (fun _ h => h) (hK () trivial))
           · -- 6
            rintro _ S hF hS D hp K hK
            try dsimp only at hF ⊢
            have s4 := hp 4 rfl
            have s5 := hp 5 rfl
            refine d_need (small := [(167, (.slice bs21 ((((endS s (((es).getD i (0, 0)).2)).a).length) + (((endS s (((es).getD i (0, 0)).2)).q).length)) cp22)), (168, (.int .i64 ((m : Nat) : Int)))]) ⟨look_row rfl 4 rfl s4, look_row rfl 5 rfl s5, trivial⟩ ?_
            refine tp rfl (lv_indexAddr (k' := m) Try.underlying27 Try.sizeOf3 rfl rfl hok23 (by omega) (by omega) (by omega)) ?_
            exact d_closes ⟨look_row rfl 4 rfl s4, look_row rfl 5 rfl s5, trivial⟩ 6 rfl rfl rfl hS (AgreeR.refl _) (t_sat (fun _ h => h) (hK () trivial))
           · -- 7
            rintro _ S hF hS D hp K hK
            try dsimp only at hF ⊢
            have s6 := hp 6 rfl
            refine d_need (small := [(169, (.pointer (some (ad bs21 m))))]) ⟨look_row rfl 6 rfl s6, trivial⟩ ?_
            refine tp rfl (lv_load Try.isAgg3 rfl (gives_sl (.head _) (ints_get (by rw [List.length_append]; omega)))) ?_
            exact d_closes ⟨look_row rfl 6 rfl s6, trivial⟩ 7 rfl rfl rfl hS (AgreeR.refl _) (t_sat (fun _ h => h) (hK () trivial))
           · -- 8
            rintro _ S hF hS D hp K hK
            try dsimp only at hF ⊢
            have s3 := hp 3 rfl
            have s7 := hp 7 rfl
            refine d_need (small := [(166, (.int .i64 ((((endS s (((es).getD i (0, 0)).2)).a) ++ ((endS s (((es).getD i (0, 0)).2)).q)).getD k 0))), (170, (.int .i64 ((((endS s (((es).getD i (0, 0)).2)).a) ++ ((endS s (((es).getD i (0, 0)).2)).q)).getD m 0)))]) ⟨look_row rfl 3 rfl s3, look_row rfl 7 rfl s7, trivial⟩ ?_
            refine tp rfl (lv_eql rfl rfl (beq_eq_false_iff_ne.2 (nodup_at hok2.nodup (by rw [List.length_append]; omega) (by omega)))) ?_
            exact d_closes ⟨look_row rfl 3 rfl s3, look_row rfl 7 rfl s7, trivial⟩ 8 rfl rfl rfl hS (AgreeR.refl _) (t_sat (fun _ h => h) (hK () trivial))
          · -- behind
           rintro _ hF
           try dsimp only at hF ⊢
           refine t_weak (E' := [(0, (.int .i64 A)), (1, (.int .i64 Q)), (2, (.slice bl es.length cl)), (7, (.bool true)), (8, (.pointer (some ⟨p1, 0, none⟩))), (9, (.int .i64 ((i : Nat) : Int))), (11, (.bool (there s (((es).getD i (0, 0)).2)))), (13, (.int .i64 (endEr s (((es).getD i (0, 0)).2)))), (15, (.bool false)), (20, (.slice bs4 (((endS s (((es).getD i (0, 0)).2)).a).length) cp5)), (21, (.slice bs8 (((endS s (((es).getD i (0, 0)).2)).q).length) cp9)), (22, (.slice bs21 ((((endS s (((es).getD i (0, 0)).2)).a).length) + (((endS s (((es).getD i (0, 0)).2)).q).length)) cp22)), (23, (.int .i64 ((k : Nat) : Int))), (24, (.int .i64 ((m : Nat) : Int))), (30, (.bool false)), (38, (.bool true)), (56, (.bool true)), (83, (.bool false)), (146, (.bool false)), (155, (.bool true)), (160, (.bool true)), (171, (.bool false))]) ⟨rfl, rfl, rfl, rfl, rfl, rfl, rfl, rfl, rfl, rfl, rfl, rfl, rfl, rfl, rfl, rfl, rfl, rfl, rfl, rfl, rfl, rfl, trivial⟩ ?_
           refine q_then_n (hK33 _ _ ?_)
           refine c_false rfl ?_
           refine c_skip ?_
           refine q_in_n ?_
           refine q_then_n (hK32 _ _ ?_)
           refine c_region ?_
           refine tp rfl (lv_move rfl) ?_
           refine tp rfl (lv_add (c := ((m + 1 : Nat) : Int)) rfl rfl (wr_i64_succ (by omega))) ?_
           refine tp rfl (lv_assign rfl) ?_
           refine t_done ?_
           refine q_then_n ?_
           exact t_weak (by exact ⟨rfl, rfl, rfl, rfl, rfl, rfl, rfl, rfl, rfl, rfl, rfl, rfl, rfl, rfl, rfl, rfl, rfl, rfl, rfl, rfl, trivial⟩) ((hK29 (m + 1) (by omega) (by omega)))
         · -- no
          refine tp rfl (lv_lss rfl rfl (decide_eq_false h26)) ?_
          refine t_done ?_
          refine q_then_n (hK31 _ _ ?_)
          refine c_false rfl ?_
          refine c_exit ?_
          refine q_then_x ?_
          refine q_then_x ?_
          refine q_in_x ?_
          refine q_in_n ?_
          refine q_then_n (hK27 _ _ ?_)
          refine c_region ?_
          refine tp rfl (lv_move rfl) ?_
          refine tp rfl (lv_add (c := ((k + 1 : Nat) : Int)) rfl rfl (wr_i64_succ (by omega))) ?_
          refine tp rfl (lv_assign rfl) ?_
          refine t_done ?_
          refine q_then_n ?_
          exact t_weak (by exact ⟨rfl, rfl, rfl, rfl, rfl, rfl, rfl, rfl, rfl, rfl, rfl, rfl, rfl, rfl, rfl, rfl, rfl, rfl, trivial⟩) ((hK24 (k + 1) (by omega) (by omega)))
        · -- no
         refine tp rfl (lv_lss rfl rfl (decide_eq_false h25)) ?_
         refine t_done ?_
         refine q_then_n (hK26 _ _ ?_)
         refine c_false rfl ?_
         refine c_exit ?_
         refine q_then_x ?_
         refine q_then_x ?_
         refine q_in_x ?_
         refine q_in_n ?_
         refine q_then_n (hK11 _ _ ?_)
         refine c_region ?_
         refine tp rfl (lv_move rfl) ?_
         refine tp rfl (lv_add (c := ((i + 1 : Nat) : Int)) rfl rfl (wr_i64_succ (by omega))) ?_
         refine tp rfl (lv_assign rfl) ?_
         refine t_done ?_
         refine q_then_n ?_
         refine t_drop ?_
         refine t_drop ?_
         refine t_f1 ?_
         refine t_drop ?_
         exact t_weak (by exact ⟨rfl, rfl, rfl, rfl, rfl, rfl, rfl, trivial⟩) ((hK8 (i + 1, endS s (((es).getD i (0, 0)).2)) ⟨by omega, by omega, by dsimp only; omega⟩ (by dsimp only; omega)))
      · -- no
        refine tp rfl (lv_gtr rfl rfl (decide_eq_false h12)) ?_
        refine t_guard rfl rfl ?_
        refine tp rfl (lv_move rfl) ?_
        refine t_skip rfl rfl rfl ?_
        refine t_skip rfl rfl rfl ?_
        refine t_skip rfl rfl rfl ?_
        refine t_skip rfl rfl rfl ?_
        refine t_skip rfl rfl rfl ?_
        refine t_guard rfl rfl ?_
        refine tp rfl (lv_pick_f rfl rfl) ?_
        refine tp rfl (lv_pick_f rfl rfl) ?_
        refine t_done ?_
        refine q_then_n (hK21 _ _ ?_)
        refine c_false rfl ?_
        refine c_skip ?_
        refine q_then_n (hK20 _ _ ?_)
        refine c_seq (fun K22 hK22 => ?_)
        refine c_region ?_
        refine tm rfl (mv_buildSlice (cs := []) Try.underlying27 Try.sizeOf3 Try.zeroValue3 (by decide) rfl rfl rfl rfl) ?_
        rintro _ _ ⟨bs27, cp28, hok29, hle30, rfl, rfl⟩
        refine tp rfl (lv_move rfl) ?_
        refine tm rfl (mv_append (i := Try.t3) Try.underlying27 Try.type3 rfl rfl rfl (by decide) rfl rfl hok6 (by simp) (rd_sl (.tail _ (.tail _ (.tail _ (.head _))))) ints_one (by rw [show Try.t3.bytes = 8 from rfl]; omega)) ?_
        rintro _ _ ⟨bs31, cp32, hok33, hle34, rfl, rfl⟩
        simp only [Nat.zero_add] at hok33 hle34 ⊢
        rw [List.nil_append]
        refine tp rfl (lv_move rfl) ?_
        refine tm rfl (mv_append (i := Try.t3) Try.underlying27 Try.type3 rfl rfl rfl (by decide) rfl rfl hok10 (by simp) (rd_sl (.tail _ (.head _))) ints_one (by rw [show Try.t3.bytes = 8 from rfl]; omega)) ?_
        rintro _ _ ⟨bs35, cp36, hok37, hle38, rfl, rfl⟩
        rw [← ints_append]
        refine tp rfl (lv_assign rfl) ?_
        refine t_done ?_
        refine q_then_n (hK22 _ _ ?_)
        refine c_seq (fun K23 hK23 => ?_)
        refine c_region ?_
        refine tp rfl (lv_assign rfl) ?_
        refine t_done ?_
        refine q_then_n (hK23 _ _ ?_)
        refine c_block ?_
        refine c_loop (γ := (Nat)) (fun (k : Nat) => k ≤ (((endS s (((es).getD i (0, 0)).2)).a).length) + (((endS s (((es).getD i (0, 0)).2)).q).length)) (fun (k : Nat) => [(0, (.int .i64 A)), (1, (.int .i64 Q)), (2, (.slice bl es.length cl)), (7, (.bool true)), (8, (.pointer (some ⟨p1, 0, none⟩))), (9, (.int .i64 ((i : Nat) : Int))), (11, (.bool (there s (((es).getD i (0, 0)).2)))), (13, (.int .i64 (endEr s (((es).getD i (0, 0)).2)))), (15, (.bool false)), (20, (.slice bs4 (((endS s (((es).getD i (0, 0)).2)).a).length) cp5)), (21, (.slice bs8 (((endS s (((es).getD i (0, 0)).2)).q).length) cp9)), (22, (.slice bs35 ((((endS s (((es).getD i (0, 0)).2)).a).length) + (((endS s (((es).getD i (0, 0)).2)).q).length)) cp36)), (23, (.int .i64 ((k : Nat) : Int))), (30, (.bool false)), (38, (.bool true)), (56, (.bool true)), (83, (.bool false)), (146, (.bool false))]) (fun (k : Nat) => (SlV 3 1 (.slice bs35 ((((endS s (((es).getD i (0, 0)).2)).a).length) + (((endS s (((es).getD i (0, 0)).2)).q).length)) cp36) ((((endS s (((es).getD i (0, 0)).2)).a).length) + (((endS s (((es).getD i (0, 0)).2)).q).length)) (ints .i64 (((endS s (((es).getD i (0, 0)).2)).a) ++ ((endS s (((es).getD i (0, 0)).2)).q)))) :: (SlV 3 1 (.slice bs8 (((endS s (((es).getD i (0, 0)).2)).q).length) cp9) (((endS s (((es).getD i (0, 0)).2)).q).length) (ints .i64 ((endS s (((es).getD i (0, 0)).2)).q))) :: (AdmO p1 (max A 1) (max Q 0) (endS s (((es).getD i (0, 0)).2))) :: (SlV 3 1 (.slice bs4 (((endS s (((es).getD i (0, 0)).2)).a).length) cp5) (((endS s (((es).getD i (0, 0)).2)).a).length) (ints .i64 ((endS s (((es).getD i (0, 0)).2)).a))) :: R) (fun (k : Nat) => (((endS s (((es).getD i (0, 0)).2)).a).length) + (((endS s (((es).getD i (0, 0)).2)).q).length) - k) (0) (by omega) ⟨rfl, rfl, rfl, rfl, rfl, rfl, rfl, rfl, rfl, rfl, rfl, rfl, rfl, rfl, rfl, rfl, rfl, rfl, trivial⟩ (fun _ h => h) ?_
        rintro k K24 hF hK24
        try dsimp only at hF hK24 ⊢
        refine c_seq (fun K25 hK25 => ?_)
        refine c_seq (fun K26 hK26 => ?_)
        refine c_region ?_
        refine tp rfl (lv_move rfl) ?_
        refine tp rfl (lv_move rfl) ?_
        refine tp rfl (lv_len Try.underlying27 rfl rfl) ?_
        by_cases h39 : ((k : Nat) : Int) < (((((endS s (((es).getD i (0, 0)).2)).a).length) + (((endS s (((es).getD i (0, 0)).2)).q).length) : Nat) : Int)
        · -- yes
         refine tp rfl (lv_lss rfl rfl (decide_eq_true h39)) ?_
         refine t_done ?_
         refine q_then_n (hK26 _ _ ?_)
         refine c_true rfl ?_
         refine c_skip ?_
         refine q_then_n (hK25 _ _ ?_)
         refine c_seq (fun K27 hK27 => ?_)
         refine c_block ?_
         refine c_seq (fun K28 hK28 => ?_)
         refine c_region ?_
         refine tp rfl (lv_assign rfl) ?_
         refine t_done ?_
         refine q_then_n (hK28 _ _ ?_)
         refine c_block ?_
         refine c_loop (γ := (Nat)) (fun (m : Nat) => m ≤ k) (fun (m : Nat) => [(0, (.int .i64 A)), (1, (.int .i64 Q)), (2, (.slice bl es.length cl)), (7, (.bool true)), (8, (.pointer (some ⟨p1, 0, none⟩))), (9, (.int .i64 ((i : Nat) : Int))), (11, (.bool (there s (((es).getD i (0, 0)).2)))), (13, (.int .i64 (endEr s (((es).getD i (0, 0)).2)))), (15, (.bool false)), (20, (.slice bs4 (((endS s (((es).getD i (0, 0)).2)).a).length) cp5)), (21, (.slice bs8 (((endS s (((es).getD i (0, 0)).2)).q).length) cp9)), (22, (.slice bs35 ((((endS s (((es).getD i (0, 0)).2)).a).length) + (((endS s (((es).getD i (0, 0)).2)).q).length)) cp36)), (23, (.int .i64 ((k : Nat) : Int))), (24, (.int .i64 ((m : Nat) : Int))), (30, (.bool false)), (38, (.bool true)), (56, (.bool true)), (83, (.bool false)), (146, (.bool false)), (155, (.bool true))]) (fun (m : Nat) => (SlV 3 1 (.slice bs35 ((((endS s (((es).getD i (0, 0)).2)).a).length) + (((endS s (((es).getD i (0, 0)).2)).q).length)) cp36) ((((endS s (((es).getD i (0, 0)).2)).a).length) + (((endS s (((es).getD i (0, 0)).2)).q).length)) (ints .i64 (((endS s (((es).getD i (0, 0)).2)).a) ++ ((endS s (((es).getD i (0, 0)).2)).q)))) :: (SlV 3 1 (.slice bs8 (((endS s (((es).getD i (0, 0)).2)).q).length) cp9) (((endS s (((es).getD i (0, 0)).2)).q).length) (ints .i64 ((endS s (((es).getD i (0, 0)).2)).q))) :: (AdmO p1 (max A 1) (max Q 0) (endS s (((es).getD i (0, 0)).2))) :: (SlV 3 1 (.slice bs4 (((endS s (((es).getD i (0, 0)).2)).a).length) cp5) (((endS s (((es).getD i (0, 0)).2)).a).length) (ints .i64 ((endS s (((es).getD i (0, 0)).2)).a))) :: R) (fun (m : Nat) => k - m) (0) (by omega) ⟨rfl, rfl, rfl, rfl, rfl, rfl, rfl, rfl, rfl, rfl, rfl, rfl, rfl, rfl, rfl, rfl, rfl, rfl, rfl, rfl, trivial⟩ (fun _ h => h) ?_
         rintro m K29 hF hK29
         try dsimp only at hF hK29 ⊢
         refine c_seq (fun K30 hK30 => ?_)
         refine c_seq (fun K31 hK31 => ?_)
         refine c_region ?_
         refine tp rfl (lv_move rfl) ?_
         refine tp rfl (lv_move rfl) ?_
         by_cases h40 : ((m : Nat) : Int) < ((k : Nat) : Int)
         · -- yes
          refine tp rfl (lv_lss rfl rfl (decide_eq_true h40)) ?_
          refine t_done ?_
          refine q_then_n (hK31 _ _ ?_)
          refine c_true rfl ?_
          refine c_skip ?_
          refine q_then_n (hK30 _ _ ?_)
          refine c_seq (fun K32 hK32 => ?_)
          refine c_block ?_
          refine c_seq (fun K33 hK33 => ?_)
          refine c_draw (γ := Unit) (n := 9) Try.mixed rfl rfl (fun _ S => True) (fun _ => [(0, 163, (.slice bs35 ((((endS s (((es).getD i (0, 0)).2)).a).length) + (((endS s (((es).getD i (0, 0)).2)).q).length)) cp36)), (1, 164, (.int .i64 ((k : Nat) : Int))), (2, 165, (.pointer (some (ad bs35 k)))), (3, 166, (.int .i64 ((((endS s (((es).getD i (0, 0)).2)).a) ++ ((endS s (((es).getD i (0, 0)).2)).q)).getD k 0))), (4, 167, (.slice bs35 ((((endS s (((es).getD i (0, 0)).2)).a).length) + (((endS s (((es).getD i (0, 0)).2)).q).length)) cp36)), (5, 168, (.int .i64 ((m : Nat) : Int))), (6, 169, (.pointer (some (ad bs35 m)))), (7, 170, (.int .i64 ((((endS s (((es).getD i (0, 0)).2)).a) ++ ((endS s (((es).getD i (0, 0)).2)).q)).getD m 0))), (8, 171, (.bool false))]) (fun _ S => (SlV 3 1 (.slice bs35 ((((endS s (((es).getD i (0, 0)).2)).a).length) + (((endS s (((es).getD i (0, 0)).2)).q).length)) cp36) ((((endS s (((es).getD i (0, 0)).2)).a).length) + (((endS s (((es).getD i (0, 0)).2)).q).length)) (ints .i64 (((endS s (((es).getD i (0, 0)).2)).a) ++ ((endS s (((es).getD i (0, 0)).2)).q)))) :: (SlV 3 1 (.slice bs8 (((endS s (((es).getD i (0, 0)).2)).q).length) cp9) (((endS s (((es).getD i (0, 0)).2)).q).length) (ints .i64 ((endS s (((es).getD i (0, 0)).2)).q))) :: (AdmO p1 (max A 1) (max Q 0) (endS s (((es).getD i (0, 0)).2))) :: (SlV 3 1 (.slice bs4 (((endS s (((es).getD i (0, 0)).2)).a).length) cp5) (((endS s (((es).getD i (0, 0)).2)).a).length) (ints .i64 ((endS s (((es).getD i (0, 0)).2)).a))) :: R) (()) trivial (fun _ h => h) (fun _ _ h => h) ?_ ?_
          · -- steps
           refine ⟨?_, ?_, ?_, ?_, ?_, ?_, ?_, ?_, ?_, trivial⟩
           · -- 0
            rintro _ S hF hS D hp K hK
            try dsimp only at hF ⊢
            refine d_need (small := [(22, (.slice bs35 ((((endS s (((es).getD i (0, 0)).2)).a).length) + (((endS s (((es).getD i (0, 0)).2)).q).length)) cp36))]) ⟨look_b rfl rfl, trivial⟩ ?_
            refine tp rfl (lv_move rfl) ?_
            exact d_closes ⟨look_b rfl rfl, trivial⟩ 0 rfl rfl rfl hS (AgreeR.refl _) (t_sat (fun _ h => h) (hK () trivial))
           · -- 1
            rintro _ S hF hS D hp K hK
            try dsimp only at hF ⊢
            refine d_need (small := [(23, (.int .i64 ((k : Nat) : Int)))]) ⟨look_b rfl rfl, trivial⟩ ?_
            refine tp rfl (lv_move rfl) ?_
            exact d_closes ⟨look_b rfl rfl, trivial⟩ 1 rfl rfl rfl hS (AgreeR.refl _) (t_sat (fun _ h => h) (hK () trivial))
           · -- 2
            rintro _ S hF hS D hp K hK
            try dsimp only at hF ⊢
            have s0 := hp 0 rfl
            have s1 := hp 1 rfl
            refine d_need (small := [(163, (.slice bs35 ((((endS s (((es).getD i (0, 0)).2)).a).length) + (((endS s (((es).getD i (0, 0)).2)).q).length)) cp36)), (164, (.int .i64 ((k : Nat) : Int)))]) ⟨look_row rfl 0 rfl s0, look_row rfl 1 rfl s1, trivial⟩ ?_
            refine tp rfl (lv_indexAddr (k' := k) Try.underlying27 Try.sizeOf3 rfl rfl hok37 (by omega) (by omega) (by omega)) ?_
            exact d_closes ⟨look_row rfl 0 rfl s0, look_row rfl 1 rfl s1, trivial⟩ 2 rfl rfl rfl hS (AgreeR.refl _) (t_sat (fun _ h => h) (hK () trivial))
           · -- 3
            rintro _ S hF hS D hp K hK
            try dsimp only at hF ⊢
            have s2 := hp 2 rfl
            refine d_need (small := [(165, (.pointer (some (ad bs35 k))))]) ⟨look_row rfl 2 rfl s2, trivial⟩ ?_
            refine tp rfl (lv_load Try.isAgg3 rfl (gives_sl (.head _) (ints_get (by rw [List.length_append]; omega)))) ?_
            exact d_closes ⟨look_row rfl 2 rfl s2, trivial⟩ 3 rfl rfl rfl hS (AgreeR.refl _) (t_sat (fun _ h => h) (hK () trivial))
           · -- 4
            rintro _ S hF hS D hp K hK
            try dsimp only at hF ⊢
            refine d_need (small := [(22, (.slice bs35 ((((endS s (((es).getD i (0, 0)).2)).a).length) + (((endS s (((es).getD i (0, 0)).2)).q).length)) cp36))]) ⟨look_b rfl rfl, trivial⟩ ?_
            refine tp rfl (lv_move rfl) ?_
            exact d_closes ⟨look_b rfl rfl, trivial⟩ 4 rfl rfl rfl hS (AgreeR.refl _) (t_sat (fun _ h => h) (hK () trivial))
           · -- 5
            rintro _ S hF hS D hp K hK
            try dsimp only at hF ⊢
            refine d_need (small := [(24, (.int .i64 ((m : Nat) : Int)))]) ⟨look_b rfl rfl, trivial⟩ ?_
            refine tp rfl (lv_move rfl) ?_
            exact d_closes ⟨look_b rfl rfl, trivial⟩ 5 rfl rfl rfl hS (AgreeR.refl _) (t_sat (fun _ h => h) (hK () trivial))
           · -- 6
            rintro _ S hF hS D hp K hK
            try dsimp only at hF ⊢
            have s4 := hp 4 rfl
            have s5 := hp 5 rfl
            refine d_need (small := [(167, (.slice bs35 ((((endS s (((es).getD i (0, 0)).2)).a).length) + (((endS s (((es).getD i (0, 0)).2)).q).length)) cp36)), (168, (.int .i64 ((m : Nat) : Int)))]) ⟨look_row rfl 4 rfl s4, look_row rfl 5 rfl s5, trivial⟩ ?_
            refine tp rfl (lv_indexAddr (k' := m) Try.underlying27 Try.sizeOf3 rfl rfl hok37 (by omega) (by omega) (by omega)) ?_
            exact d_closes ⟨look_row rfl 4 rfl s4, look_row rfl 5 rfl s5, trivial⟩ 6 rfl rfl rfl hS (AgreeR.refl _) (t_sat (fun _ h => h) (hK () trivial))
           · -- 7
            rintro _ S hF hS D hp K hK
            try dsimp only at hF ⊢
            have s6 := hp 6 rfl
            refine d_need (small := [(169, (.pointer (some (ad bs35 m))))]) ⟨look_row rfl 6 rfl s6, trivial⟩ ?_
            refine tp rfl (lv_load Try.isAgg3 rfl (gives_sl (.head _) (ints_get (by rw [List.length_append]; omega)))) ?_
            exact d_closes ⟨look_row rfl 6 rfl s6, trivial⟩ 7 rfl rfl rfl hS (AgreeR.refl _) (t_sat (fun _ h => h) (hK () trivial))
           · -- 8
            rintro _ S hF hS D hp K hK
            try dsimp only at hF ⊢
            have s3 := hp 3 rfl
            have s7 := hp 7 rfl
            refine d_need (small := [(166, (.int .i64 ((((endS s (((es).getD i (0, 0)).2)).a) ++ ((endS s (((es).getD i (0, 0)).2)).q)).getD k 0))), (170, (.int .i64 ((((endS s (((es).getD i (0, 0)).2)).a) ++ ((endS s (((es).getD i (0, 0)).2)).q)).getD m 0)))]) ⟨look_row rfl 3 rfl s3, look_row rfl 7 rfl s7, trivial⟩ ?_
            refine tp rfl (lv_eql rfl rfl (beq_eq_false_iff_ne.2 (nodup_at hok2.nodup (by rw [List.length_append]; omega) (by omega)))) ?_
            exact d_closes ⟨look_row rfl 3 rfl s3, look_row rfl 7 rfl s7, trivial⟩ 8 rfl rfl rfl hS (AgreeR.refl _) (t_sat (fun _ h => h) (hK () trivial))
          · -- behind
           rintro _ hF
           try dsimp only at hF ⊢
           refine t_weak (E' := [(0, (.int .i64 A)), (1, (.int .i64 Q)), (2, (.slice bl es.length cl)), (7, (.bool true)), (8, (.pointer (some ⟨p1, 0, none⟩))), (9, (.int .i64 ((i : Nat) : Int))), (11, (.bool (there s (((es).getD i (0, 0)).2)))), (13, (.int .i64 (endEr s (((es).getD i (0, 0)).2)))), (15, (.bool false)), (20, (.slice bs4 (((endS s (((es).getD i (0, 0)).2)).a).length) cp5)), (21, (.slice bs8 (((endS s (((es).getD i (0, 0)).2)).q).length) cp9)), (22, (.slice bs35 ((((endS s (((es).getD i (0, 0)).2)).a).length) + (((endS s (((es).getD i (0, 0)).2)).q).length)) cp36)), (23, (.int .i64 ((k : Nat) : Int))), (24, (.int .i64 ((m : Nat) : Int))), (30, (.bool false)), (38, (.bool true)), (56, (.bool true)), (83, (.bool false)), (146, (.bool false)), (155, (.bool true)), (160, (.bool true)), (171, (.bool false))]) ⟨rfl, rfl, rfl, rfl, rfl, rfl, rfl, rfl, rfl, rfl, rfl, rfl, rfl, rfl, rfl, rfl, rfl, rfl, rfl, rfl, rfl, rfl, trivial⟩ ?_
           refine q_then_n (hK33 _ _ ?_)
           refine c_false rfl ?_
           refine c_skip ?_
           refine q_in_n ?_
           refine q_then_n (hK32 _ _ ?_)
           refine c_region ?_
           refine tp rfl (lv_move rfl) ?_
           refine tp rfl (lv_add (c := ((m + 1 : Nat) : Int)) rfl rfl (wr_i64_succ (by omega))) ?_
           refine tp rfl (lv_assign rfl) ?_
           refine t_done ?_
           refine q_then_n ?_
           exact t_weak (by exact ⟨rfl, rfl, rfl, rfl, rfl, rfl, rfl, rfl, rfl, rfl, rfl, rfl, rfl, rfl, rfl, rfl, rfl, rfl, rfl, rfl, trivial⟩) ((hK29 (m + 1) (by omega) (by omega)))
         · -- no
          refine tp rfl (lv_lss rfl rfl (decide_eq_false h40)) ?_
          refine t_done ?_
          refine q_then_n (hK31 _ _ ?_)
          refine c_false rfl ?_
          refine c_exit ?_
          refine q_then_x ?_
          refine q_then_x ?_
          refine q_in_x ?_
          refine q_in_n ?_
          refine q_then_n (hK27 _ _ ?_)
          refine c_region ?_
          refine tp rfl (lv_move rfl) ?_
          refine tp rfl (lv_add (c := ((k + 1 : Nat) : Int)) rfl rfl (wr_i64_succ (by omega))) ?_
          refine tp rfl (lv_assign rfl) ?_
          refine t_done ?_
          refine q_then_n ?_
          exact t_weak (by exact ⟨rfl, rfl, rfl, rfl, rfl, rfl, rfl, rfl, rfl, rfl, rfl, rfl, rfl, rfl, rfl, rfl, rfl, rfl, trivial⟩) ((hK24 (k + 1) (by omega) (by omega)))
        · -- no
         refine tp rfl (lv_lss rfl rfl (decide_eq_false h39)) ?_
         refine t_done ?_
         refine q_then_n (hK26 _ _ ?_)
         refine c_false rfl ?_
         refine c_exit ?_
         refine q_then_x ?_
         refine q_then_x ?_
         refine q_in_x ?_
         refine q_in_n ?_
         refine q_then_n (hK11 _ _ ?_)
         refine c_region ?_
         refine tp rfl (lv_move rfl) ?_
         refine tp rfl (lv_add (c := ((i + 1 : Nat) : Int)) rfl rfl (wr_i64_succ (by omega))) ?_
         refine tp rfl (lv_assign rfl) ?_
         refine t_done ?_
         refine q_then_n ?_
         refine t_drop ?_
         refine t_drop ?_
         refine t_f1 ?_
         refine t_drop ?_
         exact t_weak (by exact ⟨rfl, rfl, rfl, rfl, rfl, rfl, rfl, trivial⟩) ((hK8 (i + 1, endS s (((es).getD i (0, 0)).2)) ⟨by omega, by omega, by dsimp only; omega⟩ (by dsimp only; omega)))
    · -- no
      refine tp rfl (lv_eql rfl rfl (beq_eq_false_iff_ne.2 h3)) ?_
      refine t_done ?_
      refine q_then_n (hK14 _ _ ?_)
      refine c_false rfl ?_
      refine c_seq (fun K15 hK15 => ?_)
      refine c_region ?_
      refine tp rfl (lv_move rfl) ?_
      refine tp rfl (lv_move rfl) ?_
      refine tp rfl (lv_move rfl) ?_
      refine tp rfl (lv_indexAddr (k' := i * 2) Try.underlying22 Try.sizeOf31 rfl rfl okl (by omega) (by omega) (by omega)) ?_
      refine tp rfl (lv_fieldAddr_ad (o' := i * 2 + 1) Try.underlying31 rfl Try.sizeOf3 rfl rfl) ?_
      refine tp rfl (lv_load Try.isAgg3 rfl (Rd.gives (Rd.cons hl) (pairs_get1 (by omega)))) ?_
      refine tc rfl (en_fn Try.call12 rfl) (aadd_ok (A := max A 1) (Q := max Q 0) (s := s) (((es).getD i (0, 0)).2) (by omega)) ?_
      rintro _ _ ⟨rfl, rfl⟩
      refine tp rfl (lv_move rfl) ?_
      refine tp rfl (lv_extract rfl rfl) ?_
      refine tp rfl (lv_extract rfl rfl) ?_
      refine tp rfl (lv_assign rfl) ?_
      refine tp rfl (lv_assign rfl) ?_
      refine t_done ?_
      refine q_then_n (hK15 _ _ ?_)
      refine c_seq (fun K16 hK16 => ?_)
      refine c_region ?_
      refine tp rfl (lv_move rfl) ?_
      refine tp rfl (lv_move rfl) ?_
      refine tp rfl (lv_move rfl) ?_
      refine tp rfl (lv_indexAddr (k' := i * 2) Try.underlying22 Try.sizeOf31 rfl rfl okl (by omega) (by omega) (by omega)) ?_
      refine tp rfl (lv_fieldAddr_ad (o' := i * 2 + 1) Try.underlying31 rfl Try.sizeOf3 rfl rfl) ?_
      refine tp rfl (lv_load Try.isAgg3 rfl (Rd.gives (Rd.cons hl) (pairs_get1 (by omega)))) ?_
      refine tc rfl (en_fn Try.call18 rfl) (state_ok (A := max A 1) (Q := max Q 0) (s := addS (max A 1) (max Q 0) s (((es).getD i (0, 0)).2)) (((es).getD i (0, 0)).2) (by have := addS_len (max A 1) (max Q 0) s (((es).getD i (0, 0)).2); omega)) ?_
      rintro _ _ ⟨rfl, rfl⟩
      refine tp rfl (lv_move rfl) ?_
      refine tp rfl (lv_extract rfl rfl) ?_
      refine tp rfl (lv_extract rfl rfl) ?_
      refine tp rfl (lv_assign rfl) ?_
      refine tp rfl (lv_assign rfl) ?_
      refine t_done ?_
      refine q_then_n (hK16 _ _ ?_)
      refine c_seq (fun K17 hK17 => ?_)
      refine c_region ?_
      refine tp rfl (lv_move rfl) ?_
      refine tp rfl (lv_move rfl) ?_
      rcases hb41 : there s (((es).getD i (0, 0)).2) with _ | _
      · -- false
        refine t_skip rfl rfl rfl ?_
        refine t_skip rfl rfl rfl ?_
        refine tp rfl (lv_pick_f rfl rfl) ?_
        refine tp rfl (lv_move rfl) ?_
        refine t_guard rfl rfl ?_
        refine tp rfl (lv_move rfl) ?_
        refine t_guard rfl rfl ?_
        refine tp rfl (lv_not (c := true) rfl rfl) ?_
        refine t_guard rfl rfl ?_
        refine tp rfl (lv_move rfl) ?_
        refine t_guard rfl rfl ?_
        refine tp rfl (lv_move rfl) ?_
        refine t_guard rfl rfl ?_
        refine tp rfl (lv_move rfl) ?_
        refine t_guard rfl rfl ?_
        refine tp rfl (lv_eql rfl rfl rfl) ?_
        refine t_guard rfl rfl ?_
        refine tp rfl (lv_neb Try.underlying4 rfl rfl (add_there ‹_›)) ?_
        refine t_guard rfl rfl ?_
        refine tp rfl (lv_pick_t rfl rfl) ?_
        refine tp rfl (lv_pick_f rfl rfl) ?_
        refine t_done ?_
        refine q_then_n (hK17 _ _ ?_)
        refine c_false rfl ?_
        refine c_skip ?_
        refine q_then_n (hK13 _ _ ?_)
        refine c_seq (fun K18 hK18 => ?_)
        refine c_region ?_
        refine t_learn (fun _ h => aok_of h) (fun hok2 => ?_)
        have hok2la := hok2.la
        have hok2lq := hok2.lq
        have hgr := addS_len (max A 1) (max Q 0) s (((es).getD i (0, 0)).2)
        refine tp rfl (lv_move rfl) ?_
        refine tc rfl (en_fn Try.call16 rfl) (actives_ok (A := max A 1) (Q := max Q 0) (s := addS (max A 1) (max Q 0) s (((es).getD i (0, 0)).2)) (by omega)) ?_
        rintro _ _ ⟨bs42, cp43, hok44, hle45, rfl, rfl⟩
        refine tp rfl (lv_assign rfl) ?_
        refine t_done ?_
        refine q_then_n (hK18 _ _ ?_)
        refine c_seq (fun K19 hK19 => ?_)
        refine c_region ?_
        refine tp rfl (lv_move rfl) ?_
        refine t_f1 ?_
        refine tc rfl (en_fn Try.call17 rfl) (waiting_ok (A := max A 1) (Q := max Q 0) (s := addS (max A 1) (max Q 0) s (((es).getD i (0, 0)).2)) (by omega)) ?_
        rintro _ _ ⟨bs46, cp47, hok48, hle49, rfl, rfl⟩
        refine tp rfl (lv_assign rfl) ?_
        refine t_done ?_
        refine q_then_n (hK19 _ _ ?_)
        refine c_seq (fun K20 hK20 => ?_)
        refine c_seq (fun K21 hK21 => ?_)
        refine c_region ?_
        refine tp rfl (lv_move rfl) ?_
        refine tp rfl (lv_len Try.underlying27 rfl rfl) ?_
        refine tp rfl (lv_move rfl) ?_
        refine tp rfl (lv_max (c := max A 1) rfl rfl rfl) ?_
        refine tp rfl (lv_gtr rfl rfl (decide_eq_false (by omega))) ?_
        refine tp rfl (lv_move rfl) ?_
        refine t_guard rfl rfl ?_
        refine tp rfl (lv_move rfl) ?_
        refine t_guard rfl rfl ?_
        refine tp rfl (lv_len Try.underlying27 rfl rfl) ?_
        refine t_guard rfl rfl ?_
        refine tp rfl (lv_move rfl) ?_
        refine t_guard rfl rfl ?_
        refine tp rfl (lv_max (c := max Q 0) rfl rfl rfl) ?_
        refine t_guard rfl rfl ?_
        refine tp rfl (lv_gtr rfl rfl (decide_eq_false (by omega))) ?_
        refine tp rfl (lv_pick_f rfl rfl) ?_
        refine tp rfl (lv_move rfl) ?_
        refine t_guard rfl rfl ?_
        refine tp rfl (lv_move rfl) ?_
        refine t_guard rfl rfl ?_
        refine tp rfl (lv_len Try.underlying27 rfl rfl) ?_
        refine t_guard rfl rfl ?_
        by_cases h50 : ((((addS (max A 1) (max Q 0) s (((es).getD i (0, 0)).2)).q).length : Nat) : Int) > 0
        · -- yes
         refine tp rfl (lv_gtr rfl rfl (decide_eq_true h50)) ?_
         refine t_guard rfl rfl ?_
         refine tp rfl (lv_move rfl) ?_
         refine t_guard rfl rfl ?_
         refine tp rfl (lv_move rfl) ?_
         refine t_guard rfl rfl ?_
         refine tp rfl (lv_len Try.underlying27 rfl rfl) ?_
         refine t_guard rfl rfl ?_
         refine tp rfl (lv_move rfl) ?_
         refine t_guard rfl rfl ?_
         refine tp rfl (lv_max (c := max A 1) rfl rfl rfl) ?_
         refine t_guard rfl rfl ?_
         refine tp rfl (lv_neq rfl rfl (bne_eq_false_iff_eq.2 (hok2.full' (by omega)))) ?_
         refine t_guard rfl rfl ?_
         refine tp rfl (lv_pick_t rfl rfl) ?_
         refine tp rfl (lv_pick_f rfl rfl) ?_
         refine t_done ?_
         refine q_then_n (hK21 _ _ ?_)
         refine c_false rfl ?_
         refine c_skip ?_
         refine q_then_n (hK20 _ _ ?_)
         refine c_seq (fun K22 hK22 => ?_)
         refine c_region ?_
         refine tm rfl (mv_buildSlice (cs := []) Try.underlying27 Try.sizeOf3 Try.zeroValue3 (by decide) rfl rfl rfl rfl) ?_
         rintro _ _ ⟨bs51, cp52, hok53, hle54, rfl, rfl⟩
         refine tp rfl (lv_move rfl) ?_
         refine tm rfl (mv_append (i := Try.t3) Try.underlying27 Try.type3 rfl rfl rfl (by decide) rfl rfl hok44 (by simp) (rd_sl (.tail _ (.tail _ (.tail _ (.head _))))) ints_one (by rw [show Try.t3.bytes = 8 from rfl]; omega)) ?_
         rintro _ _ ⟨bs55, cp56, hok57, hle58, rfl, rfl⟩
         simp only [Nat.zero_add] at hok57 hle58 ⊢
         rw [List.nil_append]
         refine tp rfl (lv_move rfl) ?_
         refine tm rfl (mv_append (i := Try.t3) Try.underlying27 Try.type3 rfl rfl rfl (by decide) rfl rfl hok48 (by simp) (rd_sl (.tail _ (.head _))) ints_one (by rw [show Try.t3.bytes = 8 from rfl]; omega)) ?_
         rintro _ _ ⟨bs59, cp60, hok61, hle62, rfl, rfl⟩
         rw [← ints_append]
         refine tp rfl (lv_assign rfl) ?_
         refine t_done ?_
         refine q_then_n (hK22 _ _ ?_)
         refine c_seq (fun K23 hK23 => ?_)
         refine c_region ?_
         refine tp rfl (lv_assign rfl) ?_
         refine t_done ?_
         refine q_then_n (hK23 _ _ ?_)
         refine c_block ?_
         refine c_loop (γ := (Nat)) (fun (k : Nat) => k ≤ (((addS (max A 1) (max Q 0) s (((es).getD i (0, 0)).2)).a).length) + (((addS (max A 1) (max Q 0) s (((es).getD i (0, 0)).2)).q).length)) (fun (k : Nat) => [(0, (.int .i64 A)), (1, (.int .i64 Q)), (2, (.slice bl es.length cl)), (7, (.bool true)), (8, (.pointer (some ⟨p1, 0, none⟩))), (9, (.int .i64 ((i : Nat) : Int))), (11, (.bool false)), (17, (.int .i64 (addEr (max A 1) (max Q 0) s (((es).getD i (0, 0)).2)))), (19, (.bool (there (addS (max A 1) (max Q 0) s (((es).getD i (0, 0)).2)) (((es).getD i (0, 0)).2)))), (20, (.slice bs42 (((addS (max A 1) (max Q 0) s (((es).getD i (0, 0)).2)).a).length) cp43)), (21, (.slice bs46 (((addS (max A 1) (max Q 0) s (((es).getD i (0, 0)).2)).q).length) cp47)), (22, (.slice bs59 ((((addS (max A 1) (max Q 0) s (((es).getD i (0, 0)).2)).a).length) + (((addS (max A 1) (max Q 0) s (((es).getD i (0, 0)).2)).q).length)) cp60)), (23, (.int .i64 ((k : Nat) : Int))), (30, (.bool false)), (38, (.bool true)), (56, (.bool false)), (118, (.bool false)), (146, (.bool false))]) (fun (k : Nat) => (SlV 3 1 (.slice bs59 ((((addS (max A 1) (max Q 0) s (((es).getD i (0, 0)).2)).a).length) + (((addS (max A 1) (max Q 0) s (((es).getD i (0, 0)).2)).q).length)) cp60) ((((addS (max A 1) (max Q 0) s (((es).getD i (0, 0)).2)).a).length) + (((addS (max A 1) (max Q 0) s (((es).getD i (0, 0)).2)).q).length)) (ints .i64 (((addS (max A 1) (max Q 0) s (((es).getD i (0, 0)).2)).a) ++ ((addS (max A 1) (max Q 0) s (((es).getD i (0, 0)).2)).q)))) :: (SlV 3 1 (.slice bs46 (((addS (max A 1) (max Q 0) s (((es).getD i (0, 0)).2)).q).length) cp47) (((addS (max A 1) (max Q 0) s (((es).getD i (0, 0)).2)).q).length) (ints .i64 ((addS (max A 1) (max Q 0) s (((es).getD i (0, 0)).2)).q))) :: (AdmO p1 (max A 1) (max Q 0) (addS (max A 1) (max Q 0) s (((es).getD i (0, 0)).2))) :: (SlV 3 1 (.slice bs42 (((addS (max A 1) (max Q 0) s (((es).getD i (0, 0)).2)).a).length) cp43) (((addS (max A 1) (max Q 0) s (((es).getD i (0, 0)).2)).a).length) (ints .i64 ((addS (max A 1) (max Q 0) s (((es).getD i (0, 0)).2)).a))) :: R) (fun (k : Nat) => (((addS (max A 1) (max Q 0) s (((es).getD i (0, 0)).2)).a).length) + (((addS (max A 1) (max Q 0) s (((es).getD i (0, 0)).2)).q).length) - k) (0) (by omega) ⟨rfl, rfl, rfl, rfl, rfl, rfl, rfl, rfl, rfl, rfl, rfl, rfl, rfl, rfl, rfl, rfl, rfl, rfl, trivial⟩ (fun _ h => h) ?_
         rintro k K24 hF hK24
         try dsimp only at hF hK24 ⊢
         refine c_seq (fun K25 hK25 => ?_)
         refine c_seq (fun K26 hK26 => ?_)
         refine c_region ?_
         refine tp rfl (lv_move rfl) ?_
         refine tp rfl (lv_move rfl) ?_
         refine tp rfl (lv_len Try.underlying27 rfl rfl) ?_
         by_cases h63 : ((k : Nat) : Int) < (((((addS (max A 1) (max Q 0) s (((es).getD i (0, 0)).2)).a).length) + (((addS (max A 1) (max Q 0) s (((es).getD i (0, 0)).2)).q).length) : Nat) : Int)
         · -- yes
          refine tp rfl (lv_lss rfl rfl (decide_eq_true h63)) ?_
          refine t_done ?_
          refine q_then_n (hK26 _ _ ?_)
          refine c_true rfl ?_
          refine c_skip ?_
          refine q_then_n (hK25 _ _ ?_)
          refine c_seq (fun K27 hK27 => ?_)
          refine c_block ?_
          refine c_seq (fun K28 hK28 => ?_)
          refine c_region ?_
          refine tp rfl (lv_assign rfl) ?_
          refine t_done ?_
          refine q_then_n (hK28 _ _ ?_)
          refine c_block ?_
          refine c_loop (γ := (Nat)) (fun (m : Nat) => m ≤ k) (fun (m : Nat) => [(0, (.int .i64 A)), (1, (.int .i64 Q)), (2, (.slice bl es.length cl)), (7, (.bool true)), (8, (.pointer (some ⟨p1, 0, none⟩))), (9, (.int .i64 ((i : Nat) : Int))), (11, (.bool false)), (17, (.int .i64 (addEr (max A 1) (max Q 0) s (((es).getD i (0, 0)).2)))), (19, (.bool (there (addS (max A 1) (max Q 0) s (((es).getD i (0, 0)).2)) (((es).getD i (0, 0)).2)))), (20, (.slice bs42 (((addS (max A 1) (max Q 0) s (((es).getD i (0, 0)).2)).a).length) cp43)), (21, (.slice bs46 (((addS (max A 1) (max Q 0) s (((es).getD i (0, 0)).2)).q).length) cp47)), (22, (.slice bs59 ((((addS (max A 1) (max Q 0) s (((es).getD i (0, 0)).2)).a).length) + (((addS (max A 1) (max Q 0) s (((es).getD i (0, 0)).2)).q).length)) cp60)), (23, (.int .i64 ((k : Nat) : Int))), (24, (.int .i64 ((m : Nat) : Int))), (30, (.bool false)), (38, (.bool true)), (56, (.bool false)), (118, (.bool false)), (146, (.bool false)), (155, (.bool true))]) (fun (m : Nat) => (SlV 3 1 (.slice bs59 ((((addS (max A 1) (max Q 0) s (((es).getD i (0, 0)).2)).a).length) + (((addS (max A 1) (max Q 0) s (((es).getD i (0, 0)).2)).q).length)) cp60) ((((addS (max A 1) (max Q 0) s (((es).getD i (0, 0)).2)).a).length) + (((addS (max A 1) (max Q 0) s (((es).getD i (0, 0)).2)).q).length)) (ints .i64 (((addS (max A 1) (max Q 0) s (((es).getD i (0, 0)).2)).a) ++ ((addS (max A 1) (max Q 0) s (((es).getD i (0, 0)).2)).q)))) :: (SlV 3 1 (.slice bs46 (((addS (max A 1) (max Q 0) s (((es).getD i (0, 0)).2)).q).length) cp47) (((addS (max A 1) (max Q 0) s (((es).getD i (0, 0)).2)).q).length) (ints .i64 ((addS (max A 1) (max Q 0) s (((es).getD i (0, 0)).2)).q))) :: (AdmO p1 (max A 1) (max Q 0) (addS (max A 1) (max Q 0) s (((es).getD i (0, 0)).2))) :: (SlV 3 1 (.slice bs42 (((addS (max A 1) (max Q 0) s (((es).getD i (0, 0)).2)).a).length) cp43) (((addS (max A 1) (max Q 0) s (((es).getD i (0, 0)).2)).a).length) (ints .i64 ((addS (max A 1) (max Q 0) s (((es).getD i (0, 0)).2)).a))) :: R) (fun (m : Nat) => k - m) (0) (by omega) ⟨rfl, rfl, rfl, rfl, rfl, rfl, rfl, rfl, rfl, rfl, rfl, rfl, rfl, rfl, rfl, rfl, rfl, rfl, rfl, rfl, trivial⟩ (fun _ h => h) ?_
          rintro m K29 hF hK29
          try dsimp only at hF hK29 ⊢
          refine c_seq (fun K30 hK30 => ?_)
          refine c_seq (fun K31 hK31 => ?_)
          refine c_region ?_
          refine tp rfl (lv_move rfl) ?_
          refine tp rfl (lv_move rfl) ?_
          by_cases h64 : ((m : Nat) : Int) < ((k : Nat) : Int)
          · -- yes
           refine tp rfl (lv_lss rfl rfl (decide_eq_true h64)) ?_
           refine t_done ?_
           refine q_then_n (hK31 _ _ ?_)
           refine c_true rfl ?_
           refine c_skip ?_
           refine q_then_n (hK30 _ _ ?_)
           refine c_seq (fun K32 hK32 => ?_)
           refine c_block ?_
           refine c_seq (fun K33 hK33 => ?_)
           refine c_draw (γ := Unit) (n := 9) Try.mixed rfl rfl (fun _ S => True) (fun _ => [(0, 163, (.slice bs59 ((((addS (max A 1) (max Q 0) s (((es).getD i (0, 0)).2)).a).length) + (((addS (max A 1) (max Q 0) s (((es).getD i (0, 0)).2)).q).length)) cp60)), (1, 164, (.int .i64 ((k : Nat) : Int))), (2, 165, (.pointer (some (ad bs59 k)))), (3, 166, (.int .i64 ((((addS (max A 1) (max Q 0) s (((es).getD i (0, 0)).2)).a) ++ ((addS (max A 1) (max Q 0) s (((es).getD i (0, 0)).2)).q)).getD k 0))), (4, 167, (.slice bs59 ((((addS (max A 1) (max Q 0) s (((es).getD i (0, 0)).2)).a).length) + (((addS (max A 1) (max Q 0) s (((es).getD i (0, 0)).2)).q).length)) cp60)), (5, 168, (.int .i64 ((m : Nat) : Int))), (6, 169, (.pointer (some (ad bs59 m)))), (7, 170, (.int .i64 ((((addS (max A 1) (max Q 0) s (((es).getD i (0, 0)).2)).a) ++ ((addS (max A 1) (max Q 0) s (((es).getD i (0, 0)).2)).q)).getD m 0))), (8, 171, (.bool false))]) (fun _ S => (SlV 3 1 (.slice bs59 ((((addS (max A 1) (max Q 0) s (((es).getD i (0, 0)).2)).a).length) + (((addS (max A 1) (max Q 0) s (((es).getD i (0, 0)).2)).q).length)) cp60) ((((addS (max A 1) (max Q 0) s (((es).getD i (0, 0)).2)).a).length) + (((addS (max A 1) (max Q 0) s (((es).getD i (0, 0)).2)).q).length)) (ints .i64 (((addS (max A 1) (max Q 0) s (((es).getD i (0, 0)).2)).a) ++ ((addS (max A 1) (max Q 0) s (((es).getD i (0, 0)).2)).q)))) :: (SlV 3 1 (.slice bs46 (((addS (max A 1) (max Q 0) s (((es).getD i (0, 0)).2)).q).length) cp47) (((addS (max A 1) (max Q 0) s (((es).getD i (0, 0)).2)).q).length) (ints .i64 ((addS (max A 1) (max Q 0) s (((es).getD i (0, 0)).2)).q))) :: (AdmO p1 (max A 1) (max Q 0) (addS (max A 1) (max Q 0) s (((es).getD i (0, 0)).2))) :: (SlV 3 1 (.slice bs42 (((addS (max A 1) (max Q 0) s (((es).getD i (0, 0)).2)).a).length) cp43) (((addS (max A 1) (max Q 0) s (((es).getD i (0, 0)).2)).a).length) (ints .i64 ((addS (max A 1) (max Q 0) s (((es).getD i (0, 0)).2)).a))) :: R) (()) trivial (fun _ h => h) (fun _ _ h => h) ?_ ?_
           · -- steps
            refine ⟨?_, ?_, ?_, ?_, ?_, ?_, ?_, ?_, ?_, trivial⟩
            · -- 0
             rintro _ S hF hS D hp K hK
             try dsimp only at hF ⊢
             refine d_need (small := [(22, (.slice bs59 ((((addS (max A 1) (max Q 0) s (((es).getD i (0, 0)).2)).a).length) + (((addS (max A 1) (max Q 0) s (((es).getD i (0, 0)).2)).q).length)) cp60))]) ⟨look_b rfl rfl, trivial⟩ ?_
             refine tp rfl (lv_move rfl) ?_
             exact d_closes ⟨look_b rfl rfl, trivial⟩ 0 rfl rfl rfl hS (AgreeR.refl _) (t_sat (fun _ h => h) (hK () trivial))
            · -- 1
             rintro _ S hF hS D hp K hK
             try dsimp only at hF ⊢
             refine d_need (small := [(23, (.int .i64 ((k : Nat) : Int)))]) ⟨look_b rfl rfl, trivial⟩ ?_
             refine tp rfl (lv_move rfl) ?_
             exact d_closes ⟨look_b rfl rfl, trivial⟩ 1 rfl rfl rfl hS (AgreeR.refl _) (t_sat (fun _ h => h) (hK () trivial))
            · -- 2
             rintro _ S hF hS D hp K hK
             try dsimp only at hF ⊢
             have s0 := hp 0 rfl
             have s1 := hp 1 rfl
             refine d_need (small := [(163, (.slice bs59 ((((addS (max A 1) (max Q 0) s (((es).getD i (0, 0)).2)).a).length) + (((addS (max A 1) (max Q 0) s (((es).getD i (0, 0)).2)).q).length)) cp60)), (164, (.int .i64 ((k : Nat) : Int)))]) ⟨look_row rfl 0 rfl s0, look_row rfl 1 rfl s1, trivial⟩ ?_
             refine tp rfl (lv_indexAddr (k' := k) Try.underlying27 Try.sizeOf3 rfl rfl hok61 (by omega) (by omega) (by omega)) ?_
             exact d_closes ⟨look_row rfl 0 rfl s0, look_row rfl 1 rfl s1, trivial⟩ 2 rfl rfl rfl hS (AgreeR.refl _) (t_sat (fun _ h => h) (hK () trivial))
            · -- 3
             rintro _ S hF hS D hp K hK
             try dsimp only at hF ⊢
             have s2 := hp 2 rfl
             refine d_need (small := [(165, (.pointer (some (ad bs59 k))))]) ⟨look_row rfl 2 rfl s2, trivial⟩ ?_
             refine tp rfl (lv_load Try.isAgg3 rfl (gives_sl (.head _) (ints_get (by rw [List.length_append]; omega)))) ?_
             exact d_closes ⟨look_row rfl 2 rfl s2, trivial⟩ 3 rfl rfl rfl hS (AgreeR.refl _) (t_sat (fun _ h => h) (hK () trivial))
            · -- 4
             rintro _ S hF hS D hp K hK
             try dsimp only at hF ⊢
             refine d_need (small := [(22, (.slice bs59 ((((addS (max A 1) (max Q 0) s (((es).getD i (0, 0)).2)).a).length) + (((addS (max A 1) (max Q 0) s (((es).getD i (0, 0)).2)).q).length)) cp60))]) ⟨look_b rfl rfl, trivial⟩ ?_
             refine tp rfl (lv_move rfl) ?_
             exact d_closes ⟨look_b rfl rfl, trivial⟩ 4 rfl rfl rfl hS (AgreeR.refl _) (t_sat (fun _ h => h) (hK () trivial))
            · -- 5
             rintro _ S hF hS D hp K hK
             try dsimp only at hF ⊢
             refine d_need (small := [(24, (.int .i64 ((m : Nat) : Int)))]) ⟨look_b rfl rfl, trivial⟩ ?_
             refine tp rfl (lv_move rfl) ?_
             exact d_closes ⟨look_b rfl rfl, trivial⟩ 5 rfl rfl rfl hS (AgreeR.refl _) (t_sat (fun _ h => h) (hK () trivial))
            · -- 6
             rintro _ S hF hS D hp K hK
             try dsimp only at hF ⊢
             have s4 := hp 4 rfl
             have s5 := hp 5 rfl
             refine d_need (small := [(167, (.slice bs59 ((((addS (max A 1) (max Q 0) s (((es).getD i (0, 0)).2)).a).length) + (((addS (max A 1) (max Q 0) s (((es).getD i (0, 0)).2)).q).length)) cp60)), (168, (.int .i64 ((m : Nat) : Int)))]) ⟨look_row rfl 4 rfl s4, look_row rfl 5 rfl s5, trivial⟩ ?_
             refine tp rfl (lv_indexAddr (k' := m) Try.underlying27 Try.sizeOf3 rfl rfl hok61 (by omega) (by omega) (by omega)) ?_
             exact d_closes ⟨look_row rfl 4 rfl s4, look_row rfl 5 rfl s5, trivial⟩ 6 rfl rfl rfl hS (AgreeR.refl _) (t_sat (fun _ h => h) (hK () trivial))
            · -- 7
             rintro _ S hF hS D hp K hK
             try dsimp only at hF ⊢
             have s6 := hp 6 rfl
             refine d_need (small := [(169, (.pointer (some (ad bs59 m))))]) ⟨look_row rfl 6 rfl s6, trivial⟩ ?_
             refine tp rfl (lv_load Try.isAgg3 rfl (gives_sl (.head _) (ints_get (by rw [List.length_append]; omega)))) ?_
             exact d_closes ⟨look_row rfl 6 rfl s6, trivial⟩ 7 rfl rfl rfl hS (AgreeR.refl _) (t_sat (fun _ h => h) (hK () trivial))
            · -- 8
             rintro _ S hF hS D hp K hK
             try dsimp only at hF ⊢
             have s3 := hp 3 rfl
             have s7 := hp 7 rfl
             refine d_need (small := [(166, (.int .i64 ((((addS (max A 1) (max Q 0) s (((es).getD i (0, 0)).2)).a) ++ ((addS (max A 1) (max Q 0) s (((es).getD i (0, 0)).2)).q)).getD k 0))), (170, (.int .i64 ((((addS (max A 1) (max Q 0) s (((es).getD i (0, 0)).2)).a) ++ ((addS (max A 1) (max Q 0) s (((es).getD i (0, 0)).2)).q)).getD m 0)))]) ⟨look_row rfl 3 rfl s3, look_row rfl 7 rfl s7, trivial⟩ ?_
             refine tp rfl (lv_eql rfl rfl (beq_eq_false_iff_ne.2 (nodup_at hok2.nodup (by rw [List.length_append]; omega) (by omega)))) ?_
             exact d_closes ⟨look_row rfl 3 rfl s3, look_row rfl 7 rfl s7, trivial⟩ 8 rfl rfl rfl hS (AgreeR.refl _) (t_sat (fun _ h => h) (hK () trivial))
           · -- behind
            rintro _ hF
            try dsimp only at hF ⊢
            refine t_weak (E' := [(0, (.int .i64 A)), (1, (.int .i64 Q)), (2, (.slice bl es.length cl)), (7, (.bool true)), (8, (.pointer (some ⟨p1, 0, none⟩))), (9, (.int .i64 ((i : Nat) : Int))), (11, (.bool false)), (17, (.int .i64 (addEr (max A 1) (max Q 0) s (((es).getD i (0, 0)).2)))), (19, (.bool (there (addS (max A 1) (max Q 0) s (((es).getD i (0, 0)).2)) (((es).getD i (0, 0)).2)))), (20, (.slice bs42 (((addS (max A 1) (max Q 0) s (((es).getD i (0, 0)).2)).a).length) cp43)), (21, (.slice bs46 (((addS (max A 1) (max Q 0) s (((es).getD i (0, 0)).2)).q).length) cp47)), (22, (.slice bs59 ((((addS (max A 1) (max Q 0) s (((es).getD i (0, 0)).2)).a).length) + (((addS (max A 1) (max Q 0) s (((es).getD i (0, 0)).2)).q).length)) cp60)), (23, (.int .i64 ((k : Nat) : Int))), (24, (.int .i64 ((m : Nat) : Int))), (30, (.bool false)), (38, (.bool true)), (56, (.bool false)), (118, (.bool false)), (146, (.bool false)), (155, (.bool true)), (160, (.bool true)), (171, (.bool false))]) ⟨rfl, rfl, rfl, rfl, rfl, rfl, rfl, rfl, rfl, rfl, rfl, rfl, rfl, rfl, rfl, rfl, rfl, rfl, rfl, rfl, rfl, rfl, trivial⟩ ?_
            refine q_then_n (hK33 _ _ ?_)
            refine c_false rfl ?_
            refine c_skip ?_
            refine q_in_n ?_
            refine q_then_n (hK32 _ _ ?_)
            refine c_region ?_
            refine tp rfl (lv_move rfl) ?_
            refine tp rfl (lv_add (c := ((m + 1 : Nat) : Int)) rfl rfl (wr_i64_succ (by omega))) ?_
            refine tp rfl (lv_assign rfl) ?_
            refine t_done ?_
            refine q_then_n ?_
            exact t_weak (by exact ⟨rfl, rfl, rfl, rfl, rfl, rfl, rfl, rfl, rfl, rfl, rfl, rfl, rfl, rfl, rfl, rfl, rfl, rfl, rfl, rfl, trivial⟩) ((hK29 (m + 1) (by omega) (by omega)))
          · -- no
           refine tp rfl (lv_lss rfl rfl (decide_eq_false h64)) ?_
           refine t_done ?_
           refine q_then_n (hK31 _ _ ?_)
           refine c_false rfl ?_
           refine c_exit ?_
           refine q_then_x ?_
           refine q_then_x ?_
           refine q_in_x ?_
           refine q_in_n ?_
           refine q_then_n (hK27 _ _ ?_)
           refine c_region ?_
           refine tp rfl (lv_move rfl) ?_
           refine tp rfl (lv_add (c := ((k + 1 : Nat) : Int)) rfl rfl (wr_i64_succ (by omega))) ?_
           refine tp rfl (lv_assign rfl) ?_
           refine t_done ?_
           refine q_then_n ?_
           exact t_weak (by exact ⟨rfl, rfl, rfl, rfl, rfl, rfl, rfl, rfl, rfl, rfl, rfl, rfl, rfl, rfl, rfl, rfl, rfl, rfl, trivial⟩) ((hK24 (k + 1) (by omega) (by omega)))
         · -- no
          refine tp rfl (lv_lss rfl rfl (decide_eq_false h63)) ?_
          refine t_done ?_
          refine q_then_n (hK26 _ _ ?_)
          refine c_false rfl ?_
          refine c_exit ?_
          refine q_then_x ?_
          refine q_then_x ?_
          refine q_in_x ?_
          refine q_in_n ?_
          refine q_then_n (hK11 _ _ ?_)
          refine c_region ?_
          refine tp rfl (lv_move rfl) ?_
          refine tp rfl (lv_add (c := ((i + 1 : Nat) : Int)) rfl rfl (wr_i64_succ (by omega))) ?_
          refine tp rfl (lv_assign rfl) ?_
          refine t_done ?_
          refine q_then_n ?_
          refine t_drop ?_
          refine t_drop ?_
          refine t_f1 ?_
          refine t_drop ?_
          exact t_weak (by exact ⟨rfl, rfl, rfl, rfl, rfl, rfl, rfl, trivial⟩) ((hK8 (i + 1, addS (max A 1) (max Q 0) s (((es).getD i (0, 0)).2)) ⟨by omega, by omega, by dsimp only; omega⟩ (by dsimp only; omega)))
        · -- no
         refine tp rfl (lv_gtr rfl rfl (decide_eq_false h50)) ?_
         refine t_guard rfl rfl ?_
         refine tp rfl (lv_move rfl) ?_
         refine t_skip rfl rfl rfl ?_
         refine t_skip rfl rfl rfl ?_
         refine t_skip rfl rfl rfl ?_
         refine t_skip rfl rfl rfl ?_
         refine t_skip rfl rfl rfl ?_
         refine t_guard rfl rfl ?_
         refine tp rfl (lv_pick_f rfl rfl) ?_
         refine tp rfl (lv_pick_f rfl rfl) ?_
         refine t_done ?_
         refine q_then_n (hK21 _ _ ?_)
         refine c_false rfl ?_
         refine c_skip ?_
         refine q_then_n (hK20 _ _ ?_)
         refine c_seq (fun K22 hK22 => ?_)
         refine c_region ?_
         refine tm rfl (mv_buildSlice (cs := []) Try.underlying27 Try.sizeOf3 Try.zeroValue3 (by decide) rfl rfl rfl rfl) ?_
         rintro _ _ ⟨bs65, cp66, hok67, hle68, rfl, rfl⟩
         refine tp rfl (lv_move rfl) ?_
         refine tm rfl (mv_append (i := Try.t3) Try.underlying27 Try.type3 rfl rfl rfl (by decide) rfl rfl hok44 (by simp) (rd_sl (.tail _ (.tail _ (.tail _ (.head _))))) ints_one (by rw [show Try.t3.bytes = 8 from rfl]; omega)) ?_
         rintro _ _ ⟨bs69, cp70, hok71, hle72, rfl, rfl⟩
         simp only [Nat.zero_add] at hok71 hle72 ⊢
         rw [List.nil_append]
         refine tp rfl (lv_move rfl) ?_
         refine tm rfl (mv_append (i := Try.t3) Try.underlying27 Try.type3 rfl rfl rfl (by decide) rfl rfl hok48 (by simp) (rd_sl (.tail _ (.head _))) ints_one (by rw [show Try.t3.bytes = 8 from rfl]; omega)) ?_
         rintro _ _ ⟨bs73, cp74, hok75, hle76, rfl, rfl⟩
         rw [← ints_append]
         refine tp rfl (lv_assign rfl) ?_
         refine t_done ?_
         refine q_then_n (hK22 _ _ ?_)
         refine c_seq (fun K23 hK23 => ?_)
         refine c_region ?_
         refine tp rfl (lv_assign rfl) ?_
         refine t_done ?_
         refine q_then_n (hK23 _ _ ?_)
         refine c_block ?_
         refine c_loop (γ := (Nat)) (fun (k : Nat) => k ≤ (((addS (max A 1) (max Q 0) s (((es).getD i (0, 0)).2)).a).length) + (((addS (max A 1) (max Q 0) s (((es).getD i (0, 0)).2)).q).length)) (fun (k : Nat) => [(0, (.int .i64 A)), (1, (.int .i64 Q)), (2, (.slice bl es.length cl)), (7, (.bool true)), (8, (.pointer (some ⟨p1, 0, none⟩))), (9, (.int .i64 ((i : Nat) : Int))), (11, (.bool false)), (17, (.int .i64 (addEr (max A 1) (max Q 0) s (((es).getD i (0, 0)).2)))), (19, (.bool (there (addS (max A 1) (max Q 0) s (((es).getD i (0, 0)).2)) (((es).getD i (0, 0)).2)))), (20, (.slice bs42 (((addS (max A 1) (max Q 0) s (((es).getD i (0, 0)).2)).a).length) cp43)), (21, (.slice bs46 (((addS (max A 1) (max Q 0) s (((es).getD i (0, 0)).2)).q).length) cp47)), (22, (.slice bs73 ((((addS (max A 1) (max Q 0) s (((es).getD i (0, 0)).2)).a).length) + (((addS (max A 1) (max Q 0) s (((es).getD i (0, 0)).2)).q).length)) cp74)), (23, (.int .i64 ((k : Nat) : Int))), (30, (.bool false)), (38, (.bool true)), (56, (.bool false)), (118, (.bool false)), (146, (.bool false))]) (fun (k : Nat) => (SlV 3 1 (.slice bs73 ((((addS (max A 1) (max Q 0) s (((es).getD i (0, 0)).2)).a).length) + (((addS (max A 1) (max Q 0) s (((es).getD i (0, 0)).2)).q).length)) cp74) ((((addS (max A 1) (max Q 0) s (((es).getD i (0, 0)).2)).a).length) + (((addS (max A 1) (max Q 0) s (((es).getD i (0, 0)).2)).q).length)) (ints .i64 (((addS (max A 1) (max Q 0) s (((es).getD i (0, 0)).2)).a) ++ ((addS (max A 1) (max Q 0) s (((es).getD i (0, 0)).2)).q)))) :: (SlV 3 1 (.slice bs46 (((addS (max A 1) (max Q 0) s (((es).getD i (0, 0)).2)).q).length) cp47) (((addS (max A 1) (max Q 0) s (((es).getD i (0, 0)).2)).q).length) (ints .i64 ((addS (max A 1) (max Q 0) s (((es).getD i (0, 0)).2)).q))) :: (AdmO p1 (max A 1) (max Q 0) (addS (max A 1) (max Q 0) s (((es).getD i (0, 0)).2))) :: (SlV 3 1 (.slice bs42 (((addS (max A 1) (max Q 0) s (((es).getD i (0, 0)).2)).a).length) cp43) (((addS (max A 1) (max Q 0) s (((es).getD i (0, 0)).2)).a).length) (ints .i64 ((addS (max A 1) (max Q 0) s (((es).getD i (0, 0)).2)).a))) :: R) (fun (k : Nat) => (((addS (max A 1) (max Q 0) s (((es).getD i (0, 0)).2)).a).length) + (((addS (max A 1) (max Q 0) s (((es).getD i (0, 0)).2)).q).length) - k) (0) (by omega) ⟨rfl, rfl, rfl, rfl, rfl, rfl, rfl, rfl, rfl, rfl, rfl, rfl, rfl, rfl, rfl, rfl, rfl, rfl, trivial⟩ (fun _ h => h) ?_
         rintro k K24 hF hK24
         try dsimp only at hF hK24 ⊢
         refine c_seq (fun K25 hK25 => ?_)
         refine c_seq (fun K26 hK26 => ?_)
         refine c_region ?_
         refine tp rfl (lv_move rfl) ?_
         refine tp rfl (lv_move rfl) ?_
         refine tp rfl (lv_len Try.underlying27 rfl rfl) ?_
         by_cases h77 : ((k : Nat) : Int) < (((((addS (max A 1) (max Q 0) s (((es).getD i (0, 0)).2)).a).length) + (((addS (max A 1) (max Q 0) s (((es).getD i (0, 0)).2)).q).length) : Nat) : Int)
         · -- yes
          refine tp rfl (lv_lss rfl rfl (decide_eq_true h77)) ?_
          refine t_done ?_
          refine q_then_n (hK26 _ _ ?_)
          refine c_true rfl ?_
          refine c_skip ?_
          refine q_then_n (hK25 _ _ ?_)
          refine c_seq (fun K27 hK27 => ?_)
          refine c_block ?_
          refine c_seq (fun K28 hK28 => ?_)
          refine c_region ?_
          refine tp rfl (lv_assign rfl) ?_
          refine t_done ?_
          refine q_then_n (hK28 _ _ ?_)
          refine c_block ?_
          refine c_loop (γ := (Nat)) (fun (m : Nat) => m ≤ k) (fun (m : Nat) => [(0, (.int .i64 A)), (1, (.int .i64 Q)), (2, (.slice bl es.length cl)), (7, (.bool true)), (8, (.pointer (some ⟨p1, 0, none⟩))), (9, (.int .i64 ((i : Nat) : Int))), (11, (.bool false)), (17, (.int .i64 (addEr (max A 1) (max Q 0) s (((es).getD i (0, 0)).2)))), (19, (.bool (there (addS (max A 1) (max Q 0) s (((es).getD i (0, 0)).2)) (((es).getD i (0, 0)).2)))), (20, (.slice bs42 (((addS (max A 1) (max Q 0) s (((es).getD i (0, 0)).2)).a).length) cp43)), (21, (.slice bs46 (((addS (max A 1) (max Q 0) s (((es).getD i (0, 0)).2)).q).length) cp47)), (22, (.slice bs73 ((((addS (max A 1) (max Q 0) s (((es).getD i (0, 0)).2)).a).length) + (((addS (max A 1) (max Q 0) s (((es).getD i (0, 0)).2)).q).length)) cp74)), (23, (.int .i64 ((k : Nat) : Int))), (24, (.int .i64 ((m : Nat) : Int))), (30, (.bool false)), (38, (.bool true)), (56, (.bool false)), (118, (.bool false)), (146, (.bool false)), (155, (.bool true))]) (fun (m : Nat) => (SlV 3 1 (.slice bs73 ((((addS (max A 1) (max Q 0) s (((es).getD i (0, 0)).2)).a).length) + (((addS (max A 1) (max Q 0) s (((es).getD i (0, 0)).2)).q).length)) cp74) ((((addS (max A 1) (max Q 0) s (((es).getD i (0, 0)).2)).a).length) + (((addS (max A 1) (max Q 0) s (((es).getD i (0, 0)).2)).q).length)) (ints .i64 (((addS (max A 1) (max Q 0) s (((es).getD i (0, 0)).2)).a) ++ ((addS (max A 1) (max Q 0) s (((es).getD i (0, 0)).2)).q)))) :: (SlV 3 1 (.slice bs46 (((addS (max A 1) (max Q 0) s (((es).getD i (0, 0)).2)).q).length) cp47) (((addS (max A 1) (max Q 0) s (((es).getD i (0, 0)).2)).q).length) (ints .i64 ((addS (max A 1) (max Q 0) s (((es).getD i (0, 0)).2)).q))) :: (AdmO p1 (max A 1) (max Q 0) (addS (max A 1) (max Q 0) s (((es).getD i (0, 0)).2))) :: (SlV 3 1 (.slice bs42 (((addS (max A 1) (max Q 0) s (((es).getD i (0, 0)).2)).a).length) cp43) (((addS (max A 1) (max Q 0) s (((es).getD i (0, 0)).2)).a).length) (ints .i64 ((addS (max A 1) (max Q 0) s (((es).getD i (0, 0)).2)).a))) :: R) (fun (m : Nat) => k - m) (0) (by omega) ⟨rfl, rfl, rfl, rfl, rfl, rfl, rfl, rfl, rfl, rfl, rfl, rfl, rfl, rfl, rfl, rfl, rfl, rfl, rfl, rfl, trivial⟩ (fun _ h => h) ?_
          rintro m K29 hF hK29
          try dsimp only at hF hK29 ⊢
          refine c_seq (fun K30 hK30 => ?_)
          refine c_seq (fun K31 hK31 => ?_)
          refine c_region ?_
          refine tp rfl (lv_move rfl) ?_
          refine tp rfl (lv_move rfl) ?_
          by_cases h78 : ((m : Nat) : Int) < ((k : Nat) : Int)
          · -- yes
           refine tp rfl (lv_lss rfl rfl (decide_eq_true h78)) ?_
           refine t_done ?_
           refine q_then_n (hK31 _ _ ?_)
           refine c_true rfl ?_
           refine c_skip ?_
           refine q_then_n (hK30 _ _ ?_)
           refine c_seq (fun K32 hK32 => ?_)
           refine c_block ?_
           refine c_seq (fun K33 hK33 => ?_)
           refine c_draw (γ := Unit) (n := 9) Try.mixed rfl rfl (fun _ S => True) (fun _ => [(0, 163, (.slice bs73 ((((addS (max A 1) (max Q 0) s (((es).getD i (0, 0)).2)).a).length) + (((addS (max A 1) (max Q 0) s (((es).getD i (0, 0)).2)).q).length)) cp74)), (1, 164, (.int .i64 ((k : Nat) : Int))), (2, 165, (.pointer (some (ad bs73 k)))), (3, 166, (.int .i64 ((((addS (max A 1) (max Q 0) s (((es).getD i (0, 0)).2)).a) ++ ((addS (max A 1) (max Q 0) s (((es).getD i (0, 0)).2)).q)).getD k 0))), (4, 167, (.slice bs73 ((((addS (max A 1) (max Q 0) s (((es).getD i (0, 0)).2)).a).length) + (((addS (max A 1) (max Q 0) s (((es).getD i (0, 0)).2)).q).length)) cp74)), (5, 168, (.int .i64 ((m : Nat) : Int))), (6, 169, (.pointer (some (ad bs73 m)))), (7, 170, (.int .i64 ((((addS (max A 1) (max Q 0) s (((es).getD i (0, 0)).2)).a) ++ ((addS (max A 1) (max Q 0) s (((es).getD i (0, 0)).2)).q)).getD m 0))), (8, 171, (.bool false))]) (fun _ S => (SlV 3 1 (.slice bs73 ((((addS (max A 1) (max Q 0) s (((es).getD i (0, 0)).2)).a).length) + (((addS (max A 1) (max Q 0) s (((es).getD i (0, 0)).2)).q).length)) cp74) ((((addS (max A 1) (max Q 0) s (((es).getD i (0, 0)).2)).a).length) + (((addS (max A 1) (max Q 0) s (((es).getD i (0, 0)).2)).q).length)) (ints .i64 (((addS (max A 1) (max Q 0) s (((es).getD i (0, 0)).2)).a) ++ ((addS (max A 1) (max Q 0) s (((es).getD i (0, 0)).2)).q)))) :: (SlV 3 1 (.slice bs46 (((addS (max A 1) (max Q 0) s (((es).getD i (0, 0)).2)).q).length) cp47) (((addS (max A 1) (max Q 0) s (((es).getD i (0, 0)).2)).q).length) (ints .i64 ((addS (max A 1) (max Q 0) s (((es).getD i (0, 0)).2)).q))) :: (AdmO p1 (max A 1) (max Q 0) (addS (max A 1) (max Q 0) s (((es).getD i (0, 0)).2))) :: (SlV 3 1 (.slice bs42 (((addS (max A 1) (max Q 0) s (((es).getD i (0, 0)).2)).a).length) cp43) (((addS (max A 1) (max Q 0) s (((es).getD i (0, 0)).2)).a).length) (ints .i64 ((addS (max A 1) (max Q 0) s (((es).getD i (0, 0)).2)).a))) :: R) (()) trivial (fun _ h => h) (fun _ _ h => h) ?_ ?_
           · -- steps
            refine ⟨?_, ?_, ?_, ?_, ?_, ?_, ?_, ?_, ?_, trivial⟩
            · -- 0
             rintro _ S hF hS D hp K hK
             try dsimp only at hF ⊢
             refine d_need (small := [(22, (.slice bs73 ((((addS (max A 1) (max Q 0) s (((es).getD i (0, 0)).2)).a).length) + (((addS (max A 1) (max Q 0) s (((es).getD i (0, 0)).2)).q).length)) cp74))]) ⟨look_b rfl rfl, trivial⟩ ?_
             refine tp rfl (lv_move rfl) ?_
             exact d_closes ⟨look_b rfl rfl, trivial⟩ 0 rfl rfl rfl hS (AgreeR.refl _) (t_sat (fun _ h => h) (hK () trivial))
            · -- 1
             rintro _ S hF hS D hp K hK
             try dsimp only at hF ⊢
             refine d_need (small := [(23, (.int .i64 ((k : Nat) : Int)))]) ⟨look_b rfl rfl, trivial⟩ ?_
             refine tp rfl (lv_move rfl) ?_
             exact d_closes ⟨look_b rfl rfl, trivial⟩ 1 rfl rfl rfl hS (AgreeR.refl _) (t_sat (fun _ h => h) (hK () trivial))
            · -- 2
             rintro _ S hF hS D hp K hK
             try dsimp only at hF ⊢
             have s0 := hp 0 rfl
             have s1 := hp 1 rfl
             refine d_need (small := [(163, (.slice bs73 ((((addS (max A 1) (max Q 0) s (((es).getD i (0, 0)).2)).a).length) + (((addS (max A 1) (max Q 0) s (((es).getD i (0, 0)).2)).q).length)) cp74)), (164, (.int .i64 ((k : Nat) : Int)))]) ⟨look_row rfl 0 rfl s0, look_row rfl 1 rfl s1, trivial⟩ ?_
             refine tp rfl (lv_indexAddr (k' := k) Try.underlying27 Try.sizeOf3 rfl rfl hok75 (by omega) (by omega) (by omega)) ?_
             exact d_closes ⟨look_row rfl 0 rfl s0, look_row rfl 1 rfl s1, trivial⟩ 2 rfl rfl rfl hS (AgreeR.refl _) (t_sat (fun _ h => h) (hK () trivial))
            · -- 3
             rintro _ S hF hS D hp K hK
             try dsimp only at hF ⊢
             have s2 := hp 2 rfl
             refine d_need (small := [(165, (.pointer (some (ad bs73 k))))]) ⟨look_row rfl 2 rfl s2, trivial⟩ ?_
             refine tp rfl (lv_load Try.isAgg3 rfl (gives_sl (.head _) (ints_get (by rw [List.length_append]; omega)))) ?_
             exact d_closes ⟨look_row rfl 2 rfl s2, trivial⟩ 3 rfl rfl rfl hS (AgreeR.refl _) (t_sat (fun _ h => h) (hK () trivial))
            · -- 4
             rintro _ S hF hS D hp K hK
             try dsimp only at hF ⊢
             refine d_need (small := [(22, (.slice bs73 ((((addS (max A 1) (max Q 0) s (((es).getD i (0, 0)).2)).a).length) + (((addS (max A 1) (max Q 0) s (((es).getD i (0, 0)).2)).q).length)) cp74))]) ⟨look_b rfl rfl, trivial⟩ ?_
             refine tp rfl (lv_move rfl) ?_
             exact d_closes ⟨look_b rfl rfl, trivial⟩ 4 rfl rfl rfl hS (AgreeR.refl _) (t_sat (fun _ h => h) (hK () trivial))
            · -- 5
             rintro _ S hF hS D hp K hK
             try dsimp only at hF ⊢
             refine d_need (small := [(24, (.int .i64 ((m : Nat) : Int)))]) ⟨look_b rfl rfl, trivial⟩ ?_
             refine tp rfl (lv_move rfl) ?_
             exact d_closes ⟨look_b rfl rfl, trivial⟩ 5 rfl rfl rfl hS (AgreeR.refl _) (t_sat (fun _ h => h) (hK () trivial))
            · -- 6
             rintro _ S hF hS D hp K hK
             try dsimp only at hF ⊢
             have s4 := hp 4 rfl
             have s5 := hp 5 rfl
             refine d_need (small := [(167, (.slice bs73 ((((addS (max A 1) (max Q 0) s (((es).getD i (0, 0)).2)).a).length) + (((addS (max A 1) (max Q 0) s (((es).getD i (0, 0)).2)).q).length)) cp74)), (168, (.int .i64 ((m : Nat) : Int)))]) ⟨look_row rfl 4 rfl s4, look_row rfl 5 rfl s5, trivial⟩ ?_
             refine tp rfl (lv_indexAddr (k' := m) Try.underlying27 Try.sizeOf3 rfl rfl hok75 (by omega) (by omega) (by omega)) ?_
             exact d_closes ⟨look_row rfl 4 rfl s4, look_row rfl 5 rfl s5, trivial⟩ 6 rfl rfl rfl hS (AgreeR.refl _) (t_sat (fun _ h => h) (hK () trivial))
            · -- 7
             rintro _ S hF hS D hp K hK
             try dsimp only at hF ⊢
             have s6 := hp 6 rfl
             refine d_need (small := [(169, (.pointer (some (ad bs73 m))))]) ⟨look_row rfl 6 rfl s6, trivial⟩ ?_
             refine tp rfl (lv_load Try.isAgg3 rfl (gives_sl (.head _) (ints_get (by rw [List.length_append]; omega)))) ?_
             exact d_closes ⟨look_row rfl 6 rfl s6, trivial⟩ 7 rfl rfl rfl hS (AgreeR.refl _) (t_sat (fun _ h => h) (hK () trivial))
            · -- 8
             rintro _ S hF hS D hp K hK
             try dsimp only at hF ⊢
             have s3 := hp 3 rfl
             have s7 := hp 7 rfl
             refine d_need (small := [(166, (.int .i64 ((((addS (max A 1) (max Q 0) s (((es).getD i (0, 0)).2)).a) ++ ((addS (max A 1) (max Q 0) s (((es).getD i (0, 0)).2)).q)).getD k 0))), (170, (.int .i64 ((((addS (max A 1) (max Q 0) s (((es).getD i (0, 0)).2)).a) ++ ((addS (max A 1) (max Q 0) s (((es).getD i (0, 0)).2)).q)).getD m 0)))]) ⟨look_row rfl 3 rfl s3, look_row rfl 7 rfl s7, trivial⟩ ?_
             refine tp rfl (lv_eql rfl rfl (beq_eq_false_iff_ne.2 (nodup_at hok2.nodup (by rw [List.length_append]; omega) (by omega)))) ?_
             exact d_closes ⟨look_row rfl 3 rfl s3, look_row rfl 7 rfl s7, trivial⟩ 8 rfl rfl rfl hS (AgreeR.refl _) (t_sat (fun _ h => h) (hK () trivial))
           · -- behind
            rintro _ hF
            try dsimp only at hF ⊢
            refine t_weak (E' := [(0, (.int .i64 A)), (1, (.int .i64 Q)), (2, (.slice bl es.length cl)), (7, (.bool true)), (8, (.pointer (some ⟨p1, 0, none⟩))), (9, (.int .i64 ((i : Nat) : Int))), (11, (.bool false)), (17, (.int .i64 (addEr (max A 1) (max Q 0) s (((es).getD i (0, 0)).2)))), (19, (.bool (there (addS (max A 1) (max Q 0) s (((es).getD i (0, 0)).2)) (((es).getD i (0, 0)).2)))), (20, (.slice bs42 (((addS (max A 1) (max Q 0) s (((es).getD i (0, 0)).2)).a).length) cp43)), (21, (.slice bs46 (((addS (max A 1) (max Q 0) s (((es).getD i (0, 0)).2)).q).length) cp47)), (22, (.slice bs73 ((((addS (max A 1) (max Q 0) s (((es).getD i (0, 0)).2)).a).length) + (((addS (max A 1) (max Q 0) s (((es).getD i (0, 0)).2)).q).length)) cp74)), (23, (.int .i64 ((k : Nat) : Int))), (24, (.int .i64 ((m : Nat) : Int))), (30, (.bool false)), (38, (.bool true)), (56, (.bool false)), (118, (.bool false)), (146, (.bool false)), (155, (.bool true)), (160, (.bool true)), (171, (.bool false))]) ⟨rfl, rfl, rfl, rfl, rfl, rfl, rfl, rfl, rfl, rfl, rfl, rfl, rfl, rfl, rfl, rfl, rfl, rfl, rfl, rfl, rfl, rfl, trivial⟩ ?_
            refine q_then_n (hK33 _ _ ?_)
            refine c_false rfl ?_
            refine c_skip ?_
            refine q_in_n ?_
            refine q_then_n (hK32 _ _ ?_)
            refine c_region ?_
            refine tp rfl (lv_move rfl) ?_
            refine tp rfl (lv_add (c := ((m + 1 : Nat) : Int)) rfl rfl (wr_i64_succ (by omega))) ?_
            refine tp rfl (lv_assign rfl) ?_
            refine t_done ?_
            refine q_then_n ?_
            exact t_weak (by exact ⟨rfl, rfl, rfl, rfl, rfl, rfl, rfl, rfl, rfl, rfl, rfl, rfl, rfl, rfl, rfl, rfl, rfl, rfl, rfl, rfl, trivial⟩) ((hK29 (m + 1) (by omega) (by omega)))
          · -- no
           refine tp rfl (lv_lss rfl rfl (decide_eq_false h78)) ?_
           refine t_done ?_
           refine q_then_n (hK31 _ _ ?_)
           refine c_false rfl ?_
           refine c_exit ?_
           refine q_then_x ?_
           refine q_then_x ?_
           refine q_in_x ?_
           refine q_in_n ?_
           refine q_then_n (hK27 _ _ ?_)
           refine c_region ?_
           refine tp rfl (lv_move rfl) ?_
           refine tp rfl (lv_add (c := ((k + 1 : Nat) : Int)) rfl rfl (wr_i64_succ (by omega))) ?_
           refine tp rfl (lv_assign rfl) ?_
           refine t_done ?_
           refine q_then_n ?_
           exact t_weak (by exact ⟨rfl, rfl, rfl, rfl, rfl, rfl, rfl, rfl, rfl, rfl, rfl, rfl, rfl, rfl, rfl, rfl, rfl, rfl, trivial⟩) ((hK24 (k + 1) (by omega) (by omega)))
         · -- no
          refine tp rfl (lv_lss rfl rfl (decide_eq_false h77)) ?_
          refine t_done ?_
          refine q_then_n (hK26 _ _ ?_)
          refine c_false rfl ?_
          refine c_exit ?_
          refine q_then_x ?_
          refine q_then_x ?_
          refine q_in_x ?_
          refine q_in_n ?_
          refine q_then_n (hK11 _ _ ?_)
          refine c_region ?_
          refine tp rfl (lv_move rfl) ?_
          refine tp rfl (lv_add (c := ((i + 1 : Nat) : Int)) rfl rfl (wr_i64_succ (by omega))) ?_
          refine tp rfl (lv_assign rfl) ?_
          refine t_done ?_
          refine q_then_n ?_
          refine t_drop ?_
          refine t_drop ?_
          refine t_f1 ?_
          refine t_drop ?_
          exact t_weak (by exact ⟨rfl, rfl, rfl, rfl, rfl, rfl, rfl, trivial⟩) ((hK8 (i + 1, addS (max A 1) (max Q 0) s (((es).getD i (0, 0)).2)) ⟨by omega, by omega, by dsimp only; omega⟩ (by dsimp only; omega)))
      · -- true
        refine t_guard rfl rfl ?_
        refine tp rfl (lv_move rfl) ?_
        refine t_guard rfl rfl ?_
        refine tp rfl (lv_neq rfl rfl (bne_eq_false_iff_eq.2 (addEr_there ‹_›))) ?_
        refine tp rfl (lv_pick_t rfl rfl) ?_
        refine tp rfl (lv_move rfl) ?_
        refine t_guard rfl rfl ?_
        refine tp rfl (lv_move rfl) ?_
        refine t_guard rfl rfl ?_
        refine tp rfl (lv_not (c := false) rfl rfl) ?_
        refine t_guard rfl rfl ?_
        refine tp rfl (lv_move rfl) ?_
        refine t_skip rfl rfl rfl ?_
        refine t_skip rfl rfl rfl ?_
        refine t_skip rfl rfl rfl ?_
        refine t_skip rfl rfl rfl ?_
        refine t_guard rfl rfl ?_
        refine tp rfl (lv_pick_f rfl rfl) ?_
        refine tp rfl (lv_pick_f rfl rfl) ?_
        refine t_done ?_
        refine q_then_n (hK17 _ _ ?_)
        refine c_false rfl ?_
        refine c_skip ?_
        refine q_then_n (hK13 _ _ ?_)
        refine c_seq (fun K18 hK18 => ?_)
        refine c_region ?_
        refine t_learn (fun _ h => aok_of h) (fun hok2 => ?_)
        have hok2la := hok2.la
        have hok2lq := hok2.lq
        have hgr := addS_len (max A 1) (max Q 0) s (((es).getD i (0, 0)).2)
        refine tp rfl (lv_move rfl) ?_
        refine tc rfl (en_fn Try.call16 rfl) (actives_ok (A := max A 1) (Q := max Q 0) (s := addS (max A 1) (max Q 0) s (((es).getD i (0, 0)).2)) (by omega)) ?_
        rintro _ _ ⟨bs79, cp80, hok81, hle82, rfl, rfl⟩
        refine tp rfl (lv_assign rfl) ?_
        refine t_done ?_
        refine q_then_n (hK18 _ _ ?_)
        refine c_seq (fun K19 hK19 => ?_)
        refine c_region ?_
        refine tp rfl (lv_move rfl) ?_
        refine t_f1 ?_
        refine tc rfl (en_fn Try.call17 rfl) (waiting_ok (A := max A 1) (Q := max Q 0) (s := addS (max A 1) (max Q 0) s (((es).getD i (0, 0)).2)) (by omega)) ?_
        rintro _ _ ⟨bs83, cp84, hok85, hle86, rfl, rfl⟩
        refine tp rfl (lv_assign rfl) ?_
        refine t_done ?_
        refine q_then_n (hK19 _ _ ?_)
        refine c_seq (fun K20 hK20 => ?_)
        refine c_seq (fun K21 hK21 => ?_)
        refine c_region ?_
        refine tp rfl (lv_move rfl) ?_
        refine tp rfl (lv_len Try.underlying27 rfl rfl) ?_
        refine tp rfl (lv_move rfl) ?_
        refine tp rfl (lv_max (c := max A 1) rfl rfl rfl) ?_
        refine tp rfl (lv_gtr rfl rfl (decide_eq_false (by omega))) ?_
        refine tp rfl (lv_move rfl) ?_
        refine t_guard rfl rfl ?_
        refine tp rfl (lv_move rfl) ?_
        refine t_guard rfl rfl ?_
        refine tp rfl (lv_len Try.underlying27 rfl rfl) ?_
        refine t_guard rfl rfl ?_
        refine tp rfl (lv_move rfl) ?_
        refine t_guard rfl rfl ?_
        refine tp rfl (lv_max (c := max Q 0) rfl rfl rfl) ?_
        refine t_guard rfl rfl ?_
        refine tp rfl (lv_gtr rfl rfl (decide_eq_false (by omega))) ?_
        refine tp rfl (lv_pick_f rfl rfl) ?_
        refine tp rfl (lv_move rfl) ?_
        refine t_guard rfl rfl ?_
        refine tp rfl (lv_move rfl) ?_
        refine t_guard rfl rfl ?_
        refine tp rfl (lv_len Try.underlying27 rfl rfl) ?_
        refine t_guard rfl rfl ?_
        by_cases h87 : ((((addS (max A 1) (max Q 0) s (((es).getD i (0, 0)).2)).q).length : Nat) : Int) > 0
        · -- yes
         refine tp rfl (lv_gtr rfl rfl (decide_eq_true h87)) ?_
         refine t_guard rfl rfl ?_
         refine tp rfl (lv_move rfl) ?_
         refine t_guard rfl rfl ?_
         refine tp rfl (lv_move rfl) ?_
         refine t_guard rfl rfl ?_
         refine tp rfl (lv_len Try.underlying27 rfl rfl) ?_
         refine t_guard rfl rfl ?_
         refine tp rfl (lv_move rfl) ?_
         refine t_guard rfl rfl ?_
         refine tp rfl (lv_max (c := max A 1) rfl rfl rfl) ?_
         refine t_guard rfl rfl ?_
         refine tp rfl (lv_neq rfl rfl (bne_eq_false_iff_eq.2 (hok2.full' (by omega)))) ?_
         refine t_guard rfl rfl ?_
         refine tp rfl (lv_pick_t rfl rfl) ?_
         refine tp rfl (lv_pick_f rfl rfl) ?_
         refine t_done ?_
         refine q_then_n (hK21 _ _ ?_)
         refine c_false rfl ?_
         refine c_skip ?_
         refine q_then_n (hK20 _ _ ?_)
         refine c_seq (fun K22 hK22 => ?_)
         refine c_region ?_
         refine tm rfl (mv_buildSlice (cs := []) Try.underlying27 Try.sizeOf3 Try.zeroValue3 (by decide) rfl rfl rfl rfl) ?_
         rintro _ _ ⟨bs88, cp89, hok90, hle91, rfl, rfl⟩
         refine tp rfl (lv_move rfl) ?_
         refine tm rfl (mv_append (i := Try.t3) Try.underlying27 Try.type3 rfl rfl rfl (by decide) rfl rfl hok81 (by simp) (rd_sl (.tail _ (.tail _ (.tail _ (.head _))))) ints_one (by rw [show Try.t3.bytes = 8 from rfl]; omega)) ?_
         rintro _ _ ⟨bs92, cp93, hok94, hle95, rfl, rfl⟩
         simp only [Nat.zero_add] at hok94 hle95 ⊢
         rw [List.nil_append]
         refine tp rfl (lv_move rfl) ?_
         refine tm rfl (mv_append (i := Try.t3) Try.underlying27 Try.type3 rfl rfl rfl (by decide) rfl rfl hok85 (by simp) (rd_sl (.tail _ (.head _))) ints_one (by rw [show Try.t3.bytes = 8 from rfl]; omega)) ?_
         rintro _ _ ⟨bs96, cp97, hok98, hle99, rfl, rfl⟩
         rw [← ints_append]
         refine tp rfl (lv_assign rfl) ?_
         refine t_done ?_
         refine q_then_n (hK22 _ _ ?_)
         refine c_seq (fun K23 hK23 => ?_)
         refine c_region ?_
         refine tp rfl (lv_assign rfl) ?_
         refine t_done ?_
         refine q_then_n (hK23 _ _ ?_)
         refine c_block ?_
         refine c_loop (γ := (Nat)) (fun (k : Nat) => k ≤ (((addS (max A 1) (max Q 0) s (((es).getD i (0, 0)).2)).a).length) + (((addS (max A 1) (max Q 0) s (((es).getD i (0, 0)).2)).q).length)) (fun (k : Nat) => [(0, (.int .i64 A)), (1, (.int .i64 Q)), (2, (.slice bl es.length cl)), (7, (.bool true)), (8, (.pointer (some ⟨p1, 0, none⟩))), (9, (.int .i64 ((i : Nat) : Int))), (11, (.bool true)), (17, (.int .i64 (addEr (max A 1) (max Q 0) s (((es).getD i (0, 0)).2)))), (19, (.bool (there (addS (max A 1) (max Q 0) s (((es).getD i (0, 0)).2)) (((es).getD i (0, 0)).2)))), (20, (.slice bs79 (((addS (max A 1) (max Q 0) s (((es).getD i (0, 0)).2)).a).length) cp80)), (21, (.slice bs83 (((addS (max A 1) (max Q 0) s (((es).getD i (0, 0)).2)).q).length) cp84)), (22, (.slice bs96 ((((addS (max A 1) (max Q 0) s (((es).getD i (0, 0)).2)).a).length) + (((addS (max A 1) (max Q 0) s (((es).getD i (0, 0)).2)).q).length)) cp97)), (23, (.int .i64 ((k : Nat) : Int))), (30, (.bool false)), (38, (.bool true)), (56, (.bool false)), (118, (.bool false)), (146, (.bool false))]) (fun (k : Nat) => (SlV 3 1 (.slice bs96 ((((addS (max A 1) (max Q 0) s (((es).getD i (0, 0)).2)).a).length) + (((addS (max A 1) (max Q 0) s (((es).getD i (0, 0)).2)).q).length)) cp97) ((((addS (max A 1) (max Q 0) s (((es).getD i (0, 0)).2)).a).length) + (((addS (max A 1) (max Q 0) s (((es).getD i (0, 0)).2)).q).length)) (ints .i64 (((addS (max A 1) (max Q 0) s (((es).getD i (0, 0)).2)).a) ++ ((addS (max A 1) (max Q 0) s (((es).getD i (0, 0)).2)).q)))) :: (SlV 3 1 (.slice bs83 (((addS (max A 1) (max Q 0) s (((es).getD i (0, 0)).2)).q).length) cp84) (((addS (max A 1) (max Q 0) s (((es).getD i (0, 0)).2)).q).length) (ints .i64 ((addS (max A 1) (max Q 0) s (((es).getD i (0, 0)).2)).q))) :: (AdmO p1 (max A 1) (max Q 0) (addS (max A 1) (max Q 0) s (((es).getD i (0, 0)).2))) :: (SlV 3 1 (.slice bs79 (((addS (max A 1) (max Q 0) s (((es).getD i (0, 0)).2)).a).length) cp80) (((addS (max A 1) (max Q 0) s (((es).getD i (0, 0)).2)).a).length) (ints .i64 ((addS (max A 1) (max Q 0) s (((es).getD i (0, 0)).2)).a))) :: R) (fun (k : Nat) => (((addS (max A 1) (max Q 0) s (((es).getD i (0, 0)).2)).a).length) + (((addS (max A 1) (max Q 0) s (((es).getD i (0, 0)).2)).q).length) - k) (0) (by omega) ⟨rfl, rfl, rfl, rfl, rfl, rfl, rfl, rfl, rfl, rfl, rfl, rfl, rfl, rfl, rfl, rfl, rfl, rfl, trivial⟩ (fun _ h => h) ?_
         rintro k K24 hF hK24
         try dsimp only at hF hK24 ⊢
         refine c_seq (fun K25 hK25 => ?_)
         refine c_seq (fun K26 hK26 => ?_)
         refine c_region ?_
         refine tp rfl (lv_move rfl) ?_
         refine tp rfl (lv_move rfl) ?_
         refine tp rfl (lv_len Try.underlying27 rfl rfl) ?_
         by_cases h100 : ((k : Nat) : Int) < (((((addS (max A 1) (max Q 0) s (((es).getD i (0, 0)).2)).a).length) + (((addS (max A 1) (max Q 0) s (((es).getD i (0, 0)).2)).q).length) : Nat) : Int)
         · -- yes
          refine tp rfl (lv_lss rfl rfl (decide_eq_true h100)) ?_
          refine t_done ?_
          refine q_then_n (hK26 _ _ ?_)
          refine c_true rfl ?_
          refine c_skip ?_
          refine q_then_n (hK25 _ _ ?_)
          refine c_seq (fun K27 hK27 => ?_)
          refine c_block ?_
          refine c_seq (fun K28 hK28 => ?_)
          refine c_region ?_
          refine tp rfl (lv_assign rfl) ?_
          refine t_done ?_
          refine q_then_n (hK28 _ _ ?_)
          refine c_block ?_
          refine c_loop (γ := (Nat)) (fun (m : Nat) => m ≤ k) (fun (m : Nat) => [(0, (.int .i64 A)), (1, (.int .i64 Q)), (2, (.slice bl es.length cl)), (7, (.bool true)), (8, (.pointer (some ⟨p1, 0, none⟩))), (9, (.int .i64 ((i : Nat) : Int))), (11, (.bool true)), (17, (.int .i64 (addEr (max A 1) (max Q 0) s (((es).getD i (0, 0)).2)))), (19, (.bool (there (addS (max A 1) (max Q 0) s (((es).getD i (0, 0)).2)) (((es).getD i (0, 0)).2)))), (20, (.slice bs79 (((addS (max A 1) (max Q 0) s (((es).getD i (0, 0)).2)).a).length) cp80)), (21, (.slice bs83 (((addS (max A 1) (max Q 0) s (((es).getD i (0, 0)).2)).q).length) cp84)), (22, (.slice bs96 ((((addS (max A 1) (max Q 0) s (((es).getD i (0, 0)).2)).a).length) + (((addS (max A 1) (max Q 0) s (((es).getD i (0, 0)).2)).q).length)) cp97)), (23, (.int .i64 ((k : Nat) : Int))), (24, (.int .i64 ((m : Nat) : Int))), (30, (.bool false)), (38, (.bool true)), (56, (.bool false)), (118, (.bool false)), (146, (.bool false)), (155, (.bool true))]) (fun (m : Nat) => (SlV 3 1 (.slice bs96 ((((addS (max A 1) (max Q 0) s (((es).getD i (0, 0)).2)).a).length) + (((addS (max A 1) (max Q 0) s (((es).getD i (0, 0)).2)).q).length)) cp97) ((((addS (max A 1) (max Q 0) s (((es).getD i (0, 0)).2)).a).length) + (((addS (max A 1) (max Q 0) s (((es).getD i (0, 0)).2)).q).length)) (ints .i64 (((addS (max A 1) (max Q 0) s (((es).getD i (0, 0)).2)).a) ++ ((addS (max A 1) (max Q 0) s (((es).getD i (0, 0)).2)).q)))) :: (SlV 3 1 (.slice bs83 (((addS (max A 1) (max Q 0) s (((es).getD i (0, 0)).2)).q).length) cp84) (((addS (max A 1) (max Q 0) s (((es).getD i (0, 0)).2)).q).length) (ints .i64 ((addS (max A 1) (max Q 0) s (((es).getD i (0, 0)).2)).q))) :: (AdmO p1 (max A 1) (max Q 0) (addS (max A 1) (max Q 0) s (((es).getD i (0, 0)).2))) :: (SlV 3 1 (.slice bs79 (((addS (max A 1) (max Q 0) s (((es).getD i (0, 0)).2)).a).length) cp80) (((addS (max A 1) (max Q 0) s (((es).getD i (0, 0)).2)).a).length) (ints .i64 ((addS (max A 1) (max Q 0) s (((es).getD i (0, 0)).2)).a))) :: R) (fun (m : Nat) => k - m) (0) (by omega) ⟨rfl, rfl, rfl, rfl, rfl, rfl, rfl, rfl, rfl, rfl, rfl, rfl, rfl, rfl, rfl, rfl, rfl, rfl, rfl, rfl, trivial⟩ (fun _ h => h) ?_
          rintro m K29 hF hK29
          try dsimp only at hF hK29 ⊢
          refine c_seq (fun K30 hK30 => ?_)
          refine c_seq (fun K31 hK31 => ?_)
          refine c_region ?_
          refine tp rfl (lv_move rfl) ?_
          refine tp rfl (lv_move rfl) ?_
          by_cases h101 : ((m : Nat) : Int) < ((k : Nat) : Int)
          · -- yes
           refine tp rfl (lv_lss rfl rfl (decide_eq_true h101)) ?_
           refine t_done ?_
           refine q_then_n (hK31 _ _ ?_)
           refine c_true rfl ?_
           refine c_skip ?_
           refine q_then_n (hK30 _ _ ?_)
           refine c_seq (fun K32 hK32 => ?_)
           refine c_block ?_
           refine c_seq (fun K33 hK33 => ?_)
           refine c_draw (γ := Unit) (n := 9) Try.mixed rfl rfl (fun _ S => True) (fun _ => [(0, 163, (.slice bs96 ((((addS (max A 1) (max Q 0) s (((es).getD i (0, 0)).2)).a).length) + (((addS (max A 1) (max Q 0) s (((es).getD i (0, 0)).2)).q).length)) cp97)), (1, 164, (.int .i64 ((k : Nat) : Int))), (2, 165, (.pointer (some (ad bs96 k)))), (3, 166, (.int .i64 ((((addS (max A 1) (max Q 0) s (((es).getD i (0, 0)).2)).a) ++ ((addS (max A 1) (max Q 0) s (((es).getD i (0, 0)).2)).q)).getD k 0))), (4, 167, (.slice bs96 ((((addS (max A 1) (max Q 0) s (((es).getD i (0, 0)).2)).a).length) + (((addS (max A 1) (max Q 0) s (((es).getD i (0, 0)).2)).q).length)) cp97)), (5, 168, (.int .i64 ((m : Nat) : Int))), (6, 169, (.pointer (some (ad bs96 m)))), (7, 170, (.int .i64 ((((addS (max A 1) (max Q 0) s (((es).getD i (0, 0)).2)).a) ++ ((addS (max A 1) (max Q 0) s (((es).getD i (0, 0)).2)).q)).getD m 0))), (8, 171, (.bool false))]) (fun _ S => (SlV 3 1 (.slice bs96 ((((addS (max A 1) (max Q 0) s (((es).getD i (0, 0)).2)).a).length) + (((addS (max A 1) (max Q 0) s (((es).getD i (0, 0)).2)).q).length)) cp97) ((((addS (max A 1) (max Q 0) s (((es).getD i (0, 0)).2)).a).length) + (((addS (max A 1) (max Q 0) s (((es).getD i (0, 0)).2)).q).length)) (ints .i64 (((addS (max A 1) (max Q 0) s (((es).getD i (0, 0)).2)).a) ++ ((addS (max A 1) (max Q 0) s (((es).getD i (0, 0)).2)).q)))) :: (SlV 3 1 (.slice bs83 (((addS (max A 1) (max Q 0) s (((es).getD i (0, 0)).2)).q).length) cp84) (((addS (max A 1) (max Q 0) s (((es).getD i (0, 0)).2)).q).length) (ints .i64 ((addS (max A 1) (max Q 0) s (((es).getD i (0, 0)).2)).q))) :: (AdmO p1 (max A 1) (max Q 0) (addS (max A 1) (max Q 0) s (((es).getD i (0, 0)).2))) :: (SlV 3 1 (.slice bs79 (((addS (max A 1) (max Q 0) s (((es).getD i (0, 0)).2)).a).length) cp80) (((addS (max A 1) (max Q 0) s (((es).getD i (0, 0)).2)).a).length) (ints .i64 ((addS (max A 1) (max Q 0) s (((es).getD i (0, 0)).2)).a))) :: R) (()) trivial (fun _ h => h) (fun _ _ h => h) ?_ ?_
           · -- steps
            refine ⟨?_, ?_, ?_, ?_, ?_, ?_, ?_, ?_, ?_, trivial⟩
            · -- 0
             rintro _ S hF hS D hp K hK
             try dsimp only at hF ⊢
             refine d_need (small := [(22, (.slice bs96 ((((addS (max A 1) (max Q 0) s (((es).getD i (0, 0)).2)).a).length) + (((addS (max A 1) (max Q 0) s (((es).getD i (0, 0)).2)).q).length)) cp97))]) ⟨look_b rfl rfl, trivial⟩ ?_
             refine tp rfl (lv_move rfl) ?_
             exact d_closes ⟨look_b rfl rfl, trivial⟩ 0 rfl rfl rfl hS (AgreeR.refl _) (t_sat (fun _ h => h) (hK () trivial))
            · -- 1
             rintro _ S hF hS D hp K hK
             try dsimp only at hF ⊢
             refine d_need (small := [(23, (.int .i64 ((k : Nat) : Int)))]) ⟨look_b rfl rfl, trivial⟩ ?_
             refine tp rfl (lv_move rfl) ?_
             exact d_closes ⟨look_b rfl rfl, trivial⟩ 1 rfl rfl rfl hS (AgreeR.refl _) (t_sat (fun _ h => h) (hK () trivial))
            · -- 2
             rintro _ S hF hS D hp K hK
             try dsimp only at hF ⊢
             have s0 := hp 0 rfl
             have s1 := hp 1 rfl
             refine d_need (small := [(163, (.slice bs96 ((((addS (max A 1) (max Q 0) s (((es).getD i (0, 0)).2)).a).length) + (((addS (max A 1) (max Q 0) s (((es).getD i (0, 0)).2)).q).length)) cp97)), (164, (.int .i64 ((k : Nat) : Int)))]) ⟨look_row rfl 0 rfl s0, look_row rfl 1 rfl s1, trivial⟩ ?_
             refine tp rfl (lv_indexAddr (k' := k) Try.underlying27 Try.sizeOf3 rfl rfl hok98 (by omega) (by omega) (by omega)) ?_
             exact d_closes ⟨look_row rfl 0 rfl s0, look_row rfl 1 rfl s1, trivial⟩ 2 rfl rfl rfl hS (AgreeR.refl _) (t_sat (fun _ h => h) (hK () trivial))
            · -- 3
             rintro _ S hF hS D hp K hK
             try dsimp only at hF ⊢
             have s2 := hp 2 rfl
             refine d_need (small := [(165, (.pointer (some (ad bs96 k))))]) ⟨look_row rfl 2 rfl s2, trivial⟩ ?_
             refine tp rfl (lv_load Try.isAgg3 rfl (gives_sl (.head _) (ints_get (by rw [List.length_append]; omega)))) ?_
             exact d_closes ⟨look_row rfl 2 rfl s2, trivial⟩ 3 rfl rfl rfl hS (AgreeR.refl _) (t_sat (fun _ h => h) (hK () trivial))
            · -- 4
             rintro _ S hF hS D hp K hK
             try dsimp only at hF ⊢
             refine d_need (small := [(22, (.slice bs96 ((((addS (max A 1) (max Q 0) s (((es).getD i (0, 0)).2)).a).length) + (((addS (max A 1) (max Q 0) s (((es).getD i (0, 0)).2)).q).length)) cp97))]) ⟨look_b rfl rfl, trivial⟩ ?_
             refine tp rfl (lv_move rfl) ?_
             exact d_closes ⟨look_b rfl rfl, trivial⟩ 4 rfl rfl rfl hS (AgreeR.refl _) (t_sat (fun _ h => h) (hK () trivial))
            · -- 5
             rintro _ S hF hS D hp K hK
             try dsimp only at hF ⊢
             refine d_need (small := [(24, (.int .i64 ((m : Nat) : Int)))]) ⟨look_b rfl rfl, trivial⟩ ?_
             refine tp rfl (lv_move rfl) ?_
             exact d_closes ⟨look_b rfl rfl, trivial⟩ 5 rfl rfl rfl hS (AgreeR.refl _) (t_sat (fun _ h => h) (hK () trivial))
            · -- 6
             rintro _ S hF hS D hp K hK
             try dsimp only at hF ⊢
             have s4 := hp 4 rfl
             have s5 := hp 5 rfl
             refine d_need (small := [(167, (.slice bs96 ((((addS (max A 1) (max Q 0) s (((es).getD i (0, 0)).2)).a).length) + (((addS (max A 1) (max Q 0) s (((es).getD i (0, 0)).2)).q).length)) cp97)), (168, (.int .i64 ((m : Nat) : Int)))]) ⟨look_row rfl 4 rfl s4, look_row rfl 5 rfl s5, trivial⟩ ?_
             refine tp rfl (lv_indexAddr (k' := m) Try.underlying27 Try.sizeOf3 rfl rfl hok98 (by omega) (by omega) (by omega)) ?_
             exact d_closes ⟨look_row rfl 4 rfl s4, look_row rfl 5 rfl s5, trivial⟩ 6 rfl rfl rfl hS (AgreeR.refl _) (t_sat (fun _ h => h) (hK () trivial))
            · -- 7
             rintro _ S hF hS D hp K hK
             try dsimp only at hF ⊢
             have s6 := hp 6 rfl
             refine d_need (small := [(169, (.pointer (some (ad bs96 m))))]) ⟨look_row rfl 6 rfl s6, trivial⟩ ?_
             refine tp rfl (lv_load Try.isAgg3 rfl (gives_sl (.head _) (ints_get (by rw [List.length_append]; omega)))) ?_
             exact d_closes ⟨look_row rfl 6 rfl s6, trivial⟩ 7 rfl rfl rfl hS (AgreeR.refl _) (t_sat (fun _ h => h) (hK () trivial))
            · -- 8
             rintro _ S hF hS D hp K hK
             try dsimp only at hF ⊢
             have s3 := hp 3 rfl
             have s7 := hp 7 rfl
             refine d_need (small := [(166, (.int .i64 ((((addS (max A 1) (max Q 0) s (((es).getD i (0, 0)).2)).a) ++ ((addS (max A 1) (max Q 0) s (((es).getD i (0, 0)).2)).q)).getD k 0))), (170, (.int .i64 ((((addS (max A 1) (max Q 0) s (((es).getD i (0, 0)).2)).a) ++ ((addS (max A 1) (max Q 0) s (((es).getD i (0, 0)).2)).q)).getD m 0)))]) ⟨look_row rfl 3 rfl s3, look_row rfl 7 rfl s7, trivial⟩ ?_
             refine tp rfl (lv_eql rfl rfl (beq_eq_false_iff_ne.2 (nodup_at hok2.nodup (by rw [List.length_append]; omega) (by omega)))) ?_
             exact d_closes ⟨look_row rfl 3 rfl s3, look_row rfl 7 rfl s7, trivial⟩ 8 rfl rfl rfl hS (AgreeR.refl _) (t_sat (fun _ h => h) (hK () trivial))
           · -- behind
            rintro _ hF
            try dsimp only at hF ⊢
            refine t_weak (E' := [(0, (.int .i64 A)), (1, (.int .i64 Q)), (2, (.slice bl es.length cl)), (7, (.bool true)), (8, (.pointer (some ⟨p1, 0, none⟩))), (9, (.int .i64 ((i : Nat) : Int))), (11, (.bool true)), (17, (.int .i64 (addEr (max A 1) (max Q 0) s (((es).getD i (0, 0)).2)))), (19, (.bool (there (addS (max A 1) (max Q 0) s (((es).getD i (0, 0)).2)) (((es).getD i (0, 0)).2)))), (20, (.slice bs79 (((addS (max A 1) (max Q 0) s (((es).getD i (0, 0)).2)).a).length) cp80)), (21, (.slice bs83 (((addS (max A 1) (max Q 0) s (((es).getD i (0, 0)).2)).q).length) cp84)), (22, (.slice bs96 ((((addS (max A 1) (max Q 0) s (((es).getD i (0, 0)).2)).a).length) + (((addS (max A 1) (max Q 0) s (((es).getD i (0, 0)).2)).q).length)) cp97)), (23, (.int .i64 ((k : Nat) : Int))), (24, (.int .i64 ((m : Nat) : Int))), (30, (.bool false)), (38, (.bool true)), (56, (.bool false)), (118, (.bool false)), (146, (.bool false)), (155, (.bool true)), (160, (.bool true)), (171, (.bool false))]) ⟨rfl, rfl, rfl, rfl, rfl, rfl, rfl, rfl, rfl, rfl, rfl, rfl, rfl, rfl, rfl, rfl, rfl, rfl, rfl, rfl, rfl, rfl, trivial⟩ ?_
            refine q_then_n (hK33 _ _ ?_)
            refine c_false rfl ?_
            refine c_skip ?_
            refine q_in_n ?_
            refine q_then_n (hK32 _ _ ?_)
            refine c_region ?_
            refine tp rfl (lv_move rfl) ?_
            refine tp rfl (lv_add (c := ((m + 1 : Nat) : Int)) rfl rfl (wr_i64_succ (by omega))) ?_
            refine tp rfl (lv_assign rfl) ?_
            refine t_done ?_
            refine q_then_n ?_
            exact t_weak (by exact ⟨rfl, rfl, rfl, rfl, rfl, rfl, rfl, rfl, rfl, rfl, rfl, rfl, rfl, rfl, rfl, rfl, rfl, rfl, rfl, rfl, trivial⟩) ((hK29 (m + 1) (by omega) (by omega)))
          · -- no
           refine tp rfl (lv_lss rfl rfl (decide_eq_false h101)) ?_
           refine t_done ?_
           refine q_then_n (hK31 _ _ ?_)
           refine c_false rfl ?_
           refine c_exit ?_
           refine q_then_x ?_
           refine q_then_x ?_
           refine q_in_x ?_
           refine q_in_n ?_
           refine q_then_n (hK27 _ _ ?_)
           refine c_region ?_
           refine tp rfl (lv_move rfl) ?_
           refine tp rfl (lv_add (c := ((k + 1 : Nat) : Int)) rfl rfl (wr_i64_succ (by omega))) ?_
           refine tp rfl (lv_assign rfl) ?_
           refine t_done ?_
           refine q_then_n ?_
           exact t_weak (by exact ⟨rfl, rfl, rfl, rfl, rfl, rfl, rfl, rfl, rfl, rfl, rfl, rfl, rfl, rfl, rfl, rfl, rfl, rfl, trivial⟩) ((hK24 (k + 1) (by omega) (by omega)))
         · -- no
          refine tp rfl (lv_lss rfl rfl (decide_eq_false h100)) ?_
          refine t_done ?_
          refine q_then_n (hK26 _ _ ?_)
          refine c_false rfl ?_
          refine c_exit ?_
          refine q_then_x ?_
          refine q_then_x ?_
          refine q_in_x ?_
          refine q_in_n ?_
          refine q_then_n (hK11 _ _ ?_)
          refine c_region ?_
          refine tp rfl (lv_move rfl) ?_
          refine tp rfl (lv_add (c := ((i + 1 : Nat) : Int)) rfl rfl (wr_i64_succ (by omega))) ?_
          refine tp rfl (lv_assign rfl) ?_
          refine t_done ?_
          refine q_then_n ?_
          refine t_drop ?_
          refine t_drop ?_
          refine t_f1 ?_
          refine t_drop ?_
          exact t_weak (by exact ⟨rfl, rfl, rfl, rfl, rfl, rfl, rfl, trivial⟩) ((hK8 (i + 1, addS (max A 1) (max Q 0) s (((es).getD i (0, 0)).2)) ⟨by omega, by omega, by dsimp only; omega⟩ (by dsimp only; omega)))
        · -- no
         refine tp rfl (lv_gtr rfl rfl (decide_eq_false h87)) ?_
         refine t_guard rfl rfl ?_
         refine tp rfl (lv_move rfl) ?_
         refine t_skip rfl rfl rfl ?_
         refine t_skip rfl rfl rfl ?_
         refine t_skip rfl rfl rfl ?_
         refine t_skip rfl rfl rfl ?_
         refine t_skip rfl rfl rfl ?_
         refine t_guard rfl rfl ?_
         refine tp rfl (lv_pick_f rfl rfl) ?_
         refine tp rfl (lv_pick_f rfl rfl) ?_
         refine t_done ?_
         refine q_then_n (hK21 _ _ ?_)
         refine c_false rfl ?_
         refine c_skip ?_
         refine q_then_n (hK20 _ _ ?_)
         refine c_seq (fun K22 hK22 => ?_)
         refine c_region ?_
         refine tm rfl (mv_buildSlice (cs := []) Try.underlying27 Try.sizeOf3 Try.zeroValue3 (by decide) rfl rfl rfl rfl) ?_
         rintro _ _ ⟨bs102, cp103, hok104, hle105, rfl, rfl⟩
         refine tp rfl (lv_move rfl) ?_
         refine tm rfl (mv_append (i := Try.t3) Try.underlying27 Try.type3 rfl rfl rfl (by decide) rfl rfl hok81 (by simp) (rd_sl (.tail _ (.tail _ (.tail _ (.head _))))) ints_one (by rw [show Try.t3.bytes = 8 from rfl]; omega)) ?_
         rintro _ _ ⟨bs106, cp107, hok108, hle109, rfl, rfl⟩
         simp only [Nat.zero_add] at hok108 hle109 ⊢
         rw [List.nil_append]
         refine tp rfl (lv_move rfl) ?_
         refine tm rfl (mv_append (i := Try.t3) Try.underlying27 Try.type3 rfl rfl rfl (by decide) rfl rfl hok85 (by simp) (rd_sl (.tail _ (.head _))) ints_one (by rw [show Try.t3.bytes = 8 from rfl]; omega)) ?_
         rintro _ _ ⟨bs110, cp111, hok112, hle113, rfl, rfl⟩
         rw [← ints_append]
         refine tp rfl (lv_assign rfl) ?_
         refine t_done ?_
         refine q_then_n (hK22 _ _ ?_)
         refine c_seq (fun K23 hK23 => ?_)
         refine c_region ?_
         refine tp rfl (lv_assign rfl) ?_
         refine t_done ?_
         refine q_then_n (hK23 _ _ ?_)
         refine c_block ?_
         refine c_loop (γ := (Nat)) (fun (k : Nat) => k ≤ (((addS (max A 1) (max Q 0) s (((es).getD i (0, 0)).2)).a).length) + (((addS (max A 1) (max Q 0) s (((es).getD i (0, 0)).2)).q).length)) (fun (k : Nat) => [(0, (.int .i64 A)), (1, (.int .i64 Q)), (2, (.slice bl es.length cl)), (7, (.bool true)), (8, (.pointer (some ⟨p1, 0, none⟩))), (9, (.int .i64 ((i : Nat) : Int))), (11, (.bool true)), (17, (.int .i64 (addEr (max A 1) (max Q 0) s (((es).getD i (0, 0)).2)))), (19, (.bool (there (addS (max A 1) (max Q 0) s (((es).getD i (0, 0)).2)) (((es).getD i (0, 0)).2)))), (20, (.slice bs79 (((addS (max A 1) (max Q 0) s (((es).getD i (0, 0)).2)).a).length) cp80)), (21, (.slice bs83 (((addS (max A 1) (max Q 0) s (((es).getD i (0, 0)).2)).q).length) cp84)), (22, (.slice bs110 ((((addS (max A 1) (max Q 0) s (((es).getD i (0, 0)).2)).a).length) + (((addS (max A 1) (max Q 0) s (((es).getD i (0, 0)).2)).q).length)) cp111)), (23, (.int .i64 ((k : Nat) : Int))), (30, (.bool false)), (38, (.bool true)), (56, (.bool false)), (118, (.bool false)), (146, (.bool false))]) (fun (k : Nat) => (SlV 3 1 (.slice bs110 ((((addS (max A 1) (max Q 0) s (((es).getD i (0, 0)).2)).a).length) + (((addS (max A 1) (max Q 0) s (((es).getD i (0, 0)).2)).q).length)) cp111) ((((addS (max A 1) (max Q 0) s (((es).getD i (0, 0)).2)).a).length) + (((addS (max A 1) (max Q 0) s (((es).getD i (0, 0)).2)).q).length)) (ints .i64 (((addS (max A 1) (max Q 0) s (((es).getD i (0, 0)).2)).a) ++ ((addS (max A 1) (max Q 0) s (((es).getD i (0, 0)).2)).q)))) :: (SlV 3 1 (.slice bs83 (((addS (max A 1) (max Q 0) s (((es).getD i (0, 0)).2)).q).length) cp84) (((addS (max A 1) (max Q 0) s (((es).getD i (0, 0)).2)).q).length) (ints .i64 ((addS (max A 1) (max Q 0) s (((es).getD i (0, 0)).2)).q))) :: (AdmO p1 (max A 1) (max Q 0) (addS (max A 1) (max Q 0) s (((es).getD i (0, 0)).2))) :: (SlV 3 1 (.slice bs79 (((addS (max A 1) (max Q 0) s (((es).getD i (0, 0)).2)).a).length) cp80) (((addS (max A 1) (max Q 0) s (((es).getD i (0, 0)).2)).a).length) (ints .i64 ((addS (max A 1) (max Q 0) s (((es).getD i (0, 0)).2)).a))) :: R) (fun (k : Nat) => (((addS (max A 1) (max Q 0) s (((es).getD i (0, 0)).2)).a).length) + (((addS (max A 1) (max Q 0) s (((es).getD i (0, 0)).2)).q).length) - k) (0) (by omega) ⟨rfl, rfl, rfl, rfl, rfl, rfl, rfl, rfl, rfl, rfl, rfl, rfl, rfl, rfl, rfl, rfl, rfl, rfl, trivial⟩ (fun _ h => h) ?_
         rintro k K24 hF hK24
         try dsimp only at hF hK24 ⊢
         refine c_seq (fun K25 hK25 => ?_)
         refine c_seq (fun K26 hK26 => ?_)
         refine c_region ?_
         refine tp rfl (lv_move rfl) ?_
         refine tp rfl (lv_move rfl) ?_
         refine tp rfl (lv_len Try.underlying27 rfl rfl) ?_
         by_cases h114 : ((k : Nat) : Int) < (((((addS (max A 1) (max Q 0) s (((es).getD i (0, 0)).2)).a).length) + (((addS (max A 1) (max Q 0) s (((es).getD i (0, 0)).2)).q).length) : Nat) : Int)
         · -- yes
          refine tp rfl (lv_lss rfl rfl (decide_eq_true h114)) ?_
          refine t_done ?_
          refine q_then_n (hK26 _ _ ?_)
          refine c_true rfl ?_
          refine c_skip ?_
          refine q_then_n (hK25 _ _ ?_)
          refine c_seq (fun K27 hK27 => ?_)
          refine c_block ?_
          refine c_seq (fun K28 hK28 => ?_)
          refine c_region ?_
          refine tp rfl (lv_assign rfl) ?_
          refine t_done ?_
          refine q_then_n (hK28 _ _ ?_)
          refine c_block ?_
          refine c_loop (γ := (Nat)) (fun (m : Nat) => m ≤ k) (fun (m : Nat) => [(0, (.int .i64 A)), (1, (.int .i64 Q)), (2, (.slice bl es.length cl)), (7, (.bool true)), (8, (.pointer (some ⟨p1, 0, none⟩))), (9, (.int .i64 ((i : Nat) : Int))), (11, (.bool true)), (17, (.int .i64 (addEr (max A 1) (max Q 0) s (((es).getD i (0, 0)).2)))), (19, (.bool (there (addS (max A 1) (max Q 0) s (((es).getD i (0, 0)).2)) (((es).getD i (0, 0)).2)))), (20, (.slice bs79 (((addS (max A 1) (max Q 0) s (((es).getD i (0, 0)).2)).a).length) cp80)), (21, (.slice bs83 (((addS (max A 1) (max Q 0) s (((es).getD i (0, 0)).2)).q).length) cp84)), (22, (.slice bs110 ((((addS (max A 1) (max Q 0) s (((es).getD i (0, 0)).2)).a).length) + (((addS (max A 1) (max Q 0) s (((es).getD i (0, 0)).2)).q).length)) cp111)), (23, (.int .i64 ((k : Nat) : Int))), (24, (.int .i64 ((m : Nat) : Int))), (30, (.bool false)), (38, (.bool true)), (56, (.bool false)), (118, (.bool false)), (146, (.bool false)), (155, (.bool true))]) (fun (m : Nat) => (SlV 3 1 (.slice bs110 ((((addS (max A 1) (max Q 0) s (((es).getD i (0, 0)).2)).a).length) + (((addS (max A 1) (max Q 0) s (((es).getD i (0, 0)).2)).q).length)) cp111) ((((addS (max A 1) (max Q 0) s (((es).getD i (0, 0)).2)).a).length) + (((addS (max A 1) (max Q 0) s (((es).getD i (0, 0)).2)).q).length)) (ints .i64 (((addS (max A 1) (max Q 0) s (((es).getD i (0, 0)).2)).a) ++ ((addS (max A 1) (max Q 0) s (((es).getD i (0, 0)).2)).q)))) :: (SlV 3 1 (.slice bs83 (((addS (max A 1) (max Q 0) s (((es).getD i (0, 0)).2)).q).length) cp84) (((addS (max A 1) (max Q 0) s (((es).getD i (0, 0)).2)).q).length) (ints .i64 ((addS (max A 1) (max Q 0) s (((es).getD i (0, 0)).2)).q))) :: (AdmO p1 (max A 1) (max Q 0) (addS (max A 1) (max Q 0) s (((es).getD i (0, 0)).2))) :: (SlV 3 1 (.slice bs79 (((addS (max A 1) (max Q 0) s (((es).getD i (0, 0)).2)).a).length) cp80) (((addS (max A 1) (max Q 0) s (((es).getD i (0, 0)).2)).a).length) (ints .i64 ((addS (max A 1) (max Q 0) s (((es).getD i (0, 0)).2)).a))) :: R) (fun (m : Nat) => k - m) (0) (by omega) ⟨rfl, rfl, rfl, rfl, rfl, rfl, rfl, rfl, rfl, rfl, rfl, rfl, rfl, rfl, rfl, rfl, rfl, rfl, rfl, rfl, trivial⟩ (fun _ h => h) ?_
          rintro m K29 hF hK29
          try dsimp only at hF hK29 ⊢
          refine c_seq (fun K30 hK30 => ?_)
          refine c_seq (fun K31 hK31 => ?_)
          refine c_region ?_
          refine tp rfl (lv_move rfl) ?_
          refine tp rfl (lv_move rfl) ?_
          by_cases h115 : ((m : Nat) : Int) < ((k : Nat) : Int)
          · -- yes
           refine tp rfl (lv_lss rfl rfl (decide_eq_true h115)) ?_
           refine t_done ?_
           refine q_then_n (hK31 _ _ ?_)
           refine c_true rfl ?_
           refine c_skip ?_
           refine q_then_n (hK30 _ _ ?_)
           refine c_seq (fun K32 hK32 => ?_)
           refine c_block ?_
           refine c_seq (fun K33 hK33 => ?_)
           refine c_draw (γ := Unit) (n := 9) Try.mixed rfl rfl (fun _ S => True) (fun _ => [(0, 163, (.slice bs110 ((((addS (max A 1) (max Q 0) s (((es).getD i (0, 0)).2)).a).length) + (((addS (max A 1) (max Q 0) s (((es).getD i (0, 0)).2)).q).length)) cp111)), (1, 164, (.int .i64 ((k : Nat) : Int))), (2, 165, (.pointer (some (ad bs110 k)))), (3, 166, (.int .i64 ((((addS (max A 1) (max Q 0) s (((es).getD i (0, 0)).2)).a) ++ ((addS (max A 1) (max Q 0) s (((es).getD i (0, 0)).2)).q)).getD k 0))), (4, 167, (.slice bs110 ((((addS (max A 1) (max Q 0) s (((es).getD i (0, 0)).2)).a).length) + (((addS (max A 1) (max Q 0) s (((es).getD i (0, 0)).2)).q).length)) cp111)), (5, 168, (.int .i64 ((m : Nat) : Int))), (6, 169, (.pointer (some (ad bs110 m)))), (7, 170, (.int .i64 ((((addS (max A 1) (max Q 0) s (((es).getD i (0, 0)).2)).a) ++ ((addS (max A 1) (max Q 0) s (((es).getD i (0, 0)).2)).q)).getD m 0))), (8, 171, (.bool false))]) (fun _ S => (SlV 3 1 (.slice bs110 ((((addS (max A 1) (max Q 0) s (((es).getD i (0, 0)).2)).a).length) + (((addS (max A 1) (max Q 0) s (((es).getD i (0, 0)).2)).q).length)) cp111) ((((addS (max A 1) (max Q 0) s (((es).getD i (0, 0)).2)).a).length) + (((addS (max A 1) (max Q 0) s (((es).getD i (0, 0)).2)).q).length)) (ints .i64 (((addS (max A 1) (max Q 0) s (((es).getD i (0, 0)).2)).a) ++ ((addS (max A 1) (max Q 0) s (((es).getD i (0, 0)).2)).q)))) :: (SlV 3 1 (.slice bs83 (((addS (max A 1) (max Q 0) s (((es).getD i (0, 0)).2)).q).length) cp84) (((addS (max A 1) (max Q 0) s (((es).getD i (0, 0)).2)).q).length) (ints .i64 ((addS (max A 1) (max Q 0) s (((es).getD i (0, 0)).2)).q))) :: (AdmO p1 (max A 1) (max Q 0) (addS (max A 1) (max Q 0) s (((es).getD i (0, 0)).2))) :: (SlV 3 1 (.slice bs79 (((addS (max A 1) (max Q 0) s (((es).getD i (0, 0)).2)).a).length) cp80) (((addS (max A 1) (max Q 0) s (((es).getD i (0, 0)).2)).a).length) (ints .i64 ((addS (max A 1) (max Q 0) s (((es).getD i (0, 0)).2)).a))) :: R) (()) trivial (fun _ h => h) (fun _ _ h => h) ?_ ?_
           · -- steps
            refine ⟨?_, ?_, ?_, ?_, ?_, ?_, ?_, ?_, ?_, trivial⟩
            · -- 0
             rintro _ S hF hS D hp K hK
             try dsimp only at hF ⊢
             refine d_need (small := [(22, (.slice bs110 ((((addS (max A 1) (max Q 0) s (((es).getD i (0, 0)).2)).a).length) + (((addS (max A 1) (max Q 0) s (((es).getD i (0, 0)).2)).q).length)) cp111))]) ⟨look_b rfl rfl, trivial⟩ ?_
             refine tp rfl (lv_move rfl) ?_
             exact d_closes ⟨look_b rfl rfl, trivial⟩ 0 rfl rfl rfl hS (AgreeR.refl _) (t_sat (fun _ h => h) (hK () trivial))
            · -- 1
             rintro _ S hF hS D hp K hK
             try dsimp only at hF ⊢
             refine d_need (small := [(23, (.int .i64 ((k : Nat) : Int)))]) ⟨look_b rfl rfl, trivial⟩ ?_
             refine tp rfl (lv_move rfl) ?_
             exact d_closes ⟨look_b rfl rfl, trivial⟩ 1 rfl rfl rfl hS (AgreeR.refl _) (t_sat (fun _ h => h) (hK () trivial))
            · -- 2
             rintro _ S hF hS D hp K hK
             try dsimp only at hF ⊢
             have s0 := hp 0 rfl
             have s1 := hp 1 rfl
             refine d_need (small := [(163, (.slice bs110 ((((addS (max A 1) (max Q 0) s (((es).getD i (0, 0)).2)).a).length) + (((addS (max A 1) (max Q 0) s (((es).getD i (0, 0)).2)).q).length)) cp111)), (164, (.int .i64 ((k : Nat) : Int)))]) ⟨look_row rfl 0 rfl s0, look_row rfl 1 rfl s1, trivial⟩ ?_
             refine tp rfl (lv_indexAddr (k' := k) Try.underlying27 Try.sizeOf3 rfl rfl hok112 (by omega) (by omega) (by omega)) ?_
             exact d_closes ⟨look_row rfl 0 rfl s0, look_row rfl 1 rfl s1, trivial⟩ 2 rfl rfl rfl hS (AgreeR.refl _) (t_sat (fun _ h => h) (hK () trivial))
            · -- 3
             rintro _ S hF hS D hp K hK
             try dsimp only at hF ⊢
             have s2 := hp 2 rfl
             refine d_need (small := [(165, (.pointer (some (ad bs110 k))))]) ⟨look_row rfl 2 rfl s2, trivial⟩ ?_
             refine tp rfl (lv_load Try.isAgg3 rfl (gives_sl (.head _) (ints_get (by rw [List.length_append]; omega)))) ?_
             exact d_closes ⟨look_row rfl 2 rfl s2, trivial⟩ 3 rfl rfl rfl hS (AgreeR.refl _) (t_sat (fun _ h => h) (hK () trivial))
            · -- 4
             rintro _ S hF hS D hp K hK
             try dsimp only at hF ⊢
             refine d_need (small := [(22, (.slice bs110 ((((addS (max A 1) (max Q 0) s (((es).getD i (0, 0)).2)).a).length) + (((addS (max A 1) (max Q 0) s (((es).getD i (0, 0)).2)).q).length)) cp111))]) ⟨look_b rfl rfl, trivial⟩ ?_
             refine tp rfl (lv_move rfl) ?_
             exact d_closes ⟨look_b rfl rfl, trivial⟩ 4 rfl rfl rfl hS (AgreeR.refl _) (t_sat (fun _ h => h) (hK () trivial))
            · -- 5
             rintro _ S hF hS D hp K hK
             try dsimp only at hF ⊢
             refine d_need (small := [(24, (.int .i64 ((m : Nat) : Int)))]) ⟨look_b rfl rfl, trivial⟩ ?_
             refine tp rfl (lv_move rfl) ?_
             exact d_closes ⟨look_b rfl rfl, trivial⟩ 5 rfl rfl rfl hS (AgreeR.refl _) (t_sat (fun _ h => h) (hK () trivial))
            · -- 6
             rintro _ S hF hS D hp K hK
             try dsimp only at hF ⊢
             have s4 := hp 4 rfl
             have s5 := hp 5 rfl
             refine d_need (small := [(167, (.slice bs110 ((((addS (max A 1) (max Q 0) s (((es).getD i (0, 0)).2)).a).length) + (((addS (max A 1) (max Q 0) s (((es).getD i (0, 0)).2)).q).length)) cp111)), (168, (.int .i64 ((m : Nat) : Int)))]) ⟨look_row rfl 4 rfl s4, look_row rfl 5 rfl s5, trivial⟩ ?_
             refine tp rfl (lv_indexAddr (k' := m) Try.underlying27 Try.sizeOf3 rfl rfl hok112 (by omega) (by omega) (by omega)) ?_
             exact d_closes ⟨look_row rfl 4 rfl s4, look_row rfl 5 rfl s5, trivial⟩ 6 rfl rfl rfl hS (AgreeR.refl _) (t_sat (fun _ h => h) (hK () trivial))
            · -- 7
             rintro _ S hF hS D hp K hK
             try dsimp only at hF ⊢
             have s6 := hp 6 rfl
             refine d_need (small := [(169, (.pointer (some (ad bs110 m))))]) ⟨look_row rfl 6 rfl s6, trivial⟩ ?_
             refine tp rfl (lv_load Try.isAgg3 rfl (gives_sl (.head _) (ints_get (by rw [List.length_append]; omega)))) ?_
             exact d_closes ⟨look_row rfl 6 rfl s6, trivial⟩ 7 rfl rfl rfl hS (AgreeR.refl _) (t_sat (fun _ h => h) (hK () trivial))
            · -- 8
             rintro _ S hF hS D hp K hK
             try dsimp only at hF ⊢
             have s3 := hp 3 rfl
             have s7 := hp 7 rfl
             refine d_need (small := [(166, (.int .i64 ((((addS (max A 1) (max Q 0) s (((es).getD i (0, 0)).2)).a) ++ ((addS (max A 1) (max Q 0) s (((es).getD i (0, 0)).2)).q)).getD k 0))), (170, (.int .i64 ((((addS (max A 1) (max Q 0) s (((es).getD i (0, 0)).2)).a) ++ ((addS (max A 1) (max Q 0) s (((es).getD i (0, 0)).2)).q)).getD m 0)))]) ⟨look_row rfl 3 rfl s3, look_row rfl 7 rfl s7, trivial⟩ ?_
             refine tp rfl (lv_eql rfl rfl (beq_eq_false_iff_ne.2 (nodup_at hok2.nodup (by rw [List.length_append]; omega) (by omega)))) ?_
             exact d_closes ⟨look_row rfl 3 rfl s3, look_row rfl 7 rfl s7, trivial⟩ 8 rfl rfl rfl hS (AgreeR.refl _) (t_sat (fun _ h => h) (hK () trivial))
           · -- behind
            rintro _ hF
            try dsimp only at hF ⊢
            refine t_weak (E' := [(0, (.int .i64 A)), (1, (.int .i64 Q)), (2, (.slice bl es.length cl)), (7, (.bool true)), (8, (.pointer (some ⟨p1, 0, none⟩))), (9, (.int .i64 ((i : Nat) : Int))), (11, (.bool true)), (17, (.int .i64 (addEr (max A 1) (max Q 0) s (((es).getD i (0, 0)).2)))), (19, (.bool (there (addS (max A 1) (max Q 0) s (((es).getD i (0, 0)).2)) (((es).getD i (0, 0)).2)))), (20, (.slice bs79 (((addS (max A 1) (max Q 0) s (((es).getD i (0, 0)).2)).a).length) cp80)), (21, (.slice bs83 (((addS (max A 1) (max Q 0) s (((es).getD i (0, 0)).2)).q).length) cp84)), (22, (.slice bs110 ((((addS (max A 1) (max Q 0) s (((es).getD i (0, 0)).2)).a).length) + (((addS (max A 1) (max Q 0) s (((es).getD i (0, 0)).2)).q).length)) cp111)), (23, (.int .i64 ((k : Nat) : Int))), (24, (.int .i64 ((m : Nat) : Int))), (30, (.bool false)), (38, (.bool true)), (56, (.bool false)), (118, (.bool false)), (146, (.bool false)), (155, (.bool true)), (160, (.bool true)), (171, (.bool false))]) ⟨rfl, rfl, rfl, rfl, rfl, rfl, rfl, rfl, rfl, rfl, rfl, rfl, rfl, rfl, rfl, rfl, rfl, rfl, rfl, rfl, rfl, rfl, trivial⟩ ?_
            refine q_then_n (hK33 _ _ ?_)
            refine c_false rfl ?_
            refine c_skip ?_
            refine q_in_n ?_
            refine q_then_n (hK32 _ _ ?_)
            refine c_region ?_
            refine tp rfl (lv_move rfl) ?_
            refine tp rfl (lv_add (c := ((m + 1 : Nat) : Int)) rfl rfl (wr_i64_succ (by omega))) ?_
            refine tp rfl (lv_assign rfl) ?_
            refine t_done ?_
            refine q_then_n ?_
            exact t_weak (by exact ⟨rfl, rfl, rfl, rfl, rfl, rfl, rfl, rfl, rfl, rfl, rfl, rfl, rfl, rfl, rfl, rfl, rfl, rfl, rfl, rfl, trivial⟩) ((hK29 (m + 1) (by omega) (by omega)))
          · -- no
           refine tp rfl (lv_lss rfl rfl (decide_eq_false h115)) ?_
           refine t_done ?_
           refine q_then_n (hK31 _ _ ?_)
           refine c_false rfl ?_
           refine c_exit ?_
           refine q_then_x ?_
           refine q_then_x ?_
           refine q_in_x ?_
           refine q_in_n ?_
           refine q_then_n (hK27 _ _ ?_)
           refine c_region ?_
           refine tp rfl (lv_move rfl) ?_
           refine tp rfl (lv_add (c := ((k + 1 : Nat) : Int)) rfl rfl (wr_i64_succ (by omega))) ?_
           refine tp rfl (lv_assign rfl) ?_
           refine t_done ?_
           refine q_then_n ?_
           exact t_weak (by exact ⟨rfl, rfl, rfl, rfl, rfl, rfl, rfl, rfl, rfl, rfl, rfl, rfl, rfl, rfl, rfl, rfl, rfl, rfl, trivial⟩) ((hK24 (k + 1) (by omega) (by omega)))
         · -- no
          refine tp rfl (lv_lss rfl rfl (decide_eq_false h114)) ?_
          refine t_done ?_
          refine q_then_n (hK26 _ _ ?_)
          refine c_false rfl ?_
          refine c_exit ?_
          refine q_then_x ?_
          refine q_then_x ?_
          refine q_in_x ?_
          refine q_in_n ?_
          refine q_then_n (hK11 _ _ ?_)
          refine c_region ?_
          refine tp rfl (lv_move rfl) ?_
          refine tp rfl (lv_add (c := ((i + 1 : Nat) : Int)) rfl rfl (wr_i64_succ (by omega))) ?_
          refine tp rfl (lv_assign rfl) ?_
          refine t_done ?_
          refine q_then_n ?_
          refine t_drop ?_
          refine t_drop ?_
          refine t_f1 ?_
          refine t_drop ?_
          exact t_weak (by exact ⟨rfl, rfl, rfl, rfl, rfl, rfl, rfl, trivial⟩) ((hK8 (i + 1, addS (max A 1) (max Q 0) s (((es).getD i (0, 0)).2)) ⟨by omega, by omega, by dsimp only; omega⟩ (by dsimp only; omega)))
  · -- not both
    refine t_cut0 (E' := [(0, (.int .i64 A)), (1, (.int .i64 Q)), (2, (.slice bl es.length cl)), (7, (.bool true)), (8, (.pointer (some ⟨p1, 0, none⟩))), (9, (.int .i64 ((i : Nat) : Int))), (30, (.bool false)), (38, (.bool false))]) ?_ (fun KK hKK => ?_)
    ·
      refine q_then_n (hK10 _ _ ?_)
      refine c_false rfl ?_
      refine c_exit ?_
      refine q_then_x ?_
      refine q_then_x ?_
      refine q_in_x ?_
      refine q_then_n (hK6 _ _ ?_)
      refine c_seq (fun K11 hK11 => ?_)
      refine c_region ?_
      refine tp rfl (lv_move rfl) ?_
      refine tp rfl (lv_assign rfl) ?_
      refine t_done ?_
      refine q_then_n (hK11 _ _ ?_)
      refine c_ret ?_
      refine t_drop ?_
      refine q_ret rfl rfl ?_
      exact ⟨rfl, rfl⟩
    · -- which
      by_cases hc2A : ((i : Nat) : Int) < ((es.length : Nat) : Int)
      ·
        have hc2B : ¬ (((i : Nat) : Int) < 200) := fun hh => hc2 ⟨hc2A, hh⟩
        refine tp rfl (lv_move rfl) ?_
        refine tp rfl (lv_move rfl) ?_
        refine tp rfl (lv_len Try.underlying22 rfl rfl) ?_
        refine tp rfl (lv_lss rfl rfl (decide_eq_true hc2A)) ?_
        refine tp rfl (lv_move rfl) ?_
        refine t_guard rfl rfl ?_
        refine tp rfl (lv_move rfl) ?_
        refine t_guard rfl rfl ?_
        refine tp rfl (lv_lss rfl rfl (decide_eq_false hc2B)) ?_
        refine tp rfl (lv_pick_t rfl rfl) ?_
        exact t_done (t_weak (by exact ⟨rfl, rfl, rfl, rfl, rfl, rfl, rfl, rfl, trivial⟩) hKK)
      ·
        refine tp rfl (lv_move rfl) ?_
        refine tp rfl (lv_move rfl) ?_
        refine tp rfl (lv_len Try.underlying22 rfl rfl) ?_
        refine tp rfl (lv_lss rfl rfl (decide_eq_false hc2A)) ?_
        refine tp rfl (lv_move rfl) ?_
        refine t_skip rfl rfl rfl ?_
        refine t_skip rfl rfl rfl ?_
        refine tp rfl (lv_pick_f rfl rfl) ?_
        exact t_done (t_weak (by exact ⟨rfl, rfl, rfl, rfl, rfl, rfl, rfl, rfl, trivial⟩) hKK)
end Go.Proofs.Ythhmdcbhgnoemaa
