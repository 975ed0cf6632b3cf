/- AdmitNames: the law's walk. -/
import Derived.Test.YthhmdcbhgnoemaaLa
import Derived.Test.YthhmdcbhgnoemaaAdm2
set_option maxRecDepth 100000
set_option linter.unusedVariables false
set_option linter.unusedSimpArgs false
namespace Go.Proofs.Ythhmdcbhgnoemaa
open Go Go.Proofs Sp
set_option maxHeartbeats 4000000 in
theorem names_ok {R : List HP} {bl : Option Addr} {cl : Nat} (A Q : Int) (es : List (Int × Int)) (hl : Rd R bl (pairs es)) (okl : SlOk bl es.length) (ll : es.length ≤ 9223372036854775807) (by_ : Int) (hby : 0 ≤ by_ ∧ by_ ≤ 255) :
    Ok Try.prog 6 [(.int .i64 A), (.int .i64 Q), (.slice bl es.length cl), (.int .u8 by_)] R
      (fun v M => v = .bool true ∧ M = R) := by
  refine ok_of (N := 170) Try.func6 rfl rfl rfl (fun W => ?_)
  refine c_seq (fun K1 hK1 => ?_)
  refine c_region ?_
  refine tp rfl (lv_assign rfl) ?_
  refine t_done ?_
  refine q_then_n (hK1 _ _ ?_)
  refine c_seq (fun K2 hK2 => ?_)
  refine c_region ?_
  refine tc rfl (en_fn Try.call10 rfl) (shown_ok) ?_
  rintro _ _ ⟨rfl, hMR⟩
  rw [hMR]; clear hMR
  refine tp rfl (lv_assign rfl) ?_
  refine t_done ?_
  refine q_then_n (hK2 _ _ ?_)
  refine c_seq (fun K3 hK3 => ?_)
  refine c_region ?_
  refine tp rfl (lv_move rfl) ?_
  refine tp rfl (lv_move rfl) ?_
  refine tc rfl (en_fn Try.call11 rfl) (anew_ok A Q) ?_
  rintro _ _ ⟨p1, rfl, rfl⟩
  refine tp rfl (lv_assign rfl) ?_
  refine t_done ?_
  refine q_then_n (hK3 _ _ ?_)
  refine c_seq (fun K4 hK4 => ?_)
  refine c_region ?_
  refine tp rfl (lv_move rfl) ?_
  refine tp rfl (lv_move rfl) ?_
  refine tc rfl (en_fn Try.call11 rfl) (anew_ok A Q) ?_
  rintro _ _ ⟨p2, rfl, rfl⟩
  refine tp rfl (lv_assign rfl) ?_
  refine t_done ?_
  refine q_then_n (hK4 _ _ ?_)
  refine c_seq (fun K5 hK5 => ?_)
  refine c_seq (fun K6 hK6 => ?_)
  refine c_region ?_
  refine tp rfl (lv_move rfl) ?_
  refine tp rfl (lv_eqnil Try.underlying24 rfl rfl) ?_
  refine tp rfl (lv_move rfl) ?_
  refine t_guard rfl rfl ?_
  refine tp rfl (lv_move rfl) ?_
  refine t_guard rfl rfl ?_
  refine tp rfl (lv_eqnil Try.underlying24 rfl rfl) ?_
  refine tp rfl (lv_pick_f rfl rfl) ?_
  refine t_done ?_
  refine q_then_n (hK6 _ _ ?_)
  refine c_false rfl ?_
  refine c_skip ?_
  refine q_then_n (hK5 _ _ ?_)
  refine c_seq (fun K7 hK7 => ?_)
  refine c_region ?_
  refine tp rfl (lv_move rfl) ?_
  refine tp rfl (lv_convert (c := by_) Try.underlying5 Try.underlying3 rfl (wr_i64 (by omega) (by omega))) ?_
  refine tp rfl (lv_assign rfl) ?_
  refine t_done ?_
  refine q_then_n (hK7 _ _ ?_)
  refine c_seq (fun K8 hK8 => ?_)
  refine c_seq (fun K9 hK9 => ?_)
  refine c_region ?_
  refine tp rfl (lv_assign rfl) ?_
  refine t_done ?_
  refine q_then_n (hK9 _ _ ?_)
  refine c_block ?_
  refine c_loop (γ := (Nat) × (AS)) (fun (i, s) => i ≤ es.length ∧ i ≤ 100 ∧ s.a.length + s.q.length ≤ i ∧ (∀ y ∈ s.a ++ s.q, 0 ≤ y ∧ y ≤ 65535)) (fun (i, s) => [(0, (.int .i64 A)), (1, (.int .i64 Q)), (2, (.slice bl es.length cl)), (3, (.int .u8 by_)), (9, (.bool true)), (10, (.pointer (some ⟨p1, 0, none⟩))), (11, (.pointer (some ⟨p2, 0, none⟩))), (12, (.int .i64 by_)), (13, (.int .i64 ((i : Nat) : Int))), (38, (.bool false))]) (fun (i, s) => (AdmO p2 (max A 1) (max Q 0) (shS by_ s)) :: (AdmO p1 (max A 1) (max Q 0) s) :: R) (fun (i, s) => es.length - i) (0, ⟨[], []⟩) ⟨by omega, by omega, by decide, fun y hy => by cases hy⟩ ⟨rfl, rfl, rfl, rfl, rfl, rfl, rfl, rfl, rfl, rfl, trivial⟩ (fun _ h => h) ?_
  rintro ⟨i, s⟩ K10 hF hK10
  try dsimp only at hF hK10 ⊢
  obtain ⟨hi, hi2, hsl, hall⟩ := hF
  refine c_seq (fun K11 hK11 => ?_)
  refine c_seq (fun K12 hK12 => ?_)
  refine c_region ?_
  by_cases hc3 : ((i : Nat) : Int) < ((es.length : Nat) : Int) ∧ ((i : Nat) : Int) < 100
  · -- both
    have hc3a := hc3.1
    have hc3b := hc3.2
    refine tp rfl (lv_move rfl) ?_
    refine tp rfl (lv_move rfl) ?_
    refine tp rfl (lv_len Try.underlying22 rfl rfl) ?_
    refine tp rfl (lv_lss rfl rfl (decide_eq_true hc3.1)) ?_
    refine tp rfl (lv_move rfl) ?_
    refine t_guard rfl rfl ?_
    refine tp rfl (lv_move rfl) ?_
    refine t_guard rfl rfl ?_
    refine tp rfl (lv_lss rfl rfl (decide_eq_true hc3.2)) ?_
    refine tp rfl (lv_pick_t rfl rfl) ?_
    refine t_done ?_
    refine q_then_n (hK12 _ _ ?_)
    refine c_true rfl ?_
    refine c_skip ?_
    refine q_then_n (hK11 _ _ ?_)
    refine c_seq (fun K13 hK13 => ?_)
    refine c_block ?_
    refine c_seq (fun K14 hK14 => ?_)
    refine c_region ?_
    refine tp rfl (lv_move rfl) ?_
    refine tp rfl (lv_move rfl) ?_
    refine tp rfl (lv_indexAddr (k' := i * 2) Try.underlying22 Try.sizeOf31 rfl rfl okl (by omega) (by omega) (by omega)) ?_
    refine tp rfl (lv_fieldAddr_ad (o' := i * 2 + 1) Try.underlying31 rfl Try.sizeOf3 rfl rfl) ?_
    refine tp rfl (lv_load Try.isAgg3 rfl (Rd.gives (Rd.cons (Rd.cons hl)) (pairs_get1 (by omega)))) ?_
    refine tp rfl (lv_and (c := ((es).getD i (0, 0)).2 % 65536) rfl rfl (and_ffff _)) ?_
    refine tp rfl (lv_assign rfl) ?_
    refine t_done ?_
    refine q_then_n (hK14 _ _ ?_)
    refine c_seq (fun K15 hK15 => ?_)
    refine c_seq (fun K16 hK16 => ?_)
    refine c_region ?_
    have hid : 0 ≤ ((es).getD i (0, 0)).2 % 65536 ∧ ((es).getD i (0, 0)).2 % 65536 ≤ 65535 := by omega
    have hidl := shS_la by_ s
    have hidq := shS_lq by_ s
    refine tp rfl (lv_move rfl) ?_
    refine tp rfl (lv_move rfl) ?_
    refine tp rfl (lv_indexAddr (k' := i * 2) Try.underlying22 Try.sizeOf31 rfl rfl okl (by omega) (by omega) (by omega)) ?_
    refine tp rfl (lv_fieldAddr_ad (o' := i * 2) Try.underlying31 rfl Try.sizeOf3 rfl rfl) ?_
    refine tp rfl (lv_load Try.isAgg3 rfl (Rd.gives (Rd.cons (Rd.cons hl)) (pairs_get0 (by omega)))) ?_
    by_cases h4 : (((es).getD i (0, 0)).1) = 3
    · -- yes
      refine tp rfl (lv_eql rfl rfl (beq_iff_eq.2 h4)) ?_
      refine t_done ?_
      refine q_then_n (hK16 _ _ ?_)
      refine c_true rfl ?_
      refine c_seq (fun K17 hK17 => ?_)
      refine c_region ?_
      refine tp rfl (lv_move rfl) ?_
      refine tp rfl (lv_move rfl) ?_
      refine t_f1 ?_
      refine tc rfl (en_fn Try.call14 rfl) (aend_ok (A := max A 1) (Q := max Q 0) (s := s) (((es).getD i (0, 0)).2 % 65536) (by omega)) ?_
      rintro _ _ ⟨rfl, rfl⟩
      refine tp rfl (lv_move rfl) ?_
      refine tp rfl (lv_extract rfl rfl) ?_
      refine tp rfl (lv_extract rfl rfl) ?_
      refine tp rfl (lv_assign rfl) ?_
      refine tp rfl (lv_assign rfl) ?_
      refine t_done ?_
      refine q_then_n (hK17 _ _ ?_)
      refine c_seq (fun K18 hK18 => ?_)
      refine c_region ?_
      refine tp rfl (lv_move rfl) ?_
      refine tp rfl (lv_move rfl) ?_
      refine tp rfl (lv_move rfl) ?_
      refine tp rfl (lv_add (c := (((es).getD i (0, 0)).2 % 65536) + by_) rfl rfl (wr_i64 (by omega) (by omega))) ?_
      refine t_f1 ?_
      refine tc rfl (en_fn Try.call14 rfl) (aend_ok (A := max A 1) (Q := max Q 0) (s := shS by_ s) ((((es).getD i (0, 0)).2 % 65536) + by_) (by omega)) ?_
      rintro _ _ ⟨rfl, rfl⟩
      rw [show endS (shS by_ s) ((((es).getD i (0, 0)).2 % 65536) + by_) = shS by_ (endS s (((es).getD i (0, 0)).2 % 65536)) from (endS_sh _ _ _)]
      rw [show endEr (shS by_ s) ((((es).getD i (0, 0)).2 % 65536) + by_) = endEr s (((es).getD i (0, 0)).2 % 65536) from (endEr_sh _ _ _)]
      refine tp rfl (lv_move rfl) ?_
      refine tp rfl (lv_extract rfl rfl) ?_
      refine tp rfl (lv_extract rfl rfl) ?_
      refine tp rfl (lv_assign rfl) ?_
      refine tp rfl (lv_assign rfl) ?_
      refine t_done ?_
      refine q_then_n (hK18 _ _ ?_)
      refine c_seq (fun K19 hK19 => ?_)
      rcases end_cases by_ (fun y hy => (hall y hy).1) (((es).getD i (0, 0)).2 % 65536) with ⟨e1, e2, e3⟩ | ⟨e1, e2, e3⟩ | ⟨n, hn, hnm, e1, e2, e3⟩
      · -- 0
        rw [e1]
        rw [e2]
        rw [e3]
        refine c_region ?_
        refine tp rfl (lv_move rfl) ?_
        refine tp rfl (lv_move rfl) ?_
        refine tp rfl (lv_neq (r := false) rfl rfl (by decide)) ?_
        refine tp rfl (lv_move rfl) ?_
        refine t_guard rfl rfl ?_
        refine tp rfl (lv_move rfl) ?_
        refine t_guard rfl rfl ?_
        refine tp rfl (lv_gtr (r := false) rfl rfl (by decide)) ?_
        refine t_guard rfl rfl ?_
        refine tp rfl (lv_move rfl) ?_
        refine t_skip rfl rfl rfl ?_
        refine t_skip rfl rfl rfl ?_
        refine t_skip rfl rfl rfl ?_
        refine t_skip rfl rfl rfl ?_
        refine t_skip rfl rfl rfl ?_
        refine t_guard rfl rfl ?_
        refine tp rfl (lv_pick_f rfl rfl) ?_
        refine tp rfl (lv_pick_f rfl rfl) ?_
        refine tp rfl (lv_move rfl) ?_
        refine t_guard rfl rfl ?_
        refine tp rfl (lv_move rfl) ?_
        refine t_guard rfl rfl ?_
        refine tp rfl (lv_eql (r := false) rfl rfl (by decide)) ?_
        refine t_guard rfl rfl ?_
        refine tp rfl (lv_move rfl) ?_
        refine t_skip rfl rfl rfl ?_
        refine t_skip rfl rfl rfl ?_
        refine t_guard rfl rfl ?_
        refine tp rfl (lv_pick_f rfl rfl) ?_
        refine tp rfl (lv_pick_f rfl rfl) ?_
        refine tp rfl (lv_move rfl) ?_
        refine t_guard rfl rfl ?_
        refine tp rfl (lv_move rfl) ?_
        refine t_guard rfl rfl ?_
        refine tp rfl (lv_eql (r := true) rfl rfl (by decide)) ?_
        refine t_guard rfl rfl ?_
        refine tp rfl (lv_move rfl) ?_
        refine t_guard rfl rfl ?_
        refine tp rfl (lv_move rfl) ?_
        refine t_guard rfl rfl ?_
        refine tp rfl (lv_eql (r := false) rfl rfl (by decide)) ?_
        refine t_guard rfl rfl ?_
        refine tp rfl (lv_pick_t rfl rfl) ?_
        refine t_guard rfl rfl ?_
        refine tp rfl (lv_move rfl) ?_
        refine t_skip rfl rfl rfl ?_
        refine t_skip rfl rfl rfl ?_
        refine t_skip rfl rfl rfl ?_
        refine t_guard rfl rfl ?_
        refine tp rfl (lv_pick_f rfl rfl) ?_
        refine tp rfl (lv_pick_f rfl rfl) ?_
        refine t_done ?_
        refine q_then_n (hK19 _ _ ?_)
        refine c_false rfl ?_
        refine c_skip ?_
        refine q_then_n (hK15 _ _ ?_)
        refine c_seq (fun K20 hK20 => ?_)
        refine c_region ?_
        have hnx : ∀ y ∈ (endS s (((es).getD i (0, 0)).2 % 65536)).a ++ (endS s (((es).getD i (0, 0)).2 % 65536)).q, 0 ≤ y ∧ y ≤ 65535 := endS_all hall
        have hgr := endS_len s (((es).getD i (0, 0)).2 % 65536)
        have hla2 := shS_la by_ (endS s (((es).getD i (0, 0)).2 % 65536))
        have hlq2 := shS_lq by_ (endS s (((es).getD i (0, 0)).2 % 65536))
        refine tp rfl (lv_move rfl) ?_
        refine t_f1 ?_
        refine tc rfl (en_fn Try.call16 rfl) (actives_ok (A := max A 1) (Q := max Q 0) (s := endS s (((es).getD i (0, 0)).2 % 65536)) (by omega)) ?_
        rintro _ _ ⟨bs5, cp6, hok7, hle8, rfl, rfl⟩
        refine tp rfl (lv_assign rfl) ?_
        refine t_done ?_
        refine q_then_n (hK20 _ _ ?_)
        refine c_seq (fun K21 hK21 => ?_)
        refine c_region ?_
        refine tp rfl (lv_move rfl) ?_
        refine t_f2 ?_
        refine tc rfl (en_fn Try.call16 rfl) (actives_ok (A := max A 1) (Q := max Q 0) (s := shS by_ (endS s (((es).getD i (0, 0)).2 % 65536))) (by omega)) ?_
        rintro _ _ ⟨bs9, cp10, hok11, hle12, rfl, rfl⟩
        refine tp rfl (lv_assign rfl) ?_
        refine t_done ?_
        refine q_then_n (hK21 _ _ ?_)
        refine c_seq (fun K22 hK22 => ?_)
        refine c_seq (fun K23 hK23 => ?_)
        refine c_region ?_
        refine tp rfl (lv_move rfl) ?_
        refine tp rfl (lv_len Try.underlying27 rfl rfl) ?_
        refine tp rfl (lv_move rfl) ?_
        refine tp rfl (lv_len Try.underlying27 rfl rfl) ?_
        refine tp rfl (lv_neq rfl rfl (bne_eq_false_iff_eq.2 (by omega))) ?_
        refine tp rfl (lv_move rfl) ?_
        refine t_guard rfl rfl ?_
        refine tp rfl (lv_move rfl) ?_
        refine t_guard rfl rfl ?_
        refine t_f3 ?_
        refine tc rfl (en_fn Try.call17 rfl) (waiting_ok (A := max A 1) (Q := max Q 0) (s := endS s (((es).getD i (0, 0)).2 % 65536)) (by omega)) ?_
        rintro _ _ ⟨bs13, cp14, hok15, hle16, rfl, rfl⟩
        refine t_guard rfl rfl ?_
        refine tp rfl (lv_len Try.underlying27 rfl rfl) ?_
        refine t_guard rfl rfl ?_
        refine tp rfl (lv_move rfl) ?_
        refine t_guard rfl rfl ?_
        refine t_f3 ?_
        refine tc rfl (en_fn Try.call17 rfl) (waiting_ok (A := max A 1) (Q := max Q 0) (s := shS by_ (endS s (((es).getD i (0, 0)).2 % 65536))) (by omega)) ?_
        rintro _ _ ⟨bs17, cp18, hok19, hle20, rfl, rfl⟩
        refine t_guard rfl rfl ?_
        refine tp rfl (lv_len Try.underlying27 rfl rfl) ?_
        refine t_guard rfl rfl ?_
        refine tp rfl (lv_neq rfl rfl (bne_eq_false_iff_eq.2 (by omega))) ?_
        refine tp rfl (lv_pick_f rfl rfl) ?_
        refine t_done ?_
        refine q_then_n (hK23 _ _ ?_)
        refine c_false rfl ?_
        refine c_skip ?_
        refine q_then_n (hK22 _ _ ?_)
        refine c_seq (fun K24 hK24 => ?_)
        refine c_region ?_
        refine tp rfl (lv_assign rfl) ?_
        refine t_done ?_
        refine q_then_n (hK24 _ _ ?_)
        refine c_block ?_
        refine t_drop ?_
        refine t_f1 ?_
        refine t_drop ?_
        refine c_loop (γ := (Nat)) (fun (k : Nat) => k ≤ (endS s (((es).getD i (0, 0)).2 % 65536)).a.length) (fun (k : Nat) => [(0, (.int .i64 A)), (1, (.int .i64 Q)), (2, (.slice bl es.length cl)), (3, (.int .u8 by_)), (9, (.bool true)), (10, (.pointer (some ⟨p1, 0, none⟩))), (11, (.pointer (some ⟨p2, 0, none⟩))), (12, (.int .i64 by_)), (13, (.int .i64 ((i : Nat) : Int))), (14, (.int .i64 (((es).getD i (0, 0)).2 % 65536))), (15, (.int .i64 0)), (16, (.int .i64 6)), (17, (.int .i64 0)), (18, (.int .i64 6)), (23, (.slice bs5 (((endS s (((es).getD i (0, 0)).2 % 65536)).a).length) cp6)), (24, (.slice bs9 (((shS by_ (endS s (((es).getD i (0, 0)).2 % 65536))).a).length) cp10)), (25, (.int .i64 ((k : Nat) : Int))), (38, (.bool false)), (48, (.bool true)), (62, (.bool true)), (111, (.bool false)), (151, (.bool false))]) (fun (k : Nat) => (AdmO p2 (max A 1) (max Q 0) (shS by_ (endS s (((es).getD i (0, 0)).2 % 65536)))) :: (AdmO p1 (max A 1) (max Q 0) (endS s (((es).getD i (0, 0)).2 % 65536))) :: (SlV 3 1 (.slice bs9 (((shS by_ (endS s (((es).getD i (0, 0)).2 % 65536))).a).length) cp10) (((shS by_ (endS s (((es).getD i (0, 0)).2 % 65536))).a).length) (ints .i64 ((shS by_ (endS s (((es).getD i (0, 0)).2 % 65536))).a))) :: (SlV 3 1 (.slice bs5 (((endS s (((es).getD i (0, 0)).2 % 65536)).a).length) cp6) (((endS s (((es).getD i (0, 0)).2 % 65536)).a).length) (ints .i64 ((endS s (((es).getD i (0, 0)).2 % 65536)).a))) :: R) (fun (k : Nat) => (endS s (((es).getD i (0, 0)).2 % 65536)).a.length - k) (0) (by omega) ⟨rfl, rfl, rfl, rfl, rfl, rfl, rfl, rfl, rfl, rfl, rfl, rfl, rfl, rfl, rfl, rfl, rfl, rfl, rfl, rfl, rfl, rfl, trivial⟩ (fun _ h => h) ?_
        rintro k K25 hF hK25
        try dsimp only at hF hK25 ⊢
        refine c_seq (fun K26 hK26 => ?_)
        refine c_seq (fun K27 hK27 => ?_)
        refine c_region ?_
        refine tp rfl (lv_move rfl) ?_
        refine tp rfl (lv_move rfl) ?_
        refine tp rfl (lv_len Try.underlying27 rfl rfl) ?_
        by_cases h21 : ((k : Nat) : Int) < ((((endS s (((es).getD i (0, 0)).2 % 65536)).a).length : Nat) : Int)
        · -- yes
         refine tp rfl (lv_lss rfl rfl (decide_eq_true h21)) ?_
         refine t_done ?_
         refine q_then_n (hK27 _ _ ?_)
         refine c_true rfl ?_
         refine c_skip ?_
         refine q_then_n (hK26 _ _ ?_)
         refine c_seq (fun K28 hK28 => ?_)
         refine c_block ?_
         refine c_seq (fun K29 hK29 => ?_)
         have hbk := hnx _ (List.mem_append_left _ (getD_mem (l := (endS s (((es).getD i (0, 0)).2 % 65536)).a) (k := k) (by omega)))
         have hsk : (shS by_ (endS s (((es).getD i (0, 0)).2 % 65536))).a.getD k 0 = (endS s (((es).getD i (0, 0)).2 % 65536)).a.getD k 0 + by_ := sh_get _ _ (by omega)
         refine c_draw (γ := Unit) (n := 11) Try.mixed rfl rfl (fun _ S => True) (fun _ => [(0, 158, (.slice bs9 (((shS by_ (endS s (((es).getD i (0, 0)).2 % 65536))).a).length) cp10)), (1, 159, (.int .i64 ((k : Nat) : Int))), (2, 160, (.pointer (some (ad bs9 k)))), (3, 161, (.int .i64 (((shS by_ (endS s (((es).getD i (0, 0)).2 % 65536))).a).getD k 0))), (4, 162, (.slice bs5 (((endS s (((es).getD i (0, 0)).2 % 65536)).a).length) cp6)), (5, 163, (.int .i64 ((k : Nat) : Int))), (6, 164, (.pointer (some (ad bs5 k)))), (7, 165, (.int .i64 (((endS s (((es).getD i (0, 0)).2 % 65536)).a).getD k 0))), (8, 166, (.int .i64 by_)), (9, 167, (.int .i64 ((((endS s (((es).getD i (0, 0)).2 % 65536)).a).getD k 0) + by_))), (10, 168, (.bool false))]) (fun _ S => (AdmO p2 (max A 1) (max Q 0) (shS by_ (endS s (((es).getD i (0, 0)).2 % 65536)))) :: (AdmO p1 (max A 1) (max Q 0) (endS s (((es).getD i (0, 0)).2 % 65536))) :: (SlV 3 1 (.slice bs9 (((shS by_ (endS s (((es).getD i (0, 0)).2 % 65536))).a).length) cp10) (((shS by_ (endS s (((es).getD i (0, 0)).2 % 65536))).a).length) (ints .i64 ((shS by_ (endS s (((es).getD i (0, 0)).2 % 65536))).a))) :: (SlV 3 1 (.slice bs5 (((endS s (((es).getD i (0, 0)).2 % 65536)).a).length) cp6) (((endS s (((es).getD i (0, 0)).2 % 65536)).a).length) (ints .i64 ((endS s (((es).getD i (0, 0)).2 % 65536)).a))) :: R) (()) trivial (fun _ h => h) (fun _ _ h => h) ?_ ?_
         · -- steps
          refine ⟨?_, ?_, ?_, ?_, ?_, ?_, ?_, ?_, ?_, ?_, ?_, trivial⟩
          · -- 0
           rintro _ S hF hS D hp K hK
           try dsimp only at hF ⊢
           refine d_need (small := [(24, (.slice bs9 (((shS by_ (endS s (((es).getD i (0, 0)).2 % 65536))).a).length) cp10))]) ⟨look_b rfl rfl, trivial⟩ ?_
           refine tp rfl (lv_move rfl) ?_
           exact d_closes ⟨look_b rfl rfl, trivial⟩ 0 rfl rfl rfl hS (AgreeR.refl _) (t_sat (fun _ h => h) (hK () trivial))
          · -- 1
           rintro _ S hF hS D hp K hK
           try dsimp only at hF ⊢
           refine d_need (small := [(25, (.int .i64 ((k : Nat) : Int)))]) ⟨look_b rfl rfl, trivial⟩ ?_
           refine tp rfl (lv_move rfl) ?_
           exact d_closes ⟨look_b rfl rfl, trivial⟩ 1 rfl rfl rfl hS (AgreeR.refl _) (t_sat (fun _ h => h) (hK () trivial))
          · -- 2
           rintro _ S hF hS D hp K hK
           try dsimp only at hF ⊢
           have s0 := hp 0 rfl
           have s1 := hp 1 rfl
           refine d_need (small := [(158, (.slice bs9 (((shS by_ (endS s (((es).getD i (0, 0)).2 % 65536))).a).length) cp10)), (159, (.int .i64 ((k : Nat) : Int)))]) ⟨look_row rfl 0 rfl s0, look_row rfl 1 rfl s1, trivial⟩ ?_
           refine tp rfl (lv_indexAddr (k' := k) Try.underlying27 Try.sizeOf3 rfl rfl hok11 (by omega) (by omega) (by omega)) ?_
           exact d_closes ⟨look_row rfl 0 rfl s0, look_row rfl 1 rfl s1, trivial⟩ 2 rfl rfl rfl hS (AgreeR.refl _) (t_sat (fun _ h => h) (hK () trivial))
          · -- 3
           rintro _ S hF hS D hp K hK
           try dsimp only at hF ⊢
           have s2 := hp 2 rfl
           refine d_need (small := [(160, (.pointer (some (ad bs9 k))))]) ⟨look_row rfl 2 rfl s2, trivial⟩ ?_
           refine tp rfl (lv_load Try.isAgg3 rfl (gives_sl (.tail _ (.tail _ (.head _))) (ints_get (by omega)))) ?_
           exact d_closes ⟨look_row rfl 2 rfl s2, trivial⟩ 3 rfl rfl rfl hS (AgreeR.refl _) (t_sat (fun _ h => h) (hK () trivial))
          · -- 4
           rintro _ S hF hS D hp K hK
           try dsimp only at hF ⊢
           refine d_need (small := [(23, (.slice bs5 (((endS s (((es).getD i (0, 0)).2 % 65536)).a).length) cp6))]) ⟨look_b rfl rfl, trivial⟩ ?_
           refine tp rfl (lv_move rfl) ?_
           exact d_closes ⟨look_b rfl rfl, trivial⟩ 4 rfl rfl rfl hS (AgreeR.refl _) (t_sat (fun _ h => h) (hK () trivial))
          · -- 5
           rintro _ S hF hS D hp K hK
           try dsimp only at hF ⊢
           refine d_need (small := [(25, (.int .i64 ((k : Nat) : Int)))]) ⟨look_b rfl rfl, trivial⟩ ?_
           refine tp rfl (lv_move rfl) ?_
           exact d_closes ⟨look_b rfl rfl, trivial⟩ 5 rfl rfl rfl hS (AgreeR.refl _) (t_sat (fun _ h => h) (hK () trivial))
          · -- 6
           rintro _ S hF hS D hp K hK
           try dsimp only at hF ⊢
           have s4 := hp 4 rfl
           have s5 := hp 5 rfl
           refine d_need (small := [(162, (.slice bs5 (((endS s (((es).getD i (0, 0)).2 % 65536)).a).length) cp6)), (163, (.int .i64 ((k : Nat) : Int)))]) ⟨look_row rfl 4 rfl s4, look_row rfl 5 rfl s5, trivial⟩ ?_
           refine tp rfl (lv_indexAddr (k' := k) Try.underlying27 Try.sizeOf3 rfl rfl hok7 (by omega) (by omega) (by omega)) ?_
           exact d_closes ⟨look_row rfl 4 rfl s4, look_row rfl 5 rfl s5, trivial⟩ 6 rfl rfl rfl hS (AgreeR.refl _) (t_sat (fun _ h => h) (hK () trivial))
          · -- 7
           rintro _ S hF hS D hp K hK
           try dsimp only at hF ⊢
           have s6 := hp 6 rfl
           refine d_need (small := [(164, (.pointer (some (ad bs5 k))))]) ⟨look_row rfl 6 rfl s6, trivial⟩ ?_
           refine tp rfl (lv_load Try.isAgg3 rfl (gives_sl (.tail _ (.tail _ (.tail _ (.head _)))) (ints_get (by omega)))) ?_
           exact d_closes ⟨look_row rfl 6 rfl s6, trivial⟩ 7 rfl rfl rfl hS (AgreeR.refl _) (t_sat (fun _ h => h) (hK () trivial))
          · -- 8
           rintro _ S hF hS D hp K hK
           try dsimp only at hF ⊢
           refine d_need (small := [(12, (.int .i64 by_))]) ⟨look_b rfl rfl, trivial⟩ ?_
           refine tp rfl (lv_move rfl) ?_
           exact d_closes ⟨look_b rfl rfl, trivial⟩ 8 rfl rfl rfl hS (AgreeR.refl _) (t_sat (fun _ h => h) (hK () trivial))
          · -- 9
           rintro _ S hF hS D hp K hK
           try dsimp only at hF ⊢
           have s7 := hp 7 rfl
           have s8 := hp 8 rfl
           refine d_need (small := [(165, (.int .i64 (((endS s (((es).getD i (0, 0)).2 % 65536)).a).getD k 0))), (166, (.int .i64 by_))]) ⟨look_row rfl 7 rfl s7, look_row rfl 8 rfl s8, trivial⟩ ?_
           refine tp rfl (lv_add (c := (((endS s (((es).getD i (0, 0)).2 % 65536)).a).getD k 0) + by_) rfl rfl (wr_i64 (by omega) (by omega))) ?_
           exact d_closes ⟨look_row rfl 7 rfl s7, look_row rfl 8 rfl s8, trivial⟩ 9 rfl rfl rfl hS (AgreeR.refl _) (t_sat (fun _ h => h) (hK () trivial))
          · -- 10
           rintro _ S hF hS D hp K hK
           try dsimp only at hF ⊢
           have s3 := hp 3 rfl
           have s9 := hp 9 rfl
           refine d_need (small := [(161, (.int .i64 (((shS by_ (endS s (((es).getD i (0, 0)).2 % 65536))).a).getD k 0))), (167, (.int .i64 ((((endS s (((es).getD i (0, 0)).2 % 65536)).a).getD k 0) + by_)))]) ⟨look_row rfl 3 rfl s3, look_row rfl 9 rfl s9, trivial⟩ ?_
           refine tp rfl (lv_neq rfl rfl (bne_eq_false_iff_eq.2 hsk)) ?_
           exact d_closes ⟨look_row rfl 3 rfl s3, look_row rfl 9 rfl s9, trivial⟩ 10 rfl rfl rfl hS (AgreeR.refl _) (t_sat (fun _ h => h) (hK () trivial))
         · -- behind
          rintro _ hF
          try dsimp only at hF ⊢
          refine t_weak (E' := [(0, (.int .i64 A)), (1, (.int .i64 Q)), (2, (.slice bl es.length cl)), (3, (.int .u8 by_)), (9, (.bool true)), (10, (.pointer (some ⟨p1, 0, none⟩))), (11, (.pointer (some ⟨p2, 0, none⟩))), (12, (.int .i64 by_)), (13, (.int .i64 ((i : Nat) : Int))), (14, (.int .i64 (((es).getD i (0, 0)).2 % 65536))), (15, (.int .i64 0)), (16, (.int .i64 6)), (17, (.int .i64 0)), (18, (.int .i64 6)), (23, (.slice bs5 (((endS s (((es).getD i (0, 0)).2 % 65536)).a).length) cp6)), (24, (.slice bs9 (((shS by_ (endS s (((es).getD i (0, 0)).2 % 65536))).a).length) cp10)), (25, (.int .i64 ((k : Nat) : Int))), (38, (.bool false)), (48, (.bool true)), (62, (.bool true)), (111, (.bool false)), (151, (.bool false)), (155, (.bool true)), (168, (.bool false))]) ⟨rfl, rfl, rfl, rfl, rfl, rfl, rfl, rfl, rfl, rfl, rfl, rfl, rfl, rfl, rfl, rfl, rfl, rfl, rfl, rfl, rfl, rfl, rfl, rfl, trivial⟩ ?_
          refine q_then_n (hK29 _ _ ?_)
          refine c_false rfl ?_
          refine c_skip ?_
          refine q_in_n ?_
          refine q_then_n (hK28 _ _ ?_)
          refine c_region ?_
          refine tp rfl (lv_move rfl) ?_
          refine tp rfl (lv_add (c := ((k + 1 : Nat) : Int)) rfl rfl (wr_i64_succ (by omega))) ?_
          refine tp rfl (lv_assign rfl) ?_
          refine t_done ?_
          refine q_then_n ?_
          exact t_weak (by exact ⟨rfl, rfl, rfl, rfl, rfl, rfl, rfl, rfl, rfl, rfl, rfl, rfl, rfl, rfl, rfl, rfl, rfl, rfl, rfl, rfl, rfl, rfl, trivial⟩) ((hK25 (k + 1) (by omega) (by omega)))
        · -- no
         refine tp rfl (lv_lss rfl rfl (decide_eq_false h21)) ?_
         refine t_done ?_
         refine q_then_n (hK27 _ _ ?_)
         refine c_false rfl ?_
         refine c_exit ?_
         refine q_then_x ?_
         refine q_then_x ?_
         refine q_in_x ?_
         refine q_in_n ?_
         refine q_then_n (hK13 _ _ ?_)
         refine c_region ?_
         refine tp rfl (lv_move rfl) ?_
         refine tp rfl (lv_add (c := ((i + 1 : Nat) : Int)) rfl rfl (wr_i64_succ (by omega))) ?_
         refine tp rfl (lv_assign rfl) ?_
         refine t_done ?_
         refine q_then_n ?_
         refine t_f2 ?_
         refine t_drop ?_
         refine t_f2 ?_
         refine t_drop ?_
         exact t_weak (by exact ⟨rfl, rfl, rfl, rfl, rfl, rfl, rfl, rfl, rfl, rfl, trivial⟩) ((hK10 (i + 1, endS s (((es).getD i (0, 0)).2 % 65536)) ⟨by omega, by omega, by dsimp only; omega, hnx⟩ (by dsimp only; omega)))
      · -- (-1)
        rw [e1]
        rw [e2]
        rw [e3]
        refine c_region ?_
        refine tp rfl (lv_move rfl) ?_
        refine tp rfl (lv_move rfl) ?_
        refine tp rfl (lv_neq (r := false) rfl rfl (by decide)) ?_
        refine tp rfl (lv_move rfl) ?_
        refine t_guard rfl rfl ?_
        refine tp rfl (lv_move rfl) ?_
        refine t_guard rfl rfl ?_
        refine tp rfl (lv_gtr (r := false) rfl rfl (by decide)) ?_
        refine t_guard rfl rfl ?_
        refine tp rfl (lv_move rfl) ?_
        refine t_skip rfl rfl rfl ?_
        refine t_skip rfl rfl rfl ?_
        refine t_skip rfl rfl rfl ?_
        refine t_skip rfl rfl rfl ?_
        refine t_skip rfl rfl rfl ?_
        refine t_guard rfl rfl ?_
        refine tp rfl (lv_pick_f rfl rfl) ?_
        refine tp rfl (lv_pick_f rfl rfl) ?_
        refine tp rfl (lv_move rfl) ?_
        refine t_guard rfl rfl ?_
        refine tp rfl (lv_move rfl) ?_
        refine t_guard rfl rfl ?_
        refine tp rfl (lv_eql (r := true) rfl rfl (by decide)) ?_
        refine t_guard rfl rfl ?_
        refine tp rfl (lv_move rfl) ?_
        refine t_guard rfl rfl ?_
        refine tp rfl (lv_move rfl) ?_
        refine t_guard rfl rfl ?_
        refine tp rfl (lv_neq (r := false) rfl rfl (by decide)) ?_
        refine t_guard rfl rfl ?_
        refine tp rfl (lv_pick_t rfl rfl) ?_
        refine tp rfl (lv_pick_f rfl rfl) ?_
        refine tp rfl (lv_move rfl) ?_
        refine t_guard rfl rfl ?_
        refine tp rfl (lv_move rfl) ?_
        refine t_guard rfl rfl ?_
        refine tp rfl (lv_eql (r := false) rfl rfl (by decide)) ?_
        refine t_guard rfl rfl ?_
        refine tp rfl (lv_move rfl) ?_
        refine t_skip rfl rfl rfl ?_
        refine t_skip rfl rfl rfl ?_
        refine t_guard rfl rfl ?_
        refine tp rfl (lv_pick_f rfl rfl) ?_
        refine t_guard rfl rfl ?_
        refine tp rfl (lv_move rfl) ?_
        refine t_skip rfl rfl rfl ?_
        refine t_skip rfl rfl rfl ?_
        refine t_skip rfl rfl rfl ?_
        refine t_guard rfl rfl ?_
        refine tp rfl (lv_pick_f rfl rfl) ?_
        refine tp rfl (lv_pick_f rfl rfl) ?_
        refine t_done ?_
        refine q_then_n (hK19 _ _ ?_)
        refine c_false rfl ?_
        refine c_skip ?_
        refine q_then_n (hK15 _ _ ?_)
        refine c_seq (fun K20 hK20 => ?_)
        refine c_region ?_
        have hnx : ∀ y ∈ (endS s (((es).getD i (0, 0)).2 % 65536)).a ++ (endS s (((es).getD i (0, 0)).2 % 65536)).q, 0 ≤ y ∧ y ≤ 65535 := endS_all hall
        have hgr := endS_len s (((es).getD i (0, 0)).2 % 65536)
        have hla2 := shS_la by_ (endS s (((es).getD i (0, 0)).2 % 65536))
        have hlq2 := shS_lq by_ (endS s (((es).getD i (0, 0)).2 % 65536))
        refine tp rfl (lv_move rfl) ?_
        refine t_f1 ?_
        refine tc rfl (en_fn Try.call16 rfl) (actives_ok (A := max A 1) (Q := max Q 0) (s := endS s (((es).getD i (0, 0)).2 % 65536)) (by omega)) ?_
        rintro _ _ ⟨bs22, cp23, hok24, hle25, rfl, rfl⟩
        refine tp rfl (lv_assign rfl) ?_
        refine t_done ?_
        refine q_then_n (hK20 _ _ ?_)
        refine c_seq (fun K21 hK21 => ?_)
        refine c_region ?_
        refine tp rfl (lv_move rfl) ?_
        refine t_f2 ?_
        refine tc rfl (en_fn Try.call16 rfl) (actives_ok (A := max A 1) (Q := max Q 0) (s := shS by_ (endS s (((es).getD i (0, 0)).2 % 65536))) (by omega)) ?_
        rintro _ _ ⟨bs26, cp27, hok28, hle29, rfl, rfl⟩
        refine tp rfl (lv_assign rfl) ?_
        refine t_done ?_
        refine q_then_n (hK21 _ _ ?_)
        refine c_seq (fun K22 hK22 => ?_)
        refine c_seq (fun K23 hK23 => ?_)
        refine c_region ?_
        refine tp rfl (lv_move rfl) ?_
        refine tp rfl (lv_len Try.underlying27 rfl rfl) ?_
        refine tp rfl (lv_move rfl) ?_
        refine tp rfl (lv_len Try.underlying27 rfl rfl) ?_
        refine tp rfl (lv_neq rfl rfl (bne_eq_false_iff_eq.2 (by omega))) ?_
        refine tp rfl (lv_move rfl) ?_
        refine t_guard rfl rfl ?_
        refine tp rfl (lv_move rfl) ?_
        refine t_guard rfl rfl ?_
        refine t_f3 ?_
        refine tc rfl (en_fn Try.call17 rfl) (waiting_ok (A := max A 1) (Q := max Q 0) (s := endS s (((es).getD i (0, 0)).2 % 65536)) (by omega)) ?_
        rintro _ _ ⟨bs30, cp31, hok32, hle33, rfl, rfl⟩
        refine t_guard rfl rfl ?_
        refine tp rfl (lv_len Try.underlying27 rfl rfl) ?_
        refine t_guard rfl rfl ?_
        refine tp rfl (lv_move rfl) ?_
        refine t_guard rfl rfl ?_
        refine t_f3 ?_
        refine tc rfl (en_fn Try.call17 rfl) (waiting_ok (A := max A 1) (Q := max Q 0) (s := shS by_ (endS s (((es).getD i (0, 0)).2 % 65536))) (by omega)) ?_
        rintro _ _ ⟨bs34, cp35, hok36, hle37, rfl, rfl⟩
        refine t_guard rfl rfl ?_
        refine tp rfl (lv_len Try.underlying27 rfl rfl) ?_
        refine t_guard rfl rfl ?_
        refine tp rfl (lv_neq rfl rfl (bne_eq_false_iff_eq.2 (by omega))) ?_
        refine tp rfl (lv_pick_f rfl rfl) ?_
        refine t_done ?_
        refine q_then_n (hK23 _ _ ?_)
        refine c_false rfl ?_
        refine c_skip ?_
        refine q_then_n (hK22 _ _ ?_)
        refine c_seq (fun K24 hK24 => ?_)
        refine c_region ?_
        refine tp rfl (lv_assign rfl) ?_
        refine t_done ?_
        refine q_then_n (hK24 _ _ ?_)
        refine c_block ?_
        refine t_drop ?_
        refine t_f1 ?_
        refine t_drop ?_
        refine c_loop (γ := (Nat)) (fun (k : Nat) => k ≤ (endS s (((es).getD i (0, 0)).2 % 65536)).a.length) (fun (k : Nat) => [(0, (.int .i64 A)), (1, (.int .i64 Q)), (2, (.slice bl es.length cl)), (3, (.int .u8 by_)), (9, (.bool true)), (10, (.pointer (some ⟨p1, 0, none⟩))), (11, (.pointer (some ⟨p2, 0, none⟩))), (12, (.int .i64 by_)), (13, (.int .i64 ((i : Nat) : Int))), (14, (.int .i64 (((es).getD i (0, 0)).2 % 65536))), (15, (.int .i64 (-1))), (16, (.int .i64 0)), (17, (.int .i64 (-1))), (18, (.int .i64 0)), (23, (.slice bs22 (((endS s (((es).getD i (0, 0)).2 % 65536)).a).length) cp23)), (24, (.slice bs26 (((shS by_ (endS s (((es).getD i (0, 0)).2 % 65536))).a).length) cp27)), (25, (.int .i64 ((k : Nat) : Int))), (38, (.bool false)), (48, (.bool true)), (62, (.bool true)), (111, (.bool false)), (151, (.bool false))]) (fun (k : Nat) => (AdmO p2 (max A 1) (max Q 0) (shS by_ (endS s (((es).getD i (0, 0)).2 % 65536)))) :: (AdmO p1 (max A 1) (max Q 0) (endS s (((es).getD i (0, 0)).2 % 65536))) :: (SlV 3 1 (.slice bs26 (((shS by_ (endS s (((es).getD i (0, 0)).2 % 65536))).a).length) cp27) (((shS by_ (endS s (((es).getD i (0, 0)).2 % 65536))).a).length) (ints .i64 ((shS by_ (endS s (((es).getD i (0, 0)).2 % 65536))).a))) :: (SlV 3 1 (.slice bs22 (((endS s (((es).getD i (0, 0)).2 % 65536)).a).length) cp23) (((endS s (((es).getD i (0, 0)).2 % 65536)).a).length) (ints .i64 ((endS s (((es).getD i (0, 0)).2 % 65536)).a))) :: R) (fun (k : Nat) => (endS s (((es).getD i (0, 0)).2 % 65536)).a.length - k) (0) (by omega) ⟨rfl, rfl, rfl, rfl, rfl, rfl, rfl, rfl, rfl, rfl, rfl, rfl, rfl, rfl, rfl, rfl, rfl, rfl, rfl, rfl, rfl, rfl, trivial⟩ (fun _ h => h) ?_
        rintro k K25 hF hK25
        try dsimp only at hF hK25 ⊢
        refine c_seq (fun K26 hK26 => ?_)
        refine c_seq (fun K27 hK27 => ?_)
        refine c_region ?_
        refine tp rfl (lv_move rfl) ?_
        refine tp rfl (lv_move rfl) ?_
        refine tp rfl (lv_len Try.underlying27 rfl rfl) ?_
        by_cases h38 : ((k : Nat) : Int) < ((((endS s (((es).getD i (0, 0)).2 % 65536)).a).length : Nat) : Int)
        · -- yes
         refine tp rfl (lv_lss rfl rfl (decide_eq_true h38)) ?_
         refine t_done ?_
         refine q_then_n (hK27 _ _ ?_)
         refine c_true rfl ?_
         refine c_skip ?_
         refine q_then_n (hK26 _ _ ?_)
         refine c_seq (fun K28 hK28 => ?_)
         refine c_block ?_
         refine c_seq (fun K29 hK29 => ?_)
         have hbk := hnx _ (List.mem_append_left _ (getD_mem (l := (endS s (((es).getD i (0, 0)).2 % 65536)).a) (k := k) (by omega)))
         have hsk : (shS by_ (endS s (((es).getD i (0, 0)).2 % 65536))).a.getD k 0 = (endS s (((es).getD i (0, 0)).2 % 65536)).a.getD k 0 + by_ := sh_get _ _ (by omega)
         refine c_draw (γ := Unit) (n := 11) Try.mixed rfl rfl (fun _ S => True) (fun _ => [(0, 158, (.slice bs26 (((shS by_ (endS s (((es).getD i (0, 0)).2 % 65536))).a).length) cp27)), (1, 159, (.int .i64 ((k : Nat) : Int))), (2, 160, (.pointer (some (ad bs26 k)))), (3, 161, (.int .i64 (((shS by_ (endS s (((es).getD i (0, 0)).2 % 65536))).a).getD k 0))), (4, 162, (.slice bs22 (((endS s (((es).getD i (0, 0)).2 % 65536)).a).length) cp23)), (5, 163, (.int .i64 ((k : Nat) : Int))), (6, 164, (.pointer (some (ad bs22 k)))), (7, 165, (.int .i64 (((endS s (((es).getD i (0, 0)).2 % 65536)).a).getD k 0))), (8, 166, (.int .i64 by_)), (9, 167, (.int .i64 ((((endS s (((es).getD i (0, 0)).2 % 65536)).a).getD k 0) + by_))), (10, 168, (.bool false))]) (fun _ S => (AdmO p2 (max A 1) (max Q 0) (shS by_ (endS s (((es).getD i (0, 0)).2 % 65536)))) :: (AdmO p1 (max A 1) (max Q 0) (endS s (((es).getD i (0, 0)).2 % 65536))) :: (SlV 3 1 (.slice bs26 (((shS by_ (endS s (((es).getD i (0, 0)).2 % 65536))).a).length) cp27) (((shS by_ (endS s (((es).getD i (0, 0)).2 % 65536))).a).length) (ints .i64 ((shS by_ (endS s (((es).getD i (0, 0)).2 % 65536))).a))) :: (SlV 3 1 (.slice bs22 (((endS s (((es).getD i (0, 0)).2 % 65536)).a).length) cp23) (((endS s (((es).getD i (0, 0)).2 % 65536)).a).length) (ints .i64 ((endS s (((es).getD i (0, 0)).2 % 65536)).a))) :: R) (()) trivial (fun _ h => h) (fun _ _ h => h) ?_ ?_
         · -- steps
          refine ⟨?_, ?_, ?_, ?_, ?_, ?_, ?_, ?_, ?_, ?_, ?_, trivial⟩
          · -- 0
           rintro _ S hF hS D hp K hK
           try dsimp only at hF ⊢
           refine d_need (small := [(24, (.slice bs26 (((shS by_ (endS s (((es).getD i (0, 0)).2 % 65536))).a).length) cp27))]) ⟨look_b rfl rfl, trivial⟩ ?_
           refine tp rfl (lv_move rfl) ?_
           exact d_closes ⟨look_b rfl rfl, trivial⟩ 0 rfl rfl rfl hS (AgreeR.refl _) (t_sat (fun _ h => h) (hK () trivial))
          · -- 1
           rintro _ S hF hS D hp K hK
           try dsimp only at hF ⊢
           refine d_need (small := [(25, (.int .i64 ((k : Nat) : Int)))]) ⟨look_b rfl rfl, trivial⟩ ?_
           refine tp rfl (lv_move rfl) ?_
           exact d_closes ⟨look_b rfl rfl, trivial⟩ 1 rfl rfl rfl hS (AgreeR.refl _) (t_sat (fun _ h => h) (hK () trivial))
          · -- 2
           rintro _ S hF hS D hp K hK
           try dsimp only at hF ⊢
           have s0 := hp 0 rfl
           have s1 := hp 1 rfl
           refine d_need (small := [(158, (.slice bs26 (((shS by_ (endS s (((es).getD i (0, 0)).2 % 65536))).a).length) cp27)), (159, (.int .i64 ((k : Nat) : Int)))]) ⟨look_row rfl 0 rfl s0, look_row rfl 1 rfl s1, trivial⟩ ?_
           refine tp rfl (lv_indexAddr (k' := k) Try.underlying27 Try.sizeOf3 rfl rfl hok28 (by omega) (by omega) (by omega)) ?_
           exact d_closes ⟨look_row rfl 0 rfl s0, look_row rfl 1 rfl s1, trivial⟩ 2 rfl rfl rfl hS (AgreeR.refl _) (t_sat (fun _ h => h) (hK () trivial))
          · -- 3
           rintro _ S hF hS D hp K hK
           try dsimp only at hF ⊢
           have s2 := hp 2 rfl
           refine d_need (small := [(160, (.pointer (some (ad bs26 k))))]) ⟨look_row rfl 2 rfl s2, trivial⟩ ?_
           refine tp rfl (lv_load Try.isAgg3 rfl (gives_sl (.tail _ (.tail _ (.head _))) (ints_get (by omega)))) ?_
           exact d_closes ⟨look_row rfl 2 rfl s2, trivial⟩ 3 rfl rfl rfl hS (AgreeR.refl _) (t_sat (fun _ h => h) (hK () trivial))
          · -- 4
           rintro _ S hF hS D hp K hK
           try dsimp only at hF ⊢
           refine d_need (small := [(23, (.slice bs22 (((endS s (((es).getD i (0, 0)).2 % 65536)).a).length) cp23))]) ⟨look_b rfl rfl, trivial⟩ ?_
           refine tp rfl (lv_move rfl) ?_
           exact d_closes ⟨look_b rfl rfl, trivial⟩ 4 rfl rfl rfl hS (AgreeR.refl _) (t_sat (fun _ h => h) (hK () trivial))
          · -- 5
           rintro _ S hF hS D hp K hK
           try dsimp only at hF ⊢
           refine d_need (small := [(25, (.int .i64 ((k : Nat) : Int)))]) ⟨look_b rfl rfl, trivial⟩ ?_
           refine tp rfl (lv_move rfl) ?_
           exact d_closes ⟨look_b rfl rfl, trivial⟩ 5 rfl rfl rfl hS (AgreeR.refl _) (t_sat (fun _ h => h) (hK () trivial))
          · -- 6
           rintro _ S hF hS D hp K hK
           try dsimp only at hF ⊢
           have s4 := hp 4 rfl
           have s5 := hp 5 rfl
           refine d_need (small := [(162, (.slice bs22 (((endS s (((es).getD i (0, 0)).2 % 65536)).a).length) cp23)), (163, (.int .i64 ((k : Nat) : Int)))]) ⟨look_row rfl 4 rfl s4, look_row rfl 5 rfl s5, trivial⟩ ?_
           refine tp rfl (lv_indexAddr (k' := k) Try.underlying27 Try.sizeOf3 rfl rfl hok24 (by omega) (by omega) (by omega)) ?_
           exact d_closes ⟨look_row rfl 4 rfl s4, look_row rfl 5 rfl s5, trivial⟩ 6 rfl rfl rfl hS (AgreeR.refl _) (t_sat (fun _ h => h) (hK () trivial))
          · -- 7
           rintro _ S hF hS D hp K hK
           try dsimp only at hF ⊢
           have s6 := hp 6 rfl
           refine d_need (small := [(164, (.pointer (some (ad bs22 k))))]) ⟨look_row rfl 6 rfl s6, trivial⟩ ?_
           refine tp rfl (lv_load Try.isAgg3 rfl (gives_sl (.tail _ (.tail _ (.tail _ (.head _)))) (ints_get (by omega)))) ?_
           exact d_closes ⟨look_row rfl 6 rfl s6, trivial⟩ 7 rfl rfl rfl hS (AgreeR.refl _) (t_sat (fun _ h => h) (hK () trivial))
          · -- 8
           rintro _ S hF hS D hp K hK
           try dsimp only at hF ⊢
           refine d_need (small := [(12, (.int .i64 by_))]) ⟨look_b rfl rfl, trivial⟩ ?_
           refine tp rfl (lv_move rfl) ?_
           exact d_closes ⟨look_b rfl rfl, trivial⟩ 8 rfl rfl rfl hS (AgreeR.refl _) (t_sat (fun _ h => h) (hK () trivial))
          · -- 9
           rintro _ S hF hS D hp K hK
           try dsimp only at hF ⊢
           have s7 := hp 7 rfl
           have s8 := hp 8 rfl
           refine d_need (small := [(165, (.int .i64 (((endS s (((es).getD i (0, 0)).2 % 65536)).a).getD k 0))), (166, (.int .i64 by_))]) ⟨look_row rfl 7 rfl s7, look_row rfl 8 rfl s8, trivial⟩ ?_
           refine tp rfl (lv_add (c := (((endS s (((es).getD i (0, 0)).2 % 65536)).a).getD k 0) + by_) rfl rfl (wr_i64 (by omega) (by omega))) ?_
           exact d_closes ⟨look_row rfl 7 rfl s7, look_row rfl 8 rfl s8, trivial⟩ 9 rfl rfl rfl hS (AgreeR.refl _) (t_sat (fun _ h => h) (hK () trivial))
          · -- 10
           rintro _ S hF hS D hp K hK
           try dsimp only at hF ⊢
           have s3 := hp 3 rfl
           have s9 := hp 9 rfl
           refine d_need (small := [(161, (.int .i64 (((shS by_ (endS s (((es).getD i (0, 0)).2 % 65536))).a).getD k 0))), (167, (.int .i64 ((((endS s (((es).getD i (0, 0)).2 % 65536)).a).getD k 0) + by_)))]) ⟨look_row rfl 3 rfl s3, look_row rfl 9 rfl s9, trivial⟩ ?_
           refine tp rfl (lv_neq rfl rfl (bne_eq_false_iff_eq.2 hsk)) ?_
           exact d_closes ⟨look_row rfl 3 rfl s3, look_row rfl 9 rfl s9, trivial⟩ 10 rfl rfl rfl hS (AgreeR.refl _) (t_sat (fun _ h => h) (hK () trivial))
         · -- behind
          rintro _ hF
          try dsimp only at hF ⊢
          refine t_weak (E' := [(0, (.int .i64 A)), (1, (.int .i64 Q)), (2, (.slice bl es.length cl)), (3, (.int .u8 by_)), (9, (.bool true)), (10, (.pointer (some ⟨p1, 0, none⟩))), (11, (.pointer (some ⟨p2, 0, none⟩))), (12, (.int .i64 by_)), (13, (.int .i64 ((i : Nat) : Int))), (14, (.int .i64 (((es).getD i (0, 0)).2 % 65536))), (15, (.int .i64 (-1))), (16, (.int .i64 0)), (17, (.int .i64 (-1))), (18, (.int .i64 0)), (23, (.slice bs22 (((endS s (((es).getD i (0, 0)).2 % 65536)).a).length) cp23)), (24, (.slice bs26 (((shS by_ (endS s (((es).getD i (0, 0)).2 % 65536))).a).length) cp27)), (25, (.int .i64 ((k : Nat) : Int))), (38, (.bool false)), (48, (.bool true)), (62, (.bool true)), (111, (.bool false)), (151, (.bool false)), (155, (.bool true)), (168, (.bool false))]) ⟨rfl, rfl, rfl, rfl, rfl, rfl, rfl, rfl, rfl, rfl, rfl, rfl, rfl, rfl, rfl, rfl, rfl, rfl, rfl, rfl, rfl, rfl, rfl, rfl, trivial⟩ ?_
          refine q_then_n (hK29 _ _ ?_)
          refine c_false rfl ?_
          refine c_skip ?_
          refine q_in_n ?_
          refine q_then_n (hK28 _ _ ?_)
          refine c_region ?_
          refine tp rfl (lv_move rfl) ?_
          refine tp rfl (lv_add (c := ((k + 1 : Nat) : Int)) rfl rfl (wr_i64_succ (by omega))) ?_
          refine tp rfl (lv_assign rfl) ?_
          refine t_done ?_
          refine q_then_n ?_
          exact t_weak (by exact ⟨rfl, rfl, rfl, rfl, rfl, rfl, rfl, rfl, rfl, rfl, rfl, rfl, rfl, rfl, rfl, rfl, rfl, rfl, rfl, rfl, rfl, rfl, trivial⟩) ((hK25 (k + 1) (by omega) (by omega)))
        · -- no
         refine tp rfl (lv_lss rfl rfl (decide_eq_false h38)) ?_
         refine t_done ?_
         refine q_then_n (hK27 _ _ ?_)
         refine c_false rfl ?_
         refine c_exit ?_
         refine q_then_x ?_
         refine q_then_x ?_
         refine q_in_x ?_
         refine q_in_n ?_
         refine q_then_n (hK13 _ _ ?_)
         refine c_region ?_
         refine tp rfl (lv_move rfl) ?_
         refine tp rfl (lv_add (c := ((i + 1 : Nat) : Int)) rfl rfl (wr_i64_succ (by omega))) ?_
         refine tp rfl (lv_assign rfl) ?_
         refine t_done ?_
         refine q_then_n ?_
         refine t_f2 ?_
         refine t_drop ?_
         refine t_f2 ?_
         refine t_drop ?_
         exact t_weak (by exact ⟨rfl, rfl, rfl, rfl, rfl, rfl, rfl, rfl, rfl, rfl, trivial⟩) ((hK10 (i + 1, endS s (((es).getD i (0, 0)).2 % 65536)) ⟨by omega, by omega, by dsimp only; omega, hnx⟩ (by dsimp only; omega)))
      · -- n
        have hnb := hall n (List.mem_append_right _ hnm)
        rw [e1]
        rw [e2]
        rw [e3]
        refine c_region ?_
        refine tp rfl (lv_move rfl) ?_
        refine tp rfl (lv_move rfl) ?_
        refine tp rfl (lv_neq (r := false) rfl rfl (by decide)) ?_
        refine tp rfl (lv_move rfl) ?_
        refine t_guard rfl rfl ?_
        refine tp rfl (lv_move rfl) ?_
        refine t_guard rfl rfl ?_
        by_cases h39 : n > 0
        · -- yes
         refine tp rfl (lv_gtr rfl rfl (decide_eq_true h39)) ?_
         refine t_guard rfl rfl ?_
         refine tp rfl (lv_move rfl) ?_
         refine t_guard rfl rfl ?_
         refine tp rfl (lv_move rfl) ?_
         refine t_guard rfl rfl ?_
         refine tp rfl (lv_move rfl) ?_
         refine t_guard rfl rfl ?_
         refine tp rfl (lv_move rfl) ?_
         refine t_guard rfl rfl ?_
         refine tp rfl (lv_add (c := n + by_) rfl rfl (wr_i64 (by omega) (by omega))) ?_
         refine t_guard rfl rfl ?_
         refine tp rfl (lv_neq rfl rfl (bne_eq_false_iff_eq.2 rfl)) ?_
         refine t_guard rfl rfl ?_
         refine tp rfl (lv_pick_t rfl rfl) ?_
         refine tp rfl (lv_pick_f rfl rfl) ?_
         refine tp rfl (lv_move rfl) ?_
         refine t_guard rfl rfl ?_
         refine tp rfl (lv_move rfl) ?_
         refine t_guard rfl rfl ?_
         refine tp rfl (lv_eql rfl rfl (beq_eq_false_iff_ne.2 (by omega))) ?_
         refine t_guard rfl rfl ?_
         refine tp rfl (lv_move rfl) ?_
         refine t_skip rfl rfl rfl ?_
         refine t_skip rfl rfl rfl ?_
         refine t_guard rfl rfl ?_
         refine tp rfl (lv_pick_f rfl rfl) ?_
         refine tp rfl (lv_pick_f rfl rfl) ?_
         refine tp rfl (lv_move rfl) ?_
         refine t_guard rfl rfl ?_
         refine tp rfl (lv_move rfl) ?_
         refine t_guard rfl rfl ?_
         by_cases h40 : n = 0
         · -- yes
          refine tp rfl (lv_eql rfl rfl (beq_iff_eq.2 h40)) ?_
          refine t_guard rfl rfl ?_
          refine tp rfl (lv_move rfl) ?_
          refine t_guard rfl rfl ?_
          refine tp rfl (lv_move rfl) ?_
          refine t_guard rfl rfl ?_
          refine tp rfl (lv_eql (r := true) rfl rfl (by decide)) ?_
          refine t_guard rfl rfl ?_
          refine tp rfl (lv_pick_t rfl rfl) ?_
          refine t_guard rfl rfl ?_
          refine tp rfl (lv_move rfl) ?_
          refine t_guard rfl rfl ?_
          refine tp rfl (lv_move rfl) ?_
          refine t_guard rfl rfl ?_
          refine tp rfl (lv_move rfl) ?_
          refine t_guard rfl rfl ?_
          refine tp rfl (lv_neq rfl rfl (bne_eq_false_iff_eq.2 (by omega))) ?_
          refine t_guard rfl rfl ?_
          refine tp rfl (lv_pick_t rfl rfl) ?_
          refine tp rfl (lv_pick_f rfl rfl) ?_
          refine t_done ?_
          refine q_then_n (hK19 _ _ ?_)
          refine c_false rfl ?_
          refine c_skip ?_
          refine q_then_n (hK15 _ _ ?_)
          refine c_seq (fun K20 hK20 => ?_)
          refine c_region ?_
          have hnx : ∀ y ∈ (endS s (((es).getD i (0, 0)).2 % 65536)).a ++ (endS s (((es).getD i (0, 0)).2 % 65536)).q, 0 ≤ y ∧ y ≤ 65535 := endS_all hall
          have hgr := endS_len s (((es).getD i (0, 0)).2 % 65536)
          have hla2 := shS_la by_ (endS s (((es).getD i (0, 0)).2 % 65536))
          have hlq2 := shS_lq by_ (endS s (((es).getD i (0, 0)).2 % 65536))
          refine tp rfl (lv_move rfl) ?_
          refine t_f1 ?_
          refine tc rfl (en_fn Try.call16 rfl) (actives_ok (A := max A 1) (Q := max Q 0) (s := endS s (((es).getD i (0, 0)).2 % 65536)) (by omega)) ?_
          rintro _ _ ⟨bs41, cp42, hok43, hle44, rfl, rfl⟩
          refine tp rfl (lv_assign rfl) ?_
          refine t_done ?_
          refine q_then_n (hK20 _ _ ?_)
          refine c_seq (fun K21 hK21 => ?_)
          refine c_region ?_
          refine tp rfl (lv_move rfl) ?_
          refine t_f2 ?_
          refine tc rfl (en_fn Try.call16 rfl) (actives_ok (A := max A 1) (Q := max Q 0) (s := shS by_ (endS s (((es).getD i (0, 0)).2 % 65536))) (by omega)) ?_
          rintro _ _ ⟨bs45, cp46, hok47, hle48, rfl, rfl⟩
          refine tp rfl (lv_assign rfl) ?_
          refine t_done ?_
          refine q_then_n (hK21 _ _ ?_)
          refine c_seq (fun K22 hK22 => ?_)
          refine c_seq (fun K23 hK23 => ?_)
          refine c_region ?_
          refine tp rfl (lv_move rfl) ?_
          refine tp rfl (lv_len Try.underlying27 rfl rfl) ?_
          refine tp rfl (lv_move rfl) ?_
          refine tp rfl (lv_len Try.underlying27 rfl rfl) ?_
          refine tp rfl (lv_neq rfl rfl (bne_eq_false_iff_eq.2 (by omega))) ?_
          refine tp rfl (lv_move rfl) ?_
          refine t_guard rfl rfl ?_
          refine tp rfl (lv_move rfl) ?_
          refine t_guard rfl rfl ?_
          refine t_f3 ?_
          refine tc rfl (en_fn Try.call17 rfl) (waiting_ok (A := max A 1) (Q := max Q 0) (s := endS s (((es).getD i (0, 0)).2 % 65536)) (by omega)) ?_
          rintro _ _ ⟨bs49, cp50, hok51, hle52, rfl, rfl⟩
          refine t_guard rfl rfl ?_
          refine tp rfl (lv_len Try.underlying27 rfl rfl) ?_
          refine t_guard rfl rfl ?_
          refine tp rfl (lv_move rfl) ?_
          refine t_guard rfl rfl ?_
          refine t_f3 ?_
          refine tc rfl (en_fn Try.call17 rfl) (waiting_ok (A := max A 1) (Q := max Q 0) (s := shS by_ (endS s (((es).getD i (0, 0)).2 % 65536))) (by omega)) ?_
          rintro _ _ ⟨bs53, cp54, hok55, hle56, rfl, rfl⟩
          refine t_guard rfl rfl ?_
          refine tp rfl (lv_len Try.underlying27 rfl rfl) ?_
          refine t_guard rfl rfl ?_
          refine tp rfl (lv_neq rfl rfl (bne_eq_false_iff_eq.2 (by omega))) ?_
          refine tp rfl (lv_pick_f rfl rfl) ?_
          refine t_done ?_
          refine q_then_n (hK23 _ _ ?_)
          refine c_false rfl ?_
          refine c_skip ?_
          refine q_then_n (hK22 _ _ ?_)
          refine c_seq (fun K24 hK24 => ?_)
          refine c_region ?_
          refine tp rfl (lv_assign rfl) ?_
          refine t_done ?_
          refine q_then_n (hK24 _ _ ?_)
          refine c_block ?_
          refine t_drop ?_
          refine t_f1 ?_
          refine t_drop ?_
          refine c_loop (γ := (Nat)) (fun (k : Nat) => k ≤ (endS s (((es).getD i (0, 0)).2 % 65536)).a.length) (fun (k : Nat) => [(0, (.int .i64 A)), (1, (.int .i64 Q)), (2, (.slice bl es.length cl)), (3, (.int .u8 by_)), (9, (.bool true)), (10, (.pointer (some ⟨p1, 0, none⟩))), (11, (.pointer (some ⟨p2, 0, none⟩))), (12, (.int .i64 by_)), (13, (.int .i64 ((i : Nat) : Int))), (14, (.int .i64 (((es).getD i (0, 0)).2 % 65536))), (15, (.int .i64 n)), (16, (.int .i64 0)), (17, (.int .i64 (n + by_))), (18, (.int .i64 0)), (23, (.slice bs41 (((endS s (((es).getD i (0, 0)).2 % 65536)).a).length) cp42)), (24, (.slice bs45 (((shS by_ (endS s (((es).getD i (0, 0)).2 % 65536))).a).length) cp46)), (25, (.int .i64 ((k : Nat) : Int))), (38, (.bool false)), (48, (.bool true)), (62, (.bool true)), (111, (.bool false)), (151, (.bool false))]) (fun (k : Nat) => (AdmO p2 (max A 1) (max Q 0) (shS by_ (endS s (((es).getD i (0, 0)).2 % 65536)))) :: (AdmO p1 (max A 1) (max Q 0) (endS s (((es).getD i (0, 0)).2 % 65536))) :: (SlV 3 1 (.slice bs45 (((shS by_ (endS s (((es).getD i (0, 0)).2 % 65536))).a).length) cp46) (((shS by_ (endS s (((es).getD i (0, 0)).2 % 65536))).a).length) (ints .i64 ((shS by_ (endS s (((es).getD i (0, 0)).2 % 65536))).a))) :: (SlV 3 1 (.slice bs41 (((endS s (((es).getD i (0, 0)).2 % 65536)).a).length) cp42) (((endS s (((es).getD i (0, 0)).2 % 65536)).a).length) (ints .i64 ((endS s (((es).getD i (0, 0)).2 % 65536)).a))) :: R) (fun (k : Nat) => (endS s (((es).getD i (0, 0)).2 % 65536)).a.length - k) (0) (by omega) ⟨rfl, rfl, rfl, rfl, rfl, rfl, rfl, rfl, rfl, rfl, rfl, rfl, rfl, rfl, rfl, rfl, rfl, rfl, rfl, rfl, rfl, rfl, trivial⟩ (fun _ h => h) ?_
          rintro k K25 hF hK25
          try dsimp only at hF hK25 ⊢
          refine c_seq (fun K26 hK26 => ?_)
          refine c_seq (fun K27 hK27 => ?_)
          refine c_region ?_
          refine tp rfl (lv_move rfl) ?_
          refine tp rfl (lv_move rfl) ?_
          refine tp rfl (lv_len Try.underlying27 rfl rfl) ?_
          by_cases h57 : ((k : Nat) : Int) < ((((endS s (((es).getD i (0, 0)).2 % 65536)).a).length : Nat) : Int)
          · -- yes
           refine tp rfl (lv_lss rfl rfl (decide_eq_true h57)) ?_
           refine t_done ?_
           refine q_then_n (hK27 _ _ ?_)
           refine c_true rfl ?_
           refine c_skip ?_
           refine q_then_n (hK26 _ _ ?_)
           refine c_seq (fun K28 hK28 => ?_)
           refine c_block ?_
           refine c_seq (fun K29 hK29 => ?_)
           have hbk := hnx _ (List.mem_append_left _ (getD_mem (l := (endS s (((es).getD i (0, 0)).2 % 65536)).a) (k := k) (by omega)))
           have hsk : (shS by_ (endS s (((es).getD i (0, 0)).2 % 65536))).a.getD k 0 = (endS s (((es).getD i (0, 0)).2 % 65536)).a.getD k 0 + by_ := sh_get _ _ (by omega)
           refine c_draw (γ := Unit) (n := 11) Try.mixed rfl rfl (fun _ S => True) (fun _ => [(0, 158, (.slice bs45 (((shS by_ (endS s (((es).getD i (0, 0)).2 % 65536))).a).length) cp46)), (1, 159, (.int .i64 ((k : Nat) : Int))), (2, 160, (.pointer (some (ad bs45 k)))), (3, 161, (.int .i64 (((shS by_ (endS s (((es).getD i (0, 0)).2 % 65536))).a).getD k 0))), (4, 162, (.slice bs41 (((endS s (((es).getD i (0, 0)).2 % 65536)).a).length) cp42)), (5, 163, (.int .i64 ((k : Nat) : Int))), (6, 164, (.pointer (some (ad bs41 k)))), (7, 165, (.int .i64 (((endS s (((es).getD i (0, 0)).2 % 65536)).a).getD k 0))), (8, 166, (.int .i64 by_)), (9, 167, (.int .i64 ((((endS s (((es).getD i (0, 0)).2 % 65536)).a).getD k 0) + by_))), (10, 168, (.bool false))]) (fun _ S => (AdmO p2 (max A 1) (max Q 0) (shS by_ (endS s (((es).getD i (0, 0)).2 % 65536)))) :: (AdmO p1 (max A 1) (max Q 0) (endS s (((es).getD i (0, 0)).2 % 65536))) :: (SlV 3 1 (.slice bs45 (((shS by_ (endS s (((es).getD i (0, 0)).2 % 65536))).a).length) cp46) (((shS by_ (endS s (((es).getD i (0, 0)).2 % 65536))).a).length) (ints .i64 ((shS by_ (endS s (((es).getD i (0, 0)).2 % 65536))).a))) :: (SlV 3 1 (.slice bs41 (((endS s (((es).getD i (0, 0)).2 % 65536)).a).length) cp42) (((endS s (((es).getD i (0, 0)).2 % 65536)).a).length) (ints .i64 ((endS s (((es).getD i (0, 0)).2 % 65536)).a))) :: R) (()) trivial (fun _ h => h) (fun _ _ h => h) ?_ ?_
           · -- steps
            refine ⟨?_, ?_, ?_, ?_, ?_, ?_, ?_, ?_, ?_, ?_, ?_, trivial⟩
            · -- 0
             rintro _ S hF hS D hp K hK
             try dsimp only at hF ⊢
             refine d_need (small := [(24, (.slice bs45 (((shS by_ (endS s (((es).getD i (0, 0)).2 % 65536))).a).length) cp46))]) ⟨look_b rfl rfl, trivial⟩ ?_
             refine tp rfl (lv_move rfl) ?_
             exact d_closes ⟨look_b rfl rfl, trivial⟩ 0 rfl rfl rfl hS (AgreeR.refl _) (t_sat (fun _ h => h) (hK () trivial))
            · -- 1
             rintro _ S hF hS D hp K hK
             try dsimp only at hF ⊢
             refine d_need (small := [(25, (.int .i64 ((k : Nat) : Int)))]) ⟨look_b rfl rfl, trivial⟩ ?_
             refine tp rfl (lv_move rfl) ?_
             exact d_closes ⟨look_b rfl rfl, trivial⟩ 1 rfl rfl rfl hS (AgreeR.refl _) (t_sat (fun _ h => h) (hK () trivial))
            · -- 2
             rintro _ S hF hS D hp K hK
             try dsimp only at hF ⊢
             have s0 := hp 0 rfl
             have s1 := hp 1 rfl
             refine d_need (small := [(158, (.slice bs45 (((shS by_ (endS s (((es).getD i (0, 0)).2 % 65536))).a).length) cp46)), (159, (.int .i64 ((k : Nat) : Int)))]) ⟨look_row rfl 0 rfl s0, look_row rfl 1 rfl s1, trivial⟩ ?_
             refine tp rfl (lv_indexAddr (k' := k) Try.underlying27 Try.sizeOf3 rfl rfl hok47 (by omega) (by omega) (by omega)) ?_
             exact d_closes ⟨look_row rfl 0 rfl s0, look_row rfl 1 rfl s1, trivial⟩ 2 rfl rfl rfl hS (AgreeR.refl _) (t_sat (fun _ h => h) (hK () trivial))
            · -- 3
             rintro _ S hF hS D hp K hK
             try dsimp only at hF ⊢
             have s2 := hp 2 rfl
             refine d_need (small := [(160, (.pointer (some (ad bs45 k))))]) ⟨look_row rfl 2 rfl s2, trivial⟩ ?_
             refine tp rfl (lv_load Try.isAgg3 rfl (gives_sl (.tail _ (.tail _ (.head _))) (ints_get (by omega)))) ?_
             exact d_closes ⟨look_row rfl 2 rfl s2, trivial⟩ 3 rfl rfl rfl hS (AgreeR.refl _) (t_sat (fun _ h => h) (hK () trivial))
            · -- 4
             rintro _ S hF hS D hp K hK
             try dsimp only at hF ⊢
             refine d_need (small := [(23, (.slice bs41 (((endS s (((es).getD i (0, 0)).2 % 65536)).a).length) cp42))]) ⟨look_b rfl rfl, trivial⟩ ?_
             refine tp rfl (lv_move rfl) ?_
             exact d_closes ⟨look_b rfl rfl, trivial⟩ 4 rfl rfl rfl hS (AgreeR.refl _) (t_sat (fun _ h => h) (hK () trivial))
            · -- 5
             rintro _ S hF hS D hp K hK
             try dsimp only at hF ⊢
             refine d_need (small := [(25, (.int .i64 ((k : Nat) : Int)))]) ⟨look_b rfl rfl, trivial⟩ ?_
             refine tp rfl (lv_move rfl) ?_
             exact d_closes ⟨look_b rfl rfl, trivial⟩ 5 rfl rfl rfl hS (AgreeR.refl _) (t_sat (fun _ h => h) (hK () trivial))
            · -- 6
             rintro _ S hF hS D hp K hK
             try dsimp only at hF ⊢
             have s4 := hp 4 rfl
             have s5 := hp 5 rfl
             refine d_need (small := [(162, (.slice bs41 (((endS s (((es).getD i (0, 0)).2 % 65536)).a).length) cp42)), (163, (.int .i64 ((k : Nat) : Int)))]) ⟨look_row rfl 4 rfl s4, look_row rfl 5 rfl s5, trivial⟩ ?_
             refine tp rfl (lv_indexAddr (k' := k) Try.underlying27 Try.sizeOf3 rfl rfl hok43 (by omega) (by omega) (by omega)) ?_
             exact d_closes ⟨look_row rfl 4 rfl s4, look_row rfl 5 rfl s5, trivial⟩ 6 rfl rfl rfl hS (AgreeR.refl _) (t_sat (fun _ h => h) (hK () trivial))
            · -- 7
             rintro _ S hF hS D hp K hK
             try dsimp only at hF ⊢
             have s6 := hp 6 rfl
             refine d_need (small := [(164, (.pointer (some (ad bs41 k))))]) ⟨look_row rfl 6 rfl s6, trivial⟩ ?_
             refine tp rfl (lv_load Try.isAgg3 rfl (gives_sl (.tail _ (.tail _ (.tail _ (.head _)))) (ints_get (by omega)))) ?_
             exact d_closes ⟨look_row rfl 6 rfl s6, trivial⟩ 7 rfl rfl rfl hS (AgreeR.refl _) (t_sat (fun _ h => h) (hK () trivial))
            · -- 8
             rintro _ S hF hS D hp K hK
             try dsimp only at hF ⊢
             refine d_need (small := [(12, (.int .i64 by_))]) ⟨look_b rfl rfl, trivial⟩ ?_
             refine tp rfl (lv_move rfl) ?_
             exact d_closes ⟨look_b rfl rfl, trivial⟩ 8 rfl rfl rfl hS (AgreeR.refl _) (t_sat (fun _ h => h) (hK () trivial))
            · -- 9
             rintro _ S hF hS D hp K hK
             try dsimp only at hF ⊢
             have s7 := hp 7 rfl
             have s8 := hp 8 rfl
             refine d_need (small := [(165, (.int .i64 (((endS s (((es).getD i (0, 0)).2 % 65536)).a).getD k 0))), (166, (.int .i64 by_))]) ⟨look_row rfl 7 rfl s7, look_row rfl 8 rfl s8, trivial⟩ ?_
             refine tp rfl (lv_add (c := (((endS s (((es).getD i (0, 0)).2 % 65536)).a).getD k 0) + by_) rfl rfl (wr_i64 (by omega) (by omega))) ?_
             exact d_closes ⟨look_row rfl 7 rfl s7, look_row rfl 8 rfl s8, trivial⟩ 9 rfl rfl rfl hS (AgreeR.refl _) (t_sat (fun _ h => h) (hK () trivial))
            · -- 10
             rintro _ S hF hS D hp K hK
             try dsimp only at hF ⊢
             have s3 := hp 3 rfl
             have s9 := hp 9 rfl
             refine d_need (small := [(161, (.int .i64 (((shS by_ (endS s (((es).getD i (0, 0)).2 % 65536))).a).getD k 0))), (167, (.int .i64 ((((endS s (((es).getD i (0, 0)).2 % 65536)).a).getD k 0) + by_)))]) ⟨look_row rfl 3 rfl s3, look_row rfl 9 rfl s9, trivial⟩ ?_
             refine tp rfl (lv_neq rfl rfl (bne_eq_false_iff_eq.2 hsk)) ?_
             exact d_closes ⟨look_row rfl 3 rfl s3, look_row rfl 9 rfl s9, trivial⟩ 10 rfl rfl rfl hS (AgreeR.refl _) (t_sat (fun _ h => h) (hK () trivial))
           · -- behind
            rintro _ hF
            try dsimp only at hF ⊢
            refine t_weak (E' := [(0, (.int .i64 A)), (1, (.int .i64 Q)), (2, (.slice bl es.length cl)), (3, (.int .u8 by_)), (9, (.bool true)), (10, (.pointer (some ⟨p1, 0, none⟩))), (11, (.pointer (some ⟨p2, 0, none⟩))), (12, (.int .i64 by_)), (13, (.int .i64 ((i : Nat) : Int))), (14, (.int .i64 (((es).getD i (0, 0)).2 % 65536))), (15, (.int .i64 n)), (16, (.int .i64 0)), (17, (.int .i64 (n + by_))), (18, (.int .i64 0)), (23, (.slice bs41 (((endS s (((es).getD i (0, 0)).2 % 65536)).a).length) cp42)), (24, (.slice bs45 (((shS by_ (endS s (((es).getD i (0, 0)).2 % 65536))).a).length) cp46)), (25, (.int .i64 ((k : Nat) : Int))), (38, (.bool false)), (48, (.bool true)), (62, (.bool true)), (111, (.bool false)), (151, (.bool false)), (155, (.bool true)), (168, (.bool false))]) ⟨rfl, rfl, rfl, rfl, rfl, rfl, rfl, rfl, rfl, rfl, rfl, rfl, rfl, rfl, rfl, rfl, rfl, rfl, rfl, rfl, rfl, rfl, rfl, rfl, trivial⟩ ?_
            refine q_then_n (hK29 _ _ ?_)
            refine c_false rfl ?_
            refine c_skip ?_
            refine q_in_n ?_
            refine q_then_n (hK28 _ _ ?_)
            refine c_region ?_
            refine tp rfl (lv_move rfl) ?_
            refine tp rfl (lv_add (c := ((k + 1 : Nat) : Int)) rfl rfl (wr_i64_succ (by omega))) ?_
            refine tp rfl (lv_assign rfl) ?_
            refine t_done ?_
            refine q_then_n ?_
            exact t_weak (by exact ⟨rfl, rfl, rfl, rfl, rfl, rfl, rfl, rfl, rfl, rfl, rfl, rfl, rfl, rfl, rfl, rfl, rfl, rfl, rfl, rfl, rfl, rfl, trivial⟩) ((hK25 (k + 1) (by omega) (by omega)))
          · -- no
           refine tp rfl (lv_lss rfl rfl (decide_eq_false h57)) ?_
           refine t_done ?_
           refine q_then_n (hK27 _ _ ?_)
           refine c_false rfl ?_
           refine c_exit ?_
           refine q_then_x ?_
           refine q_then_x ?_
           refine q_in_x ?_
           refine q_in_n ?_
           refine q_then_n (hK13 _ _ ?_)
           refine c_region ?_
           refine tp rfl (lv_move rfl) ?_
           refine tp rfl (lv_add (c := ((i + 1 : Nat) : Int)) rfl rfl (wr_i64_succ (by omega))) ?_
           refine tp rfl (lv_assign rfl) ?_
           refine t_done ?_
           refine q_then_n ?_
           refine t_f2 ?_
           refine t_drop ?_
           refine t_f2 ?_
           refine t_drop ?_
           exact t_weak (by exact ⟨rfl, rfl, rfl, rfl, rfl, rfl, rfl, rfl, rfl, rfl, trivial⟩) ((hK10 (i + 1, endS s (((es).getD i (0, 0)).2 % 65536)) ⟨by omega, by omega, by dsimp only; omega, hnx⟩ (by dsimp only; omega)))
         · -- no
          refine tp rfl (lv_eql rfl rfl (beq_eq_false_iff_ne.2 h40)) ?_
          refine t_guard rfl rfl ?_
          refine tp rfl (lv_move rfl) ?_
          refine t_skip rfl rfl rfl ?_
          refine t_skip rfl rfl rfl ?_
          refine t_guard rfl rfl ?_
          refine tp rfl (lv_pick_f rfl rfl) ?_
          refine t_guard rfl rfl ?_
          refine tp rfl (lv_move rfl) ?_
          refine t_skip rfl rfl rfl ?_
          refine t_skip rfl rfl rfl ?_
          refine t_skip rfl rfl rfl ?_
          refine t_guard rfl rfl ?_
          refine tp rfl (lv_pick_f rfl rfl) ?_
          refine tp rfl (lv_pick_f rfl rfl) ?_
          refine t_done ?_
          refine q_then_n (hK19 _ _ ?_)
          refine c_false rfl ?_
          refine c_skip ?_
          refine q_then_n (hK15 _ _ ?_)
          refine c_seq (fun K20 hK20 => ?_)
          refine c_region ?_
          have hnx : ∀ y ∈ (endS s (((es).getD i (0, 0)).2 % 65536)).a ++ (endS s (((es).getD i (0, 0)).2 % 65536)).q, 0 ≤ y ∧ y ≤ 65535 := endS_all hall
          have hgr := endS_len s (((es).getD i (0, 0)).2 % 65536)
          have hla2 := shS_la by_ (endS s (((es).getD i (0, 0)).2 % 65536))
          have hlq2 := shS_lq by_ (endS s (((es).getD i (0, 0)).2 % 65536))
          refine tp rfl (lv_move rfl) ?_
          refine t_f1 ?_
          refine tc rfl (en_fn Try.call16 rfl) (actives_ok (A := max A 1) (Q := max Q 0) (s := endS s (((es).getD i (0, 0)).2 % 65536)) (by omega)) ?_
          rintro _ _ ⟨bs58, cp59, hok60, hle61, rfl, rfl⟩
          refine tp rfl (lv_assign rfl) ?_
          refine t_done ?_
          refine q_then_n (hK20 _ _ ?_)
          refine c_seq (fun K21 hK21 => ?_)
          refine c_region ?_
          refine tp rfl (lv_move rfl) ?_
          refine t_f2 ?_
          refine tc rfl (en_fn Try.call16 rfl) (actives_ok (A := max A 1) (Q := max Q 0) (s := shS by_ (endS s (((es).getD i (0, 0)).2 % 65536))) (by omega)) ?_
          rintro _ _ ⟨bs62, cp63, hok64, hle65, rfl, rfl⟩
          refine tp rfl (lv_assign rfl) ?_
          refine t_done ?_
          refine q_then_n (hK21 _ _ ?_)
          refine c_seq (fun K22 hK22 => ?_)
          refine c_seq (fun K23 hK23 => ?_)
          refine c_region ?_
          refine tp rfl (lv_move rfl) ?_
          refine tp rfl (lv_len Try.underlying27 rfl rfl) ?_
          refine tp rfl (lv_move rfl) ?_
          refine tp rfl (lv_len Try.underlying27 rfl rfl) ?_
          refine tp rfl (lv_neq rfl rfl (bne_eq_false_iff_eq.2 (by omega))) ?_
          refine tp rfl (lv_move rfl) ?_
          refine t_guard rfl rfl ?_
          refine tp rfl (lv_move rfl) ?_
          refine t_guard rfl rfl ?_
          refine t_f3 ?_
          refine tc rfl (en_fn Try.call17 rfl) (waiting_ok (A := max A 1) (Q := max Q 0) (s := endS s (((es).getD i (0, 0)).2 % 65536)) (by omega)) ?_
          rintro _ _ ⟨bs66, cp67, hok68, hle69, rfl, rfl⟩
          refine t_guard rfl rfl ?_
          refine tp rfl (lv_len Try.underlying27 rfl rfl) ?_
          refine t_guard rfl rfl ?_
          refine tp rfl (lv_move rfl) ?_
          refine t_guard rfl rfl ?_
          refine t_f3 ?_
          refine tc rfl (en_fn Try.call17 rfl) (waiting_ok (A := max A 1) (Q := max Q 0) (s := shS by_ (endS s (((es).getD i (0, 0)).2 % 65536))) (by omega)) ?_
          rintro _ _ ⟨bs70, cp71, hok72, hle73, rfl, rfl⟩
          refine t_guard rfl rfl ?_
          refine tp rfl (lv_len Try.underlying27 rfl rfl) ?_
          refine t_guard rfl rfl ?_
          refine tp rfl (lv_neq rfl rfl (bne_eq_false_iff_eq.2 (by omega))) ?_
          refine tp rfl (lv_pick_f rfl rfl) ?_
          refine t_done ?_
          refine q_then_n (hK23 _ _ ?_)
          refine c_false rfl ?_
          refine c_skip ?_
          refine q_then_n (hK22 _ _ ?_)
          refine c_seq (fun K24 hK24 => ?_)
          refine c_region ?_
          refine tp rfl (lv_assign rfl) ?_
          refine t_done ?_
          refine q_then_n (hK24 _ _ ?_)
          refine c_block ?_
          refine t_drop ?_
          refine t_f1 ?_
          refine t_drop ?_
          refine c_loop (γ := (Nat)) (fun (k : Nat) => k ≤ (endS s (((es).getD i (0, 0)).2 % 65536)).a.length) (fun (k : Nat) => [(0, (.int .i64 A)), (1, (.int .i64 Q)), (2, (.slice bl es.length cl)), (3, (.int .u8 by_)), (9, (.bool true)), (10, (.pointer (some ⟨p1, 0, none⟩))), (11, (.pointer (some ⟨p2, 0, none⟩))), (12, (.int .i64 by_)), (13, (.int .i64 ((i : Nat) : Int))), (14, (.int .i64 (((es).getD i (0, 0)).2 % 65536))), (15, (.int .i64 n)), (16, (.int .i64 0)), (17, (.int .i64 (n + by_))), (18, (.int .i64 0)), (23, (.slice bs58 (((endS s (((es).getD i (0, 0)).2 % 65536)).a).length) cp59)), (24, (.slice bs62 (((shS by_ (endS s (((es).getD i (0, 0)).2 % 65536))).a).length) cp63)), (25, (.int .i64 ((k : Nat) : Int))), (38, (.bool false)), (48, (.bool true)), (62, (.bool true)), (111, (.bool false)), (151, (.bool false))]) (fun (k : Nat) => (AdmO p2 (max A 1) (max Q 0) (shS by_ (endS s (((es).getD i (0, 0)).2 % 65536)))) :: (AdmO p1 (max A 1) (max Q 0) (endS s (((es).getD i (0, 0)).2 % 65536))) :: (SlV 3 1 (.slice bs62 (((shS by_ (endS s (((es).getD i (0, 0)).2 % 65536))).a).length) cp63) (((shS by_ (endS s (((es).getD i (0, 0)).2 % 65536))).a).length) (ints .i64 ((shS by_ (endS s (((es).getD i (0, 0)).2 % 65536))).a))) :: (SlV 3 1 (.slice bs58 (((endS s (((es).getD i (0, 0)).2 % 65536)).a).length) cp59) (((endS s (((es).getD i (0, 0)).2 % 65536)).a).length) (ints .i64 ((endS s (((es).getD i (0, 0)).2 % 65536)).a))) :: R) (fun (k : Nat) => (endS s (((es).getD i (0, 0)).2 % 65536)).a.length - k) (0) (by omega) ⟨rfl, rfl, rfl, rfl, rfl, rfl, rfl, rfl, rfl, rfl, rfl, rfl, rfl, rfl, rfl, rfl, rfl, rfl, rfl, rfl, rfl, rfl, trivial⟩ (fun _ h => h) ?_
          rintro k K25 hF hK25
          try dsimp only at hF hK25 ⊢
          refine c_seq (fun K26 hK26 => ?_)
          refine c_seq (fun K27 hK27 => ?_)
          refine c_region ?_
          refine tp rfl (lv_move rfl) ?_
          refine tp rfl (lv_move rfl) ?_
          refine tp rfl (lv_len Try.underlying27 rfl rfl) ?_
          by_cases h74 : ((k : Nat) : Int) < ((((endS s (((es).getD i (0, 0)).2 % 65536)).a).length : Nat) : Int)
          · -- yes
           refine tp rfl (lv_lss rfl rfl (decide_eq_true h74)) ?_
           refine t_done ?_
           refine q_then_n (hK27 _ _ ?_)
           refine c_true rfl ?_
           refine c_skip ?_
           refine q_then_n (hK26 _ _ ?_)
           refine c_seq (fun K28 hK28 => ?_)
           refine c_block ?_
           refine c_seq (fun K29 hK29 => ?_)
           have hbk := hnx _ (List.mem_append_left _ (getD_mem (l := (endS s (((es).getD i (0, 0)).2 % 65536)).a) (k := k) (by omega)))
           have hsk : (shS by_ (endS s (((es).getD i (0, 0)).2 % 65536))).a.getD k 0 = (endS s (((es).getD i (0, 0)).2 % 65536)).a.getD k 0 + by_ := sh_get _ _ (by omega)
           refine c_draw (γ := Unit) (n := 11) Try.mixed rfl rfl (fun _ S => True) (fun _ => [(0, 158, (.slice bs62 (((shS by_ (endS s (((es).getD i (0, 0)).2 % 65536))).a).length) cp63)), (1, 159, (.int .i64 ((k : Nat) : Int))), (2, 160, (.pointer (some (ad bs62 k)))), (3, 161, (.int .i64 (((shS by_ (endS s (((es).getD i (0, 0)).2 % 65536))).a).getD k 0))), (4, 162, (.slice bs58 (((endS s (((es).getD i (0, 0)).2 % 65536)).a).length) cp59)), (5, 163, (.int .i64 ((k : Nat) : Int))), (6, 164, (.pointer (some (ad bs58 k)))), (7, 165, (.int .i64 (((endS s (((es).getD i (0, 0)).2 % 65536)).a).getD k 0))), (8, 166, (.int .i64 by_)), (9, 167, (.int .i64 ((((endS s (((es).getD i (0, 0)).2 % 65536)).a).getD k 0) + by_))), (10, 168, (.bool false))]) (fun _ S => (AdmO p2 (max A 1) (max Q 0) (shS by_ (endS s (((es).getD i (0, 0)).2 % 65536)))) :: (AdmO p1 (max A 1) (max Q 0) (endS s (((es).getD i (0, 0)).2 % 65536))) :: (SlV 3 1 (.slice bs62 (((shS by_ (endS s (((es).getD i (0, 0)).2 % 65536))).a).length) cp63) (((shS by_ (endS s (((es).getD i (0, 0)).2 % 65536))).a).length) (ints .i64 ((shS by_ (endS s (((es).getD i (0, 0)).2 % 65536))).a))) :: (SlV 3 1 (.slice bs58 (((endS s (((es).getD i (0, 0)).2 % 65536)).a).length) cp59) (((endS s (((es).getD i (0, 0)).2 % 65536)).a).length) (ints .i64 ((endS s (((es).getD i (0, 0)).2 % 65536)).a))) :: R) (()) trivial (fun _ h => h) (fun _ _ h => h) ?_ ?_
           · -- steps
            refine ⟨?_, ?_, ?_, ?_, ?_, ?_, ?_, ?_, ?_, ?_, ?_, trivial⟩
            · -- 0
             rintro _ S hF hS D hp K hK
             try dsimp only at hF ⊢
             refine d_need (small := [(24, (.slice bs62 (((shS by_ (endS s (((es).getD i (0, 0)).2 % 65536))).a).length) cp63))]) ⟨look_b rfl rfl, trivial⟩ ?_
             refine tp rfl (lv_move rfl) ?_
             exact d_closes ⟨look_b rfl rfl, trivial⟩ 0 rfl rfl rfl hS (AgreeR.refl _) (t_sat (fun _ h => h) (hK () trivial))
            · -- 1
             rintro _ S hF hS D hp K hK
             try dsimp only at hF ⊢
             refine d_need (small := [(25, (.int .i64 ((k : Nat) : Int)))]) ⟨look_b rfl rfl, trivial⟩ ?_
             refine tp rfl (lv_move rfl) ?_
             exact d_closes ⟨look_b rfl rfl, trivial⟩ 1 rfl rfl rfl hS (AgreeR.refl _) (t_sat (fun _ h => h) (hK () trivial))
            · -- 2
             rintro _ S hF hS D hp K hK
             try dsimp only at hF ⊢
             have s0 := hp 0 rfl
             have s1 := hp 1 rfl
             refine d_need (small := [(158, (.slice bs62 (((shS by_ (endS s (((es).getD i (0, 0)).2 % 65536))).a).length) cp63)), (159, (.int .i64 ((k : Nat) : Int)))]) ⟨look_row rfl 0 rfl s0, look_row rfl 1 rfl s1, trivial⟩ ?_
             refine tp rfl (lv_indexAddr (k' := k) Try.underlying27 Try.sizeOf3 rfl rfl hok64 (by omega) (by omega) (by omega)) ?_
             exact d_closes ⟨look_row rfl 0 rfl s0, look_row rfl 1 rfl s1, trivial⟩ 2 rfl rfl rfl hS (AgreeR.refl _) (t_sat (fun _ h => h) (hK () trivial))
            · -- 3
             rintro _ S hF hS D hp K hK
             try dsimp only at hF ⊢
             have s2 := hp 2 rfl
             refine d_need (small := [(160, (.pointer (some (ad bs62 k))))]) ⟨look_row rfl 2 rfl s2, trivial⟩ ?_
             refine tp rfl (lv_load Try.isAgg3 rfl (gives_sl (.tail _ (.tail _ (.head _))) (ints_get (by omega)))) ?_
             exact d_closes ⟨look_row rfl 2 rfl s2, trivial⟩ 3 rfl rfl rfl hS (AgreeR.refl _) (t_sat (fun _ h => h) (hK () trivial))
            · -- 4
             rintro _ S hF hS D hp K hK
             try dsimp only at hF ⊢
             refine d_need (small := [(23, (.slice bs58 (((endS s (((es).getD i (0, 0)).2 % 65536)).a).length) cp59))]) ⟨look_b rfl rfl, trivial⟩ ?_
             refine tp rfl (lv_move rfl) ?_
             exact d_closes ⟨look_b rfl rfl, trivial⟩ 4 rfl rfl rfl hS (AgreeR.refl _) (t_sat (fun _ h => h) (hK () trivial))
            · -- 5
             rintro _ S hF hS D hp K hK
             try dsimp only at hF ⊢
             refine d_need (small := [(25, (.int .i64 ((k : Nat) : Int)))]) ⟨look_b rfl rfl, trivial⟩ ?_
             refine tp rfl (lv_move rfl) ?_
             exact d_closes ⟨look_b rfl rfl, trivial⟩ 5 rfl rfl rfl hS (AgreeR.refl _) (t_sat (fun _ h => h) (hK () trivial))
            · -- 6
             rintro _ S hF hS D hp K hK
             try dsimp only at hF ⊢
             have s4 := hp 4 rfl
             have s5 := hp 5 rfl
             refine d_need (small := [(162, (.slice bs58 (((endS s (((es).getD i (0, 0)).2 % 65536)).a).length) cp59)), (163, (.int .i64 ((k : Nat) : Int)))]) ⟨look_row rfl 4 rfl s4, look_row rfl 5 rfl s5, trivial⟩ ?_
             refine tp rfl (lv_indexAddr (k' := k) Try.underlying27 Try.sizeOf3 rfl rfl hok60 (by omega) (by omega) (by omega)) ?_
             exact d_closes ⟨look_row rfl 4 rfl s4, look_row rfl 5 rfl s5, trivial⟩ 6 rfl rfl rfl hS (AgreeR.refl _) (t_sat (fun _ h => h) (hK () trivial))
            · -- 7
             rintro _ S hF hS D hp K hK
             try dsimp only at hF ⊢
             have s6 := hp 6 rfl
             refine d_need (small := [(164, (.pointer (some (ad bs58 k))))]) ⟨look_row rfl 6 rfl s6, trivial⟩ ?_
             refine tp rfl (lv_load Try.isAgg3 rfl (gives_sl (.tail _ (.tail _ (.tail _ (.head _)))) (ints_get (by omega)))) ?_
             exact d_closes ⟨look_row rfl 6 rfl s6, trivial⟩ 7 rfl rfl rfl hS (AgreeR.refl _) (t_sat (fun _ h => h) (hK () trivial))
            · -- 8
             rintro _ S hF hS D hp K hK
             try dsimp only at hF ⊢
             refine d_need (small := [(12, (.int .i64 by_))]) ⟨look_b rfl rfl, trivial⟩ ?_
             refine tp rfl (lv_move rfl) ?_
             exact d_closes ⟨look_b rfl rfl, trivial⟩ 8 rfl rfl rfl hS (AgreeR.refl _) (t_sat (fun _ h => h) (hK () trivial))
            · -- 9
             rintro _ S hF hS D hp K hK
             try dsimp only at hF ⊢
             have s7 := hp 7 rfl
             have s8 := hp 8 rfl
             refine d_need (small := [(165, (.int .i64 (((endS s (((es).getD i (0, 0)).2 % 65536)).a).getD k 0))), (166, (.int .i64 by_))]) ⟨look_row rfl 7 rfl s7, look_row rfl 8 rfl s8, trivial⟩ ?_
             refine tp rfl (lv_add (c := (((endS s (((es).getD i (0, 0)).2 % 65536)).a).getD k 0) + by_) rfl rfl (wr_i64 (by omega) (by omega))) ?_
             exact d_closes ⟨look_row rfl 7 rfl s7, look_row rfl 8 rfl s8, trivial⟩ 9 rfl rfl rfl hS (AgreeR.refl _) (t_sat (fun _ h => h) (hK () trivial))
            · -- 10
             rintro _ S hF hS D hp K hK
             try dsimp only at hF ⊢
             have s3 := hp 3 rfl
             have s9 := hp 9 rfl
             refine d_need (small := [(161, (.int .i64 (((shS by_ (endS s (((es).getD i (0, 0)).2 % 65536))).a).getD k 0))), (167, (.int .i64 ((((endS s (((es).getD i (0, 0)).2 % 65536)).a).getD k 0) + by_)))]) ⟨look_row rfl 3 rfl s3, look_row rfl 9 rfl s9, trivial⟩ ?_
             refine tp rfl (lv_neq rfl rfl (bne_eq_false_iff_eq.2 hsk)) ?_
             exact d_closes ⟨look_row rfl 3 rfl s3, look_row rfl 9 rfl s9, trivial⟩ 10 rfl rfl rfl hS (AgreeR.refl _) (t_sat (fun _ h => h) (hK () trivial))
           · -- behind
            rintro _ hF
            try dsimp only at hF ⊢
            refine t_weak (E' := [(0, (.int .i64 A)), (1, (.int .i64 Q)), (2, (.slice bl es.length cl)), (3, (.int .u8 by_)), (9, (.bool true)), (10, (.pointer (some ⟨p1, 0, none⟩))), (11, (.pointer (some ⟨p2, 0, none⟩))), (12, (.int .i64 by_)), (13, (.int .i64 ((i : Nat) : Int))), (14, (.int .i64 (((es).getD i (0, 0)).2 % 65536))), (15, (.int .i64 n)), (16, (.int .i64 0)), (17, (.int .i64 (n + by_))), (18, (.int .i64 0)), (23, (.slice bs58 (((endS s (((es).getD i (0, 0)).2 % 65536)).a).length) cp59)), (24, (.slice bs62 (((shS by_ (endS s (((es).getD i (0, 0)).2 % 65536))).a).length) cp63)), (25, (.int .i64 ((k : Nat) : Int))), (38, (.bool false)), (48, (.bool true)), (62, (.bool true)), (111, (.bool false)), (151, (.bool false)), (155, (.bool true)), (168, (.bool false))]) ⟨rfl, rfl, rfl, rfl, rfl, rfl, rfl, rfl, rfl, rfl, rfl, rfl, rfl, rfl, rfl, rfl, rfl, rfl, rfl, rfl, rfl, rfl, rfl, rfl, trivial⟩ ?_
            refine q_then_n (hK29 _ _ ?_)
            refine c_false rfl ?_
            refine c_skip ?_
            refine q_in_n ?_
            refine q_then_n (hK28 _ _ ?_)
            refine c_region ?_
            refine tp rfl (lv_move rfl) ?_
            refine tp rfl (lv_add (c := ((k + 1 : Nat) : Int)) rfl rfl (wr_i64_succ (by omega))) ?_
            refine tp rfl (lv_assign rfl) ?_
            refine t_done ?_
            refine q_then_n ?_
            exact t_weak (by exact ⟨rfl, rfl, rfl, rfl, rfl, rfl, rfl, rfl, rfl, rfl, rfl, rfl, rfl, rfl, rfl, rfl, rfl, rfl, rfl, rfl, rfl, rfl, trivial⟩) ((hK25 (k + 1) (by omega) (by omega)))
          · -- no
           refine tp rfl (lv_lss rfl rfl (decide_eq_false h74)) ?_
           refine t_done ?_
           refine q_then_n (hK27 _ _ ?_)
           refine c_false rfl ?_
           refine c_exit ?_
           refine q_then_x ?_
           refine q_then_x ?_
           refine q_in_x ?_
           refine q_in_n ?_
           refine q_then_n (hK13 _ _ ?_)
           refine c_region ?_
           refine tp rfl (lv_move rfl) ?_
           refine tp rfl (lv_add (c := ((i + 1 : Nat) : Int)) rfl rfl (wr_i64_succ (by omega))) ?_
           refine tp rfl (lv_assign rfl) ?_
           refine t_done ?_
           refine q_then_n ?_
           refine t_f2 ?_
           refine t_drop ?_
           refine t_f2 ?_
           refine t_drop ?_
           exact t_weak (by exact ⟨rfl, rfl, rfl, rfl, rfl, rfl, rfl, rfl, rfl, rfl, trivial⟩) ((hK10 (i + 1, endS s (((es).getD i (0, 0)).2 % 65536)) ⟨by omega, by omega, by dsimp only; omega, hnx⟩ (by dsimp only; omega)))
        · -- no
         refine tp rfl (lv_gtr rfl rfl (decide_eq_false h39)) ?_
         refine t_guard rfl rfl ?_
         refine tp rfl (lv_move rfl) ?_
         refine t_skip rfl rfl rfl ?_
         refine t_skip rfl rfl rfl ?_
         refine t_skip rfl rfl rfl ?_
         refine t_skip rfl rfl rfl ?_
         refine t_skip rfl rfl rfl ?_
         refine t_guard rfl rfl ?_
         refine tp rfl (lv_pick_f rfl rfl) ?_
         refine tp rfl (lv_pick_f rfl rfl) ?_
         refine tp rfl (lv_move rfl) ?_
         refine t_guard rfl rfl ?_
         refine tp rfl (lv_move rfl) ?_
         refine t_guard rfl rfl ?_
         refine tp rfl (lv_eql rfl rfl (beq_eq_false_iff_ne.2 (by omega))) ?_
         refine t_guard rfl rfl ?_
         refine tp rfl (lv_move rfl) ?_
         refine t_skip rfl rfl rfl ?_
         refine t_skip rfl rfl rfl ?_
         refine t_guard rfl rfl ?_
         refine tp rfl (lv_pick_f rfl rfl) ?_
         refine tp rfl (lv_pick_f rfl rfl) ?_
         refine tp rfl (lv_move rfl) ?_
         refine t_guard rfl rfl ?_
         refine tp rfl (lv_move rfl) ?_
         refine t_guard rfl rfl ?_
         by_cases h75 : n = 0
         · -- yes
          refine tp rfl (lv_eql rfl rfl (beq_iff_eq.2 h75)) ?_
          refine t_guard rfl rfl ?_
          refine tp rfl (lv_move rfl) ?_
          refine t_guard rfl rfl ?_
          refine tp rfl (lv_move rfl) ?_
          refine t_guard rfl rfl ?_
          refine tp rfl (lv_eql (r := true) rfl rfl (by decide)) ?_
          refine t_guard rfl rfl ?_
          refine tp rfl (lv_pick_t rfl rfl) ?_
          refine t_guard rfl rfl ?_
          refine tp rfl (lv_move rfl) ?_
          refine t_guard rfl rfl ?_
          refine tp rfl (lv_move rfl) ?_
          refine t_guard rfl rfl ?_
          refine tp rfl (lv_move rfl) ?_
          refine t_guard rfl rfl ?_
          refine tp rfl (lv_neq rfl rfl (bne_eq_false_iff_eq.2 (by omega))) ?_
          refine t_guard rfl rfl ?_
          refine tp rfl (lv_pick_t rfl rfl) ?_
          refine tp rfl (lv_pick_f rfl rfl) ?_
          refine t_done ?_
          refine q_then_n (hK19 _ _ ?_)
          refine c_false rfl ?_
          refine c_skip ?_
          refine q_then_n (hK15 _ _ ?_)
          refine c_seq (fun K20 hK20 => ?_)
          refine c_region ?_
          have hnx : ∀ y ∈ (endS s (((es).getD i (0, 0)).2 % 65536)).a ++ (endS s (((es).getD i (0, 0)).2 % 65536)).q, 0 ≤ y ∧ y ≤ 65535 := endS_all hall
          have hgr := endS_len s (((es).getD i (0, 0)).2 % 65536)
          have hla2 := shS_la by_ (endS s (((es).getD i (0, 0)).2 % 65536))
          have hlq2 := shS_lq by_ (endS s (((es).getD i (0, 0)).2 % 65536))
          refine tp rfl (lv_move rfl) ?_
          refine t_f1 ?_
          refine tc rfl (en_fn Try.call16 rfl) (actives_ok (A := max A 1) (Q := max Q 0) (s := endS s (((es).getD i (0, 0)).2 % 65536)) (by omega)) ?_
          rintro _ _ ⟨bs76, cp77, hok78, hle79, rfl, rfl⟩
          refine tp rfl (lv_assign rfl) ?_
          refine t_done ?_
          refine q_then_n (hK20 _ _ ?_)
          refine c_seq (fun K21 hK21 => ?_)
          refine c_region ?_
          refine tp rfl (lv_move rfl) ?_
          refine t_f2 ?_
          refine tc rfl (en_fn Try.call16 rfl) (actives_ok (A := max A 1) (Q := max Q 0) (s := shS by_ (endS s (((es).getD i (0, 0)).2 % 65536))) (by omega)) ?_
          rintro _ _ ⟨bs80, cp81, hok82, hle83, rfl, rfl⟩
          refine tp rfl (lv_assign rfl) ?_
          refine t_done ?_
          refine q_then_n (hK21 _ _ ?_)
          refine c_seq (fun K22 hK22 => ?_)
          refine c_seq (fun K23 hK23 => ?_)
          refine c_region ?_
          refine tp rfl (lv_move rfl) ?_
          refine tp rfl (lv_len Try.underlying27 rfl rfl) ?_
          refine tp rfl (lv_move rfl) ?_
          refine tp rfl (lv_len Try.underlying27 rfl rfl) ?_
          refine tp rfl (lv_neq rfl rfl (bne_eq_false_iff_eq.2 (by omega))) ?_
          refine tp rfl (lv_move rfl) ?_
          refine t_guard rfl rfl ?_
          refine tp rfl (lv_move rfl) ?_
          refine t_guard rfl rfl ?_
          refine t_f3 ?_
          refine tc rfl (en_fn Try.call17 rfl) (waiting_ok (A := max A 1) (Q := max Q 0) (s := endS s (((es).getD i (0, 0)).2 % 65536)) (by omega)) ?_
          rintro _ _ ⟨bs84, cp85, hok86, hle87, rfl, rfl⟩
          refine t_guard rfl rfl ?_
          refine tp rfl (lv_len Try.underlying27 rfl rfl) ?_
          refine t_guard rfl rfl ?_
          refine tp rfl (lv_move rfl) ?_
          refine t_guard rfl rfl ?_
          refine t_f3 ?_
          refine tc rfl (en_fn Try.call17 rfl) (waiting_ok (A := max A 1) (Q := max Q 0) (s := shS by_ (endS s (((es).getD i (0, 0)).2 % 65536))) (by omega)) ?_
          rintro _ _ ⟨bs88, cp89, hok90, hle91, rfl, rfl⟩
          refine t_guard rfl rfl ?_
          refine tp rfl (lv_len Try.underlying27 rfl rfl) ?_
          refine t_guard rfl rfl ?_
          refine tp rfl (lv_neq rfl rfl (bne_eq_false_iff_eq.2 (by omega))) ?_
          refine tp rfl (lv_pick_f rfl rfl) ?_
          refine t_done ?_
          refine q_then_n (hK23 _ _ ?_)
          refine c_false rfl ?_
          refine c_skip ?_
          refine q_then_n (hK22 _ _ ?_)
          refine c_seq (fun K24 hK24 => ?_)
          refine c_region ?_
          refine tp rfl (lv_assign rfl) ?_
          refine t_done ?_
          refine q_then_n (hK24 _ _ ?_)
          refine c_block ?_
          refine t_drop ?_
          refine t_f1 ?_
          refine t_drop ?_
          refine c_loop (γ := (Nat)) (fun (k : Nat) => k ≤ (endS s (((es).getD i (0, 0)).2 % 65536)).a.length) (fun (k : Nat) => [(0, (.int .i64 A)), (1, (.int .i64 Q)), (2, (.slice bl es.length cl)), (3, (.int .u8 by_)), (9, (.bool true)), (10, (.pointer (some ⟨p1, 0, none⟩))), (11, (.pointer (some ⟨p2, 0, none⟩))), (12, (.int .i64 by_)), (13, (.int .i64 ((i : Nat) : Int))), (14, (.int .i64 (((es).getD i (0, 0)).2 % 65536))), (15, (.int .i64 n)), (16, (.int .i64 0)), (17, (.int .i64 (n + by_))), (18, (.int .i64 0)), (23, (.slice bs76 (((endS s (((es).getD i (0, 0)).2 % 65536)).a).length) cp77)), (24, (.slice bs80 (((shS by_ (endS s (((es).getD i (0, 0)).2 % 65536))).a).length) cp81)), (25, (.int .i64 ((k : Nat) : Int))), (38, (.bool false)), (48, (.bool true)), (62, (.bool true)), (111, (.bool false)), (151, (.bool false))]) (fun (k : Nat) => (AdmO p2 (max A 1) (max Q 0) (shS by_ (endS s (((es).getD i (0, 0)).2 % 65536)))) :: (AdmO p1 (max A 1) (max Q 0) (endS s (((es).getD i (0, 0)).2 % 65536))) :: (SlV 3 1 (.slice bs80 (((shS by_ (endS s (((es).getD i (0, 0)).2 % 65536))).a).length) cp81) (((shS by_ (endS s (((es).getD i (0, 0)).2 % 65536))).a).length) (ints .i64 ((shS by_ (endS s (((es).getD i (0, 0)).2 % 65536))).a))) :: (SlV 3 1 (.slice bs76 (((endS s (((es).getD i (0, 0)).2 % 65536)).a).length) cp77) (((endS s (((es).getD i (0, 0)).2 % 65536)).a).length) (ints .i64 ((endS s (((es).getD i (0, 0)).2 % 65536)).a))) :: R) (fun (k : Nat) => (endS s (((es).getD i (0, 0)).2 % 65536)).a.length - k) (0) (by omega) ⟨rfl, rfl, rfl, rfl, rfl, rfl, rfl, rfl, rfl, rfl, rfl, rfl, rfl, rfl, rfl, rfl, rfl, rfl, rfl, rfl, rfl, rfl, trivial⟩ (fun _ h => h) ?_
          rintro k K25 hF hK25
          try dsimp only at hF hK25 ⊢
          refine c_seq (fun K26 hK26 => ?_)
          refine c_seq (fun K27 hK27 => ?_)
          refine c_region ?_
          refine tp rfl (lv_move rfl) ?_
          refine tp rfl (lv_move rfl) ?_
          refine tp rfl (lv_len Try.underlying27 rfl rfl) ?_
          by_cases h92 : ((k : Nat) : Int) < ((((endS s (((es).getD i (0, 0)).2 % 65536)).a).length : Nat) : Int)
          · -- yes
           refine tp rfl (lv_lss rfl rfl (decide_eq_true h92)) ?_
           refine t_done ?_
           refine q_then_n (hK27 _ _ ?_)
           refine c_true rfl ?_
           refine c_skip ?_
           refine q_then_n (hK26 _ _ ?_)
           refine c_seq (fun K28 hK28 => ?_)
           refine c_block ?_
           refine c_seq (fun K29 hK29 => ?_)
           have hbk := hnx _ (List.mem_append_left _ (getD_mem (l := (endS s (((es).getD i (0, 0)).2 % 65536)).a) (k := k) (by omega)))
           have hsk : (shS by_ (endS s (((es).getD i (0, 0)).2 % 65536))).a.getD k 0 = (endS s (((es).getD i (0, 0)).2 % 65536)).a.getD k 0 + by_ := sh_get _ _ (by omega)
           refine c_draw (γ := Unit) (n := 11) Try.mixed rfl rfl (fun _ S => True) (fun _ => [(0, 158, (.slice bs80 (((shS by_ (endS s (((es).getD i (0, 0)).2 % 65536))).a).length) cp81)), (1, 159, (.int .i64 ((k : Nat) : Int))), (2, 160, (.pointer (some (ad bs80 k)))), (3, 161, (.int .i64 (((shS by_ (endS s (((es).getD i (0, 0)).2 % 65536))).a).getD k 0))), (4, 162, (.slice bs76 (((endS s (((es).getD i (0, 0)).2 % 65536)).a).length) cp77)), (5, 163, (.int .i64 ((k : Nat) : Int))), (6, 164, (.pointer (some (ad bs76 k)))), (7, 165, (.int .i64 (((endS s (((es).getD i (0, 0)).2 % 65536)).a).getD k 0))), (8, 166, (.int .i64 by_)), (9, 167, (.int .i64 ((((endS s (((es).getD i (0, 0)).2 % 65536)).a).getD k 0) + by_))), (10, 168, (.bool false))]) (fun _ S => (AdmO p2 (max A 1) (max Q 0) (shS by_ (endS s (((es).getD i (0, 0)).2 % 65536)))) :: (AdmO p1 (max A 1) (max Q 0) (endS s (((es).getD i (0, 0)).2 % 65536))) :: (SlV 3 1 (.slice bs80 (((shS by_ (endS s (((es).getD i (0, 0)).2 % 65536))).a).length) cp81) (((shS by_ (endS s (((es).getD i (0, 0)).2 % 65536))).a).length) (ints .i64 ((shS by_ (endS s (((es).getD i (0, 0)).2 % 65536))).a))) :: (SlV 3 1 (.slice bs76 (((endS s (((es).getD i (0, 0)).2 % 65536)).a).length) cp77) (((endS s (((es).getD i (0, 0)).2 % 65536)).a).length) (ints .i64 ((endS s (((es).getD i (0, 0)).2 % 65536)).a))) :: R) (()) trivial (fun _ h => h) (fun _ _ h => h) ?_ ?_
           · -- steps
            refine ⟨?_, ?_, ?_, ?_, ?_, ?_, ?_, ?_, ?_, ?_, ?_, trivial⟩
            · -- 0
             rintro _ S hF hS D hp K hK
             try dsimp only at hF ⊢
             refine d_need (small := [(24, (.slice bs80 (((shS by_ (endS s (((es).getD i (0, 0)).2 % 65536))).a).length) cp81))]) ⟨look_b rfl rfl, trivial⟩ ?_
             refine tp rfl (lv_move rfl) ?_
             exact d_closes ⟨look_b rfl rfl, trivial⟩ 0 rfl rfl rfl hS (AgreeR.refl _) (t_sat (fun _ h => h) (hK () trivial))
            · -- 1
             rintro _ S hF hS D hp K hK
             try dsimp only at hF ⊢
             refine d_need (small := [(25, (.int .i64 ((k : Nat) : Int)))]) ⟨look_b rfl rfl, trivial⟩ ?_
             refine tp rfl (lv_move rfl) ?_
             exact d_closes ⟨look_b rfl rfl, trivial⟩ 1 rfl rfl rfl hS (AgreeR.refl _) (t_sat (fun _ h => h) (hK () trivial))
            · -- 2
             rintro _ S hF hS D hp K hK
             try dsimp only at hF ⊢
             have s0 := hp 0 rfl
             have s1 := hp 1 rfl
             refine d_need (small := [(158, (.slice bs80 (((shS by_ (endS s (((es).getD i (0, 0)).2 % 65536))).a).length) cp81)), (159, (.int .i64 ((k : Nat) : Int)))]) ⟨look_row rfl 0 rfl s0, look_row rfl 1 rfl s1, trivial⟩ ?_
             refine tp rfl (lv_indexAddr (k' := k) Try.underlying27 Try.sizeOf3 rfl rfl hok82 (by omega) (by omega) (by omega)) ?_
             exact d_closes ⟨look_row rfl 0 rfl s0, look_row rfl 1 rfl s1, trivial⟩ 2 rfl rfl rfl hS (AgreeR.refl _) (t_sat (fun _ h => h) (hK () trivial))
            · -- 3
             rintro _ S hF hS D hp K hK
             try dsimp only at hF ⊢
             have s2 := hp 2 rfl
             refine d_need (small := [(160, (.pointer (some (ad bs80 k))))]) ⟨look_row rfl 2 rfl s2, trivial⟩ ?_
             refine tp rfl (lv_load Try.isAgg3 rfl (gives_sl (.tail _ (.tail _ (.head _))) (ints_get (by omega)))) ?_
             exact d_closes ⟨look_row rfl 2 rfl s2, trivial⟩ 3 rfl rfl rfl hS (AgreeR.refl _) (t_sat (fun _ h => h) (hK () trivial))
            · -- 4
             rintro _ S hF hS D hp K hK
             try dsimp only at hF ⊢
             refine d_need (small := [(23, (.slice bs76 (((endS s (((es).getD i (0, 0)).2 % 65536)).a).length) cp77))]) ⟨look_b rfl rfl, trivial⟩ ?_
             refine tp rfl (lv_move rfl) ?_
             exact d_closes ⟨look_b rfl rfl, trivial⟩ 4 rfl rfl rfl hS (AgreeR.refl _) (t_sat (fun _ h => h) (hK () trivial))
            · -- 5
             rintro _ S hF hS D hp K hK
             try dsimp only at hF ⊢
             refine d_need (small := [(25, (.int .i64 ((k : Nat) : Int)))]) ⟨look_b rfl rfl, trivial⟩ ?_
             refine tp rfl (lv_move rfl) ?_
             exact d_closes ⟨look_b rfl rfl, trivial⟩ 5 rfl rfl rfl hS (AgreeR.refl _) (t_sat (fun _ h => h) (hK () trivial))
            · -- 6
             rintro _ S hF hS D hp K hK
             try dsimp only at hF ⊢
             have s4 := hp 4 rfl
             have s5 := hp 5 rfl
             refine d_need (small := [(162, (.slice bs76 (((endS s (((es).getD i (0, 0)).2 % 65536)).a).length) cp77)), (163, (.int .i64 ((k : Nat) : Int)))]) ⟨look_row rfl 4 rfl s4, look_row rfl 5 rfl s5, trivial⟩ ?_
             refine tp rfl (lv_indexAddr (k' := k) Try.underlying27 Try.sizeOf3 rfl rfl hok78 (by omega) (by omega) (by omega)) ?_
             exact d_closes ⟨look_row rfl 4 rfl s4, look_row rfl 5 rfl s5, trivial⟩ 6 rfl rfl rfl hS (AgreeR.refl _) (t_sat (fun _ h => h) (hK () trivial))
            · -- 7
             rintro _ S hF hS D hp K hK
             try dsimp only at hF ⊢
             have s6 := hp 6 rfl
             refine d_need (small := [(164, (.pointer (some (ad bs76 k))))]) ⟨look_row rfl 6 rfl s6, trivial⟩ ?_
             refine tp rfl (lv_load Try.isAgg3 rfl (gives_sl (.tail _ (.tail _ (.tail _ (.head _)))) (ints_get (by omega)))) ?_
             exact d_closes ⟨look_row rfl 6 rfl s6, trivial⟩ 7 rfl rfl rfl hS (AgreeR.refl _) (t_sat (fun _ h => h) (hK () trivial))
            · -- 8
             rintro _ S hF hS D hp K hK
             try dsimp only at hF ⊢
             refine d_need (small := [(12, (.int .i64 by_))]) ⟨look_b rfl rfl, trivial⟩ ?_
             refine tp rfl (lv_move rfl) ?_
             exact d_closes ⟨look_b rfl rfl, trivial⟩ 8 rfl rfl rfl hS (AgreeR.refl _) (t_sat (fun _ h => h) (hK () trivial))
            · -- 9
             rintro _ S hF hS D hp K hK
             try dsimp only at hF ⊢
             have s7 := hp 7 rfl
             have s8 := hp 8 rfl
             refine d_need (small := [(165, (.int .i64 (((endS s (((es).getD i (0, 0)).2 % 65536)).a).getD k 0))), (166, (.int .i64 by_))]) ⟨look_row rfl 7 rfl s7, look_row rfl 8 rfl s8, trivial⟩ ?_
             refine tp rfl (lv_add (c := (((endS s (((es).getD i (0, 0)).2 % 65536)).a).getD k 0) + by_) rfl rfl (wr_i64 (by omega) (by omega))) ?_
             exact d_closes ⟨look_row rfl 7 rfl s7, look_row rfl 8 rfl s8, trivial⟩ 9 rfl rfl rfl hS (AgreeR.refl _) (t_sat (fun _ h => h) (hK () trivial))
            · -- 10
             rintro _ S hF hS D hp K hK
             try dsimp only at hF ⊢
             have s3 := hp 3 rfl
             have s9 := hp 9 rfl
             refine d_need (small := [(161, (.int .i64 (((shS by_ (endS s (((es).getD i (0, 0)).2 % 65536))).a).getD k 0))), (167, (.int .i64 ((((endS s (((es).getD i (0, 0)).2 % 65536)).a).getD k 0) + by_)))]) ⟨look_row rfl 3 rfl s3, look_row rfl 9 rfl s9, trivial⟩ ?_
             refine tp rfl (lv_neq rfl rfl (bne_eq_false_iff_eq.2 hsk)) ?_
             exact d_closes ⟨look_row rfl 3 rfl s3, look_row rfl 9 rfl s9, trivial⟩ 10 rfl rfl rfl hS (AgreeR.refl _) (t_sat (fun _ h => h) (hK () trivial))
           · -- behind
            rintro _ hF
            try dsimp only at hF ⊢
            refine t_weak (E' := [(0, (.int .i64 A)), (1, (.int .i64 Q)), (2, (.slice bl es.length cl)), (3, (.int .u8 by_)), (9, (.bool true)), (10, (.pointer (some ⟨p1, 0, none⟩))), (11, (.pointer (some ⟨p2, 0, none⟩))), (12, (.int .i64 by_)), (13, (.int .i64 ((i : Nat) : Int))), (14, (.int .i64 (((es).getD i (0, 0)).2 % 65536))), (15, (.int .i64 n)), (16, (.int .i64 0)), (17, (.int .i64 (n + by_))), (18, (.int .i64 0)), (23, (.slice bs76 (((endS s (((es).getD i (0, 0)).2 % 65536)).a).length) cp77)), (24, (.slice bs80 (((shS by_ (endS s (((es).getD i (0, 0)).2 % 65536))).a).length) cp81)), (25, (.int .i64 ((k : Nat) : Int))), (38, (.bool false)), (48, (.bool true)), (62, (.bool true)), (111, (.bool false)), (151, (.bool false)), (155, (.bool true)), (168, (.bool false))]) ⟨rfl, rfl, rfl, rfl, rfl, rfl, rfl, rfl, rfl, rfl, rfl, rfl, rfl, rfl, rfl, rfl, rfl, rfl, rfl, rfl, rfl, rfl, rfl, rfl, trivial⟩ ?_
            refine q_then_n (hK29 _ _ ?_)
            refine c_false rfl ?_
            refine c_skip ?_
            refine q_in_n ?_
            refine q_then_n (hK28 _ _ ?_)
            refine c_region ?_
            refine tp rfl (lv_move rfl) ?_
            refine tp rfl (lv_add (c := ((k + 1 : Nat) : Int)) rfl rfl (wr_i64_succ (by omega))) ?_
            refine tp rfl (lv_assign rfl) ?_
            refine t_done ?_
            refine q_then_n ?_
            exact t_weak (by exact ⟨rfl, rfl, rfl, rfl, rfl, rfl, rfl, rfl, rfl, rfl, rfl, rfl, rfl, rfl, rfl, rfl, rfl, rfl, rfl, rfl, rfl, rfl, trivial⟩) ((hK25 (k + 1) (by omega) (by omega)))
          · -- no
           refine tp rfl (lv_lss rfl rfl (decide_eq_false h92)) ?_
           refine t_done ?_
           refine q_then_n (hK27 _ _ ?_)
           refine c_false rfl ?_
           refine c_exit ?_
           refine q_then_x ?_
           refine q_then_x ?_
           refine q_in_x ?_
           refine q_in_n ?_
           refine q_then_n (hK13 _ _ ?_)
           refine c_region ?_
           refine tp rfl (lv_move rfl) ?_
           refine tp rfl (lv_add (c := ((i + 1 : Nat) : Int)) rfl rfl (wr_i64_succ (by omega))) ?_
           refine tp rfl (lv_assign rfl) ?_
           refine t_done ?_
           refine q_then_n ?_
           refine t_f2 ?_
           refine t_drop ?_
           refine t_f2 ?_
           refine t_drop ?_
           exact t_weak (by exact ⟨rfl, rfl, rfl, rfl, rfl, rfl, rfl, rfl, rfl, rfl, trivial⟩) ((hK10 (i + 1, endS s (((es).getD i (0, 0)).2 % 65536)) ⟨by omega, by omega, by dsimp only; omega, hnx⟩ (by dsimp only; omega)))
         · -- no
          refine tp rfl (lv_eql rfl rfl (beq_eq_false_iff_ne.2 h75)) ?_
          refine t_guard rfl rfl ?_
          refine tp rfl (lv_move rfl) ?_
          refine t_skip rfl rfl rfl ?_
          refine t_skip rfl rfl rfl ?_
          refine t_guard rfl rfl ?_
          refine tp rfl (lv_pick_f rfl rfl) ?_
          refine t_guard rfl rfl ?_
          refine tp rfl (lv_move rfl) ?_
          refine t_skip rfl rfl rfl ?_
          refine t_skip rfl rfl rfl ?_
          refine t_skip rfl rfl rfl ?_
          refine t_guard rfl rfl ?_
          refine tp rfl (lv_pick_f rfl rfl) ?_
          refine tp rfl (lv_pick_f rfl rfl) ?_
          refine t_done ?_
          refine q_then_n (hK19 _ _ ?_)
          refine c_false rfl ?_
          refine c_skip ?_
          refine q_then_n (hK15 _ _ ?_)
          refine c_seq (fun K20 hK20 => ?_)
          refine c_region ?_
          have hnx : ∀ y ∈ (endS s (((es).getD i (0, 0)).2 % 65536)).a ++ (endS s (((es).getD i (0, 0)).2 % 65536)).q, 0 ≤ y ∧ y ≤ 65535 := endS_all hall
          have hgr := endS_len s (((es).getD i (0, 0)).2 % 65536)
          have hla2 := shS_la by_ (endS s (((es).getD i (0, 0)).2 % 65536))
          have hlq2 := shS_lq by_ (endS s (((es).getD i (0, 0)).2 % 65536))
          refine tp rfl (lv_move rfl) ?_
          refine t_f1 ?_
          refine tc rfl (en_fn Try.call16 rfl) (actives_ok (A := max A 1) (Q := max Q 0) (s := endS s (((es).getD i (0, 0)).2 % 65536)) (by omega)) ?_
          rintro _ _ ⟨bs93, cp94, hok95, hle96, rfl, rfl⟩
          refine tp rfl (lv_assign rfl) ?_
          refine t_done ?_
          refine q_then_n (hK20 _ _ ?_)
          refine c_seq (fun K21 hK21 => ?_)
          refine c_region ?_
          refine tp rfl (lv_move rfl) ?_
          refine t_f2 ?_
          refine tc rfl (en_fn Try.call16 rfl) (actives_ok (A := max A 1) (Q := max Q 0) (s := shS by_ (endS s (((es).getD i (0, 0)).2 % 65536))) (by omega)) ?_
          rintro _ _ ⟨bs97, cp98, hok99, hle100, rfl, rfl⟩
          refine tp rfl (lv_assign rfl) ?_
          refine t_done ?_
          refine q_then_n (hK21 _ _ ?_)
          refine c_seq (fun K22 hK22 => ?_)
          refine c_seq (fun K23 hK23 => ?_)
          refine c_region ?_
          refine tp rfl (lv_move rfl) ?_
          refine tp rfl (lv_len Try.underlying27 rfl rfl) ?_
          refine tp rfl (lv_move rfl) ?_
          refine tp rfl (lv_len Try.underlying27 rfl rfl) ?_
          refine tp rfl (lv_neq rfl rfl (bne_eq_false_iff_eq.2 (by omega))) ?_
          refine tp rfl (lv_move rfl) ?_
          refine t_guard rfl rfl ?_
          refine tp rfl (lv_move rfl) ?_
          refine t_guard rfl rfl ?_
          refine t_f3 ?_
          refine tc rfl (en_fn Try.call17 rfl) (waiting_ok (A := max A 1) (Q := max Q 0) (s := endS s (((es).getD i (0, 0)).2 % 65536)) (by omega)) ?_
          rintro _ _ ⟨bs101, cp102, hok103, hle104, rfl, rfl⟩
          refine t_guard rfl rfl ?_
          refine tp rfl (lv_len Try.underlying27 rfl rfl) ?_
          refine t_guard rfl rfl ?_
          refine tp rfl (lv_move rfl) ?_
          refine t_guard rfl rfl ?_
          refine t_f3 ?_
          refine tc rfl (en_fn Try.call17 rfl) (waiting_ok (A := max A 1) (Q := max Q 0) (s := shS by_ (endS s (((es).getD i (0, 0)).2 % 65536))) (by omega)) ?_
          rintro _ _ ⟨bs105, cp106, hok107, hle108, rfl, rfl⟩
          refine t_guard rfl rfl ?_
          refine tp rfl (lv_len Try.underlying27 rfl rfl) ?_
          refine t_guard rfl rfl ?_
          refine tp rfl (lv_neq rfl rfl (bne_eq_false_iff_eq.2 (by omega))) ?_
          refine tp rfl (lv_pick_f rfl rfl) ?_
          refine t_done ?_
          refine q_then_n (hK23 _ _ ?_)
          refine c_false rfl ?_
          refine c_skip ?_
          refine q_then_n (hK22 _ _ ?_)
          refine c_seq (fun K24 hK24 => ?_)
          refine c_region ?_
          refine tp rfl (lv_assign rfl) ?_
          refine t_done ?_
          refine q_then_n (hK24 _ _ ?_)
          refine c_block ?_
          refine t_drop ?_
          refine t_f1 ?_
          refine t_drop ?_
          refine c_loop (γ := (Nat)) (fun (k : Nat) => k ≤ (endS s (((es).getD i (0, 0)).2 % 65536)).a.length) (fun (k : Nat) => [(0, (.int .i64 A)), (1, (.int .i64 Q)), (2, (.slice bl es.length cl)), (3, (.int .u8 by_)), (9, (.bool true)), (10, (.pointer (some ⟨p1, 0, none⟩))), (11, (.pointer (some ⟨p2, 0, none⟩))), (12, (.int .i64 by_)), (13, (.int .i64 ((i : Nat) : Int))), (14, (.int .i64 (((es).getD i (0, 0)).2 % 65536))), (15, (.int .i64 n)), (16, (.int .i64 0)), (17, (.int .i64 (n + by_))), (18, (.int .i64 0)), (23, (.slice bs93 (((endS s (((es).getD i (0, 0)).2 % 65536)).a).length) cp94)), (24, (.slice bs97 (((shS by_ (endS s (((es).getD i (0, 0)).2 % 65536))).a).length) cp98)), (25, (.int .i64 ((k : Nat) : Int))), (38, (.bool false)), (48, (.bool true)), (62, (.bool true)), (111, (.bool false)), (151, (.bool false))]) (fun (k : Nat) => (AdmO p2 (max A 1) (max Q 0) (shS by_ (endS s (((es).getD i (0, 0)).2 % 65536)))) :: (AdmO p1 (max A 1) (max Q 0) (endS s (((es).getD i (0, 0)).2 % 65536))) :: (SlV 3 1 (.slice bs97 (((shS by_ (endS s (((es).getD i (0, 0)).2 % 65536))).a).length) cp98) (((shS by_ (endS s (((es).getD i (0, 0)).2 % 65536))).a).length) (ints .i64 ((shS by_ (endS s (((es).getD i (0, 0)).2 % 65536))).a))) :: (SlV 3 1 (.slice bs93 (((endS s (((es).getD i (0, 0)).2 % 65536)).a).length) cp94) (((endS s (((es).getD i (0, 0)).2 % 65536)).a).length) (ints .i64 ((endS s (((es).getD i (0, 0)).2 % 65536)).a))) :: R) (fun (k : Nat) => (endS s (((es).getD i (0, 0)).2 % 65536)).a.length - k) (0) (by omega) ⟨rfl, rfl, rfl, rfl, rfl, rfl, rfl, rfl, rfl, rfl, rfl, rfl, rfl, rfl, rfl, rfl, rfl, rfl, rfl, rfl, rfl, rfl, trivial⟩ (fun _ h => h) ?_
          rintro k K25 hF hK25
          try dsimp only at hF hK25 ⊢
          refine c_seq (fun K26 hK26 => ?_)
          refine c_seq (fun K27 hK27 => ?_)
          refine c_region ?_
          refine tp rfl (lv_move rfl) ?_
          refine tp rfl (lv_move rfl) ?_
          refine tp rfl (lv_len Try.underlying27 rfl rfl) ?_
          by_cases h109 : ((k : Nat) : Int) < ((((endS s (((es).getD i (0, 0)).2 % 65536)).a).length : Nat) : Int)
          · -- yes
           refine tp rfl (lv_lss rfl rfl (decide_eq_true h109)) ?_
           refine t_done ?_
           refine q_then_n (hK27 _ _ ?_)
           refine c_true rfl ?_
           refine c_skip ?_
           refine q_then_n (hK26 _ _ ?_)
           refine c_seq (fun K28 hK28 => ?_)
           refine c_block ?_
           refine c_seq (fun K29 hK29 => ?_)
           have hbk := hnx _ (List.mem_append_left _ (getD_mem (l := (endS s (((es).getD i (0, 0)).2 % 65536)).a) (k := k) (by omega)))
           have hsk : (shS by_ (endS s (((es).getD i (0, 0)).2 % 65536))).a.getD k 0 = (endS s (((es).getD i (0, 0)).2 % 65536)).a.getD k 0 + by_ := sh_get _ _ (by omega)
           refine c_draw (γ := Unit) (n := 11) Try.mixed rfl rfl (fun _ S => True) (fun _ => [(0, 158, (.slice bs97 (((shS by_ (endS s (((es).getD i (0, 0)).2 % 65536))).a).length) cp98)), (1, 159, (.int .i64 ((k : Nat) : Int))), (2, 160, (.pointer (some (ad bs97 k)))), (3, 161, (.int .i64 (((shS by_ (endS s (((es).getD i (0, 0)).2 % 65536))).a).getD k 0))), (4, 162, (.slice bs93 (((endS s (((es).getD i (0, 0)).2 % 65536)).a).length) cp94)), (5, 163, (.int .i64 ((k : Nat) : Int))), (6, 164, (.pointer (some (ad bs93 k)))), (7, 165, (.int .i64 (((endS s (((es).getD i (0, 0)).2 % 65536)).a).getD k 0))), (8, 166, (.int .i64 by_)), (9, 167, (.int .i64 ((((endS s (((es).getD i (0, 0)).2 % 65536)).a).getD k 0) + by_))), (10, 168, (.bool false))]) (fun _ S => (AdmO p2 (max A 1) (max Q 0) (shS by_ (endS s (((es).getD i (0, 0)).2 % 65536)))) :: (AdmO p1 (max A 1) (max Q 0) (endS s (((es).getD i (0, 0)).2 % 65536))) :: (SlV 3 1 (.slice bs97 (((shS by_ (endS s (((es).getD i (0, 0)).2 % 65536))).a).length) cp98) (((shS by_ (endS s (((es).getD i (0, 0)).2 % 65536))).a).length) (ints .i64 ((shS by_ (endS s (((es).getD i (0, 0)).2 % 65536))).a))) :: (SlV 3 1 (.slice bs93 (((endS s (((es).getD i (0, 0)).2 % 65536)).a).length) cp94) (((endS s (((es).getD i (0, 0)).2 % 65536)).a).length) (ints .i64 ((endS s (((es).getD i (0, 0)).2 % 65536)).a))) :: R) (()) trivial (fun _ h => h) (fun _ _ h => h) ?_ ?_
           · -- steps
            refine ⟨?_, ?_, ?_, ?_, ?_, ?_, ?_, ?_, ?_, ?_, ?_, trivial⟩
            · -- 0
             rintro _ S hF hS D hp K hK
             try dsimp only at hF ⊢
             refine d_need (small := [(24, (.slice bs97 (((shS by_ (endS s (((es).getD i (0, 0)).2 % 65536))).a).length) cp98))]) ⟨look_b rfl rfl, trivial⟩ ?_
             refine tp rfl (lv_move rfl) ?_
             exact d_closes ⟨look_b rfl rfl, trivial⟩ 0 rfl rfl rfl hS (AgreeR.refl _) (t_sat (fun _ h => h) (hK () trivial))
            · -- 1
             rintro _ S hF hS D hp K hK
             try dsimp only at hF ⊢
             refine d_need (small := [(25, (.int .i64 ((k : Nat) : Int)))]) ⟨look_b rfl rfl, trivial⟩ ?_
             refine tp rfl (lv_move rfl) ?_
             exact d_closes ⟨look_b rfl rfl, trivial⟩ 1 rfl rfl rfl hS (AgreeR.refl _) (t_sat (fun _ h => h) (hK () trivial))
            · -- 2
             rintro _ S hF hS D hp K hK
             try dsimp only at hF ⊢
             have s0 := hp 0 rfl
             have s1 := hp 1 rfl
             refine d_need (small := [(158, (.slice bs97 (((shS by_ (endS s (((es).getD i (0, 0)).2 % 65536))).a).length) cp98)), (159, (.int .i64 ((k : Nat) : Int)))]) ⟨look_row rfl 0 rfl s0, look_row rfl 1 rfl s1, trivial⟩ ?_
             refine tp rfl (lv_indexAddr (k' := k) Try.underlying27 Try.sizeOf3 rfl rfl hok99 (by omega) (by omega) (by omega)) ?_
             exact d_closes ⟨look_row rfl 0 rfl s0, look_row rfl 1 rfl s1, trivial⟩ 2 rfl rfl rfl hS (AgreeR.refl _) (t_sat (fun _ h => h) (hK () trivial))
            · -- 3
             rintro _ S hF hS D hp K hK
             try dsimp only at hF ⊢
             have s2 := hp 2 rfl
             refine d_need (small := [(160, (.pointer (some (ad bs97 k))))]) ⟨look_row rfl 2 rfl s2, trivial⟩ ?_
             refine tp rfl (lv_load Try.isAgg3 rfl (gives_sl (.tail _ (.tail _ (.head _))) (ints_get (by omega)))) ?_
             exact d_closes ⟨look_row rfl 2 rfl s2, trivial⟩ 3 rfl rfl rfl hS (AgreeR.refl _) (t_sat (fun _ h => h) (hK () trivial))
            · -- 4
             rintro _ S hF hS D hp K hK
             try dsimp only at hF ⊢
             refine d_need (small := [(23, (.slice bs93 (((endS s (((es).getD i (0, 0)).2 % 65536)).a).length) cp94))]) ⟨look_b rfl rfl, trivial⟩ ?_
             refine tp rfl (lv_move rfl) ?_
             exact d_closes ⟨look_b rfl rfl, trivial⟩ 4 rfl rfl rfl hS (AgreeR.refl _) (t_sat (fun _ h => h) (hK () trivial))
            · -- 5
             rintro _ S hF hS D hp K hK
             try dsimp only at hF ⊢
             refine d_need (small := [(25, (.int .i64 ((k : Nat) : Int)))]) ⟨look_b rfl rfl, trivial⟩ ?_
             refine tp rfl (lv_move rfl) ?_
             exact d_closes ⟨look_b rfl rfl, trivial⟩ 5 rfl rfl rfl hS (AgreeR.refl _) (t_sat (fun _ h => h) (hK () trivial))
            · -- 6
             rintro _ S hF hS D hp K hK
             try dsimp only at hF ⊢
             have s4 := hp 4 rfl
             have s5 := hp 5 rfl
             refine d_need (small := [(162, (.slice bs93 (((endS s (((es).getD i (0, 0)).2 % 65536)).a).length) cp94)), (163, (.int .i64 ((k : Nat) : Int)))]) ⟨look_row rfl 4 rfl s4, look_row rfl 5 rfl s5, trivial⟩ ?_
             refine tp rfl (lv_indexAddr (k' := k) Try.underlying27 Try.sizeOf3 rfl rfl hok95 (by omega) (by omega) (by omega)) ?_
             exact d_closes ⟨look_row rfl 4 rfl s4, look_row rfl 5 rfl s5, trivial⟩ 6 rfl rfl rfl hS (AgreeR.refl _) (t_sat (fun _ h => h) (hK () trivial))
            · -- 7
             rintro _ S hF hS D hp K hK
             try dsimp only at hF ⊢
             have s6 := hp 6 rfl
             refine d_need (small := [(164, (.pointer (some (ad bs93 k))))]) ⟨look_row rfl 6 rfl s6, trivial⟩ ?_
             refine tp rfl (lv_load Try.isAgg3 rfl (gives_sl (.tail _ (.tail _ (.tail _ (.head _)))) (ints_get (by omega)))) ?_
             exact d_closes ⟨look_row rfl 6 rfl s6, trivial⟩ 7 rfl rfl rfl hS (AgreeR.refl _) (t_sat (fun _ h => h) (hK () trivial))
            · -- 8
             rintro _ S hF hS D hp K hK
             try dsimp only at hF ⊢
             refine d_need (small := [(12, (.int .i64 by_))]) ⟨look_b rfl rfl, trivial⟩ ?_
             refine tp rfl (lv_move rfl) ?_
             exact d_closes ⟨look_b rfl rfl, trivial⟩ 8 rfl rfl rfl hS (AgreeR.refl _) (t_sat (fun _ h => h) (hK () trivial))
            · -- 9
             rintro _ S hF hS D hp K hK
             try dsimp only at hF ⊢
             have s7 := hp 7 rfl
             have s8 := hp 8 rfl
             refine d_need (small := [(165, (.int .i64 (((endS s (((es).getD i (0, 0)).2 % 65536)).a).getD k 0))), (166, (.int .i64 by_))]) ⟨look_row rfl 7 rfl s7, look_row rfl 8 rfl s8, trivial⟩ ?_
             refine tp rfl (lv_add (c := (((endS s (((es).getD i (0, 0)).2 % 65536)).a).getD k 0) + by_) rfl rfl (wr_i64 (by omega) (by omega))) ?_
             exact d_closes ⟨look_row rfl 7 rfl s7, look_row rfl 8 rfl s8, trivial⟩ 9 rfl rfl rfl hS (AgreeR.refl _) (t_sat (fun _ h => h) (hK () trivial))
            · -- 10
             rintro _ S hF hS D hp K hK
             try dsimp only at hF ⊢
             have s3 := hp 3 rfl
             have s9 := hp 9 rfl
             refine d_need (small := [(161, (.int .i64 (((shS by_ (endS s (((es).getD i (0, 0)).2 % 65536))).a).getD k 0))), (167, (.int .i64 ((((endS s (((es).getD i (0, 0)).2 % 65536)).a).getD k 0) + by_)))]) ⟨look_row rfl 3 rfl s3, look_row rfl 9 rfl s9, trivial⟩ ?_
             refine tp rfl (lv_neq rfl rfl (bne_eq_false_iff_eq.2 hsk)) ?_
             exact d_closes ⟨look_row rfl 3 rfl s3, look_row rfl 9 rfl s9, trivial⟩ 10 rfl rfl rfl hS (AgreeR.refl _) (t_sat (fun _ h => h) (hK () trivial))
           · -- behind
            rintro _ hF
            try dsimp only at hF ⊢
            refine t_weak (E' := [(0, (.int .i64 A)), (1, (.int .i64 Q)), (2, (.slice bl es.length cl)), (3, (.int .u8 by_)), (9, (.bool true)), (10, (.pointer (some ⟨p1, 0, none⟩))), (11, (.pointer (some ⟨p2, 0, none⟩))), (12, (.int .i64 by_)), (13, (.int .i64 ((i : Nat) : Int))), (14, (.int .i64 (((es).getD i (0, 0)).2 % 65536))), (15, (.int .i64 n)), (16, (.int .i64 0)), (17, (.int .i64 (n + by_))), (18, (.int .i64 0)), (23, (.slice bs93 (((endS s (((es).getD i (0, 0)).2 % 65536)).a).length) cp94)), (24, (.slice bs97 (((shS by_ (endS s (((es).getD i (0, 0)).2 % 65536))).a).length) cp98)), (25, (.int .i64 ((k : Nat) : Int))), (38, (.bool false)), (48, (.bool true)), (62, (.bool true)), (111, (.bool false)), (151, (.bool false)), (155, (.bool true)), (168, (.bool false))]) ⟨rfl, rfl, rfl, rfl, rfl, rfl, rfl, rfl, rfl, rfl, rfl, rfl, rfl, rfl, rfl, rfl, rfl, rfl, rfl, rfl, rfl, rfl, rfl, rfl, trivial⟩ ?_
            refine q_then_n (hK29 _ _ ?_)
            refine c_false rfl ?_
            refine c_skip ?_
            refine q_in_n ?_
            refine q_then_n (hK28 _ _ ?_)
            refine c_region ?_
            refine tp rfl (lv_move rfl) ?_
            refine tp rfl (lv_add (c := ((k + 1 : Nat) : Int)) rfl rfl (wr_i64_succ (by omega))) ?_
            refine tp rfl (lv_assign rfl) ?_
            refine t_done ?_
            refine q_then_n ?_
            exact t_weak (by exact ⟨rfl, rfl, rfl, rfl, rfl, rfl, rfl, rfl, rfl, rfl, rfl, rfl, rfl, rfl, rfl, rfl, rfl, rfl, rfl, rfl, rfl, rfl, trivial⟩) ((hK25 (k + 1) (by omega) (by omega)))
          · -- no
           refine tp rfl (lv_lss rfl rfl (decide_eq_false h109)) ?_
           refine t_done ?_
           refine q_then_n (hK27 _ _ ?_)
           refine c_false rfl ?_
           refine c_exit ?_
           refine q_then_x ?_
           refine q_then_x ?_
           refine q_in_x ?_
           refine q_in_n ?_
           refine q_then_n (hK13 _ _ ?_)
           refine c_region ?_
           refine tp rfl (lv_move rfl) ?_
           refine tp rfl (lv_add (c := ((i + 1 : Nat) : Int)) rfl rfl (wr_i64_succ (by omega))) ?_
           refine tp rfl (lv_assign rfl) ?_
           refine t_done ?_
           refine q_then_n ?_
           refine t_f2 ?_
           refine t_drop ?_
           refine t_f2 ?_
           refine t_drop ?_
           exact t_weak (by exact ⟨rfl, rfl, rfl, rfl, rfl, rfl, rfl, rfl, rfl, rfl, trivial⟩) ((hK10 (i + 1, endS s (((es).getD i (0, 0)).2 % 65536)) ⟨by omega, by omega, by dsimp only; omega, hnx⟩ (by dsimp only; omega)))
    · -- no
      refine tp rfl (lv_eql rfl rfl (beq_eq_false_iff_ne.2 h4)) ?_
      refine t_done ?_
      refine q_then_n (hK16 _ _ ?_)
      refine c_false rfl ?_
      refine c_seq (fun K17 hK17 => ?_)
      refine c_region ?_
      refine tp rfl (lv_move rfl) ?_
      refine tp rfl (lv_move rfl) ?_
      refine t_f1 ?_
      refine tc rfl (en_fn Try.call12 rfl) (aadd_ok (A := max A 1) (Q := max Q 0) (s := s) (((es).getD i (0, 0)).2 % 65536) (by omega)) ?_
      rintro _ _ ⟨rfl, rfl⟩
      refine tp rfl (lv_move rfl) ?_
      refine tp rfl (lv_extract rfl rfl) ?_
      refine tp rfl (lv_extract rfl rfl) ?_
      refine tp rfl (lv_assign rfl) ?_
      refine tp rfl (lv_assign rfl) ?_
      refine t_done ?_
      refine q_then_n (hK17 _ _ ?_)
      refine c_seq (fun K18 hK18 => ?_)
      refine c_region ?_
      refine tp rfl (lv_move rfl) ?_
      refine tp rfl (lv_move rfl) ?_
      refine tp rfl (lv_move rfl) ?_
      refine tp rfl (lv_add (c := (((es).getD i (0, 0)).2 % 65536) + by_) rfl rfl (wr_i64 (by omega) (by omega))) ?_
      refine t_f1 ?_
      refine tc rfl (en_fn Try.call12 rfl) (aadd_ok (A := max A 1) (Q := max Q 0) (s := shS by_ s) ((((es).getD i (0, 0)).2 % 65536) + by_) (by omega)) ?_
      rintro _ _ ⟨rfl, rfl⟩
      rw [show addS (max A 1) (max Q 0) (shS by_ s) ((((es).getD i (0, 0)).2 % 65536) + by_) = shS by_ (addS (max A 1) (max Q 0) s (((es).getD i (0, 0)).2 % 65536)) from (addS_sh _ _ _ _ _)]
      rw [show addV (max A 1) (max Q 0) (shS by_ s) ((((es).getD i (0, 0)).2 % 65536) + by_) = addV (max A 1) (max Q 0) s (((es).getD i (0, 0)).2 % 65536) from (addV_sh _ _ _ _ _)]
      rw [show addEr (max A 1) (max Q 0) (shS by_ s) ((((es).getD i (0, 0)).2 % 65536) + by_) = addEr (max A 1) (max Q 0) s (((es).getD i (0, 0)).2 % 65536) from (addEr_sh _ _ _ _ _)]
      refine tp rfl (lv_move rfl) ?_
      refine tp rfl (lv_extract rfl rfl) ?_
      refine tp rfl (lv_extract rfl rfl) ?_
      refine tp rfl (lv_assign rfl) ?_
      refine tp rfl (lv_assign rfl) ?_
      refine t_done ?_
      refine q_then_n (hK18 _ _ ?_)
      refine c_seq (fun K19 hK19 => ?_)
      refine c_region ?_
      refine tp rfl (lv_move rfl) ?_
      refine tp rfl (lv_move rfl) ?_
      refine tp rfl (lv_neq rfl rfl (bne_eq_false_iff_eq.2 rfl)) ?_
      refine tp rfl (lv_move rfl) ?_
      refine t_guard rfl rfl ?_
      refine tp rfl (lv_move rfl) ?_
      refine t_guard rfl rfl ?_
      refine tp rfl (lv_move rfl) ?_
      refine t_guard rfl rfl ?_
      refine tp rfl (lv_neq rfl rfl (bne_eq_false_iff_eq.2 rfl)) ?_
      refine tp rfl (lv_pick_f rfl rfl) ?_
      refine t_done ?_
      refine q_then_n (hK19 _ _ ?_)
      refine c_false rfl ?_
      refine c_skip ?_
      refine q_then_n (hK15 _ _ ?_)
      refine c_seq (fun K20 hK20 => ?_)
      refine c_region ?_
      have hnx : ∀ y ∈ (addS (max A 1) (max Q 0) s (((es).getD i (0, 0)).2 % 65536)).a ++ (addS (max A 1) (max Q 0) s (((es).getD i (0, 0)).2 % 65536)).q, 0 ≤ y ∧ y ≤ 65535 := addS_all hall hid
      have hgr := addS_len (max A 1) (max Q 0) s (((es).getD i (0, 0)).2 % 65536)
      have hla2 := shS_la by_ (addS (max A 1) (max Q 0) s (((es).getD i (0, 0)).2 % 65536))
      have hlq2 := shS_lq by_ (addS (max A 1) (max Q 0) s (((es).getD i (0, 0)).2 % 65536))
      refine tp rfl (lv_move rfl) ?_
      refine t_f1 ?_
      refine tc rfl (en_fn Try.call16 rfl) (actives_ok (A := max A 1) (Q := max Q 0) (s := addS (max A 1) (max Q 0) s (((es).getD i (0, 0)).2 % 65536)) (by omega)) ?_
      rintro _ _ ⟨bs110, cp111, hok112, hle113, rfl, rfl⟩
      refine tp rfl (lv_assign rfl) ?_
      refine t_done ?_
      refine q_then_n (hK20 _ _ ?_)
      refine c_seq (fun K21 hK21 => ?_)
      refine c_region ?_
      refine tp rfl (lv_move rfl) ?_
      refine t_f2 ?_
      refine tc rfl (en_fn Try.call16 rfl) (actives_ok (A := max A 1) (Q := max Q 0) (s := shS by_ (addS (max A 1) (max Q 0) s (((es).getD i (0, 0)).2 % 65536))) (by omega)) ?_
      rintro _ _ ⟨bs114, cp115, hok116, hle117, rfl, rfl⟩
      refine tp rfl (lv_assign rfl) ?_
      refine t_done ?_
      refine q_then_n (hK21 _ _ ?_)
      refine c_seq (fun K22 hK22 => ?_)
      refine c_seq (fun K23 hK23 => ?_)
      refine c_region ?_
      refine tp rfl (lv_move rfl) ?_
      refine tp rfl (lv_len Try.underlying27 rfl rfl) ?_
      refine tp rfl (lv_move rfl) ?_
      refine tp rfl (lv_len Try.underlying27 rfl rfl) ?_
      refine tp rfl (lv_neq rfl rfl (bne_eq_false_iff_eq.2 (by omega))) ?_
      refine tp rfl (lv_move rfl) ?_
      refine t_guard rfl rfl ?_
      refine tp rfl (lv_move rfl) ?_
      refine t_guard rfl rfl ?_
      refine t_f3 ?_
      refine tc rfl (en_fn Try.call17 rfl) (waiting_ok (A := max A 1) (Q := max Q 0) (s := addS (max A 1) (max Q 0) s (((es).getD i (0, 0)).2 % 65536)) (by omega)) ?_
      rintro _ _ ⟨bs118, cp119, hok120, hle121, rfl, rfl⟩
      refine t_guard rfl rfl ?_
      refine tp rfl (lv_len Try.underlying27 rfl rfl) ?_
      refine t_guard rfl rfl ?_
      refine tp rfl (lv_move rfl) ?_
      refine t_guard rfl rfl ?_
      refine t_f3 ?_
      refine tc rfl (en_fn Try.call17 rfl) (waiting_ok (A := max A 1) (Q := max Q 0) (s := shS by_ (addS (max A 1) (max Q 0) s (((es).getD i (0, 0)).2 % 65536))) (by omega)) ?_
      rintro _ _ ⟨bs122, cp123, hok124, hle125, rfl, rfl⟩
      refine t_guard rfl rfl ?_
      refine tp rfl (lv_len Try.underlying27 rfl rfl) ?_
      refine t_guard rfl rfl ?_
      refine tp rfl (lv_neq rfl rfl (bne_eq_false_iff_eq.2 (by omega))) ?_
      refine tp rfl (lv_pick_f rfl rfl) ?_
      refine t_done ?_
      refine q_then_n (hK23 _ _ ?_)
      refine c_false rfl ?_
      refine c_skip ?_
      refine q_then_n (hK22 _ _ ?_)
      refine c_seq (fun K24 hK24 => ?_)
      refine c_region ?_
      refine tp rfl (lv_assign rfl) ?_
      refine t_done ?_
      refine q_then_n (hK24 _ _ ?_)
      refine c_block ?_
      refine t_drop ?_
      refine t_f1 ?_
      refine t_drop ?_
      refine c_loop (γ := (Nat)) (fun (k : Nat) => k ≤ (addS (max A 1) (max Q 0) s (((es).getD i (0, 0)).2 % 65536)).a.length) (fun (k : Nat) => [(0, (.int .i64 A)), (1, (.int .i64 Q)), (2, (.slice bl es.length cl)), (3, (.int .u8 by_)), (9, (.bool true)), (10, (.pointer (some ⟨p1, 0, none⟩))), (11, (.pointer (some ⟨p2, 0, none⟩))), (12, (.int .i64 by_)), (13, (.int .i64 ((i : Nat) : Int))), (14, (.int .i64 (((es).getD i (0, 0)).2 % 65536))), (19, (.int .i64 (addV (max A 1) (max Q 0) s (((es).getD i (0, 0)).2 % 65536)))), (20, (.int .i64 (addEr (max A 1) (max Q 0) s (((es).getD i (0, 0)).2 % 65536)))), (21, (.int .i64 (addV (max A 1) (max Q 0) s (((es).getD i (0, 0)).2 % 65536)))), (22, (.int .i64 (addEr (max A 1) (max Q 0) s (((es).getD i (0, 0)).2 % 65536)))), (23, (.slice bs110 (((addS (max A 1) (max Q 0) s (((es).getD i (0, 0)).2 % 65536)).a).length) cp111)), (24, (.slice bs114 (((shS by_ (addS (max A 1) (max Q 0) s (((es).getD i (0, 0)).2 % 65536))).a).length) cp115)), (25, (.int .i64 ((k : Nat) : Int))), (38, (.bool false)), (48, (.bool true)), (62, (.bool false)), (133, (.bool false)), (151, (.bool false))]) (fun (k : Nat) => (AdmO p2 (max A 1) (max Q 0) (shS by_ (addS (max A 1) (max Q 0) s (((es).getD i (0, 0)).2 % 65536)))) :: (AdmO p1 (max A 1) (max Q 0) (addS (max A 1) (max Q 0) s (((es).getD i (0, 0)).2 % 65536))) :: (SlV 3 1 (.slice bs114 (((shS by_ (addS (max A 1) (max Q 0) s (((es).getD i (0, 0)).2 % 65536))).a).length) cp115) (((shS by_ (addS (max A 1) (max Q 0) s (((es).getD i (0, 0)).2 % 65536))).a).length) (ints .i64 ((shS by_ (addS (max A 1) (max Q 0) s (((es).getD i (0, 0)).2 % 65536))).a))) :: (SlV 3 1 (.slice bs110 (((addS (max A 1) (max Q 0) s (((es).getD i (0, 0)).2 % 65536)).a).length) cp111) (((addS (max A 1) (max Q 0) s (((es).getD i (0, 0)).2 % 65536)).a).length) (ints .i64 ((addS (max A 1) (max Q 0) s (((es).getD i (0, 0)).2 % 65536)).a))) :: R) (fun (k : Nat) => (addS (max A 1) (max Q 0) s (((es).getD i (0, 0)).2 % 65536)).a.length - k) (0) (by omega) ⟨rfl, rfl, rfl, rfl, rfl, rfl, rfl, rfl, rfl, rfl, rfl, rfl, rfl, rfl, rfl, rfl, rfl, rfl, rfl, rfl, rfl, rfl, trivial⟩ (fun _ h => h) ?_
      rintro k K25 hF hK25
      try dsimp only at hF hK25 ⊢
      refine c_seq (fun K26 hK26 => ?_)
      refine c_seq (fun K27 hK27 => ?_)
      refine c_region ?_
      refine tp rfl (lv_move rfl) ?_
      refine tp rfl (lv_move rfl) ?_
      refine tp rfl (lv_len Try.underlying27 rfl rfl) ?_
      by_cases h126 : ((k : Nat) : Int) < ((((addS (max A 1) (max Q 0) s (((es).getD i (0, 0)).2 % 65536)).a).length : Nat) : Int)
      · -- yes
        refine tp rfl (lv_lss rfl rfl (decide_eq_true h126)) ?_
        refine t_done ?_
        refine q_then_n (hK27 _ _ ?_)
        refine c_true rfl ?_
        refine c_skip ?_
        refine q_then_n (hK26 _ _ ?_)
        refine c_seq (fun K28 hK28 => ?_)
        refine c_block ?_
        refine c_seq (fun K29 hK29 => ?_)
        have hbk := hnx _ (List.mem_append_left _ (getD_mem (l := (addS (max A 1) (max Q 0) s (((es).getD i (0, 0)).2 % 65536)).a) (k := k) (by omega)))
        have hsk : (shS by_ (addS (max A 1) (max Q 0) s (((es).getD i (0, 0)).2 % 65536))).a.getD k 0 = (addS (max A 1) (max Q 0) s (((es).getD i (0, 0)).2 % 65536)).a.getD k 0 + by_ := sh_get _ _ (by omega)
        refine c_draw (γ := Unit) (n := 11) Try.mixed rfl rfl (fun _ S => True) (fun _ => [(0, 158, (.slice bs114 (((shS by_ (addS (max A 1) (max Q 0) s (((es).getD i (0, 0)).2 % 65536))).a).length) cp115)), (1, 159, (.int .i64 ((k : Nat) : Int))), (2, 160, (.pointer (some (ad bs114 k)))), (3, 161, (.int .i64 (((shS by_ (addS (max A 1) (max Q 0) s (((es).getD i (0, 0)).2 % 65536))).a).getD k 0))), (4, 162, (.slice bs110 (((addS (max A 1) (max Q 0) s (((es).getD i (0, 0)).2 % 65536)).a).length) cp111)), (5, 163, (.int .i64 ((k : Nat) : Int))), (6, 164, (.pointer (some (ad bs110 k)))), (7, 165, (.int .i64 (((addS (max A 1) (max Q 0) s (((es).getD i (0, 0)).2 % 65536)).a).getD k 0))), (8, 166, (.int .i64 by_)), (9, 167, (.int .i64 ((((addS (max A 1) (max Q 0) s (((es).getD i (0, 0)).2 % 65536)).a).getD k 0) + by_))), (10, 168, (.bool false))]) (fun _ S => (AdmO p2 (max A 1) (max Q 0) (shS by_ (addS (max A 1) (max Q 0) s (((es).getD i (0, 0)).2 % 65536)))) :: (AdmO p1 (max A 1) (max Q 0) (addS (max A 1) (max Q 0) s (((es).getD i (0, 0)).2 % 65536))) :: (SlV 3 1 (.slice bs114 (((shS by_ (addS (max A 1) (max Q 0) s (((es).getD i (0, 0)).2 % 65536))).a).length) cp115) (((shS by_ (addS (max A 1) (max Q 0) s (((es).getD i (0, 0)).2 % 65536))).a).length) (ints .i64 ((shS by_ (addS (max A 1) (max Q 0) s (((es).getD i (0, 0)).2 % 65536))).a))) :: (SlV 3 1 (.slice bs110 (((addS (max A 1) (max Q 0) s (((es).getD i (0, 0)).2 % 65536)).a).length) cp111) (((addS (max A 1) (max Q 0) s (((es).getD i (0, 0)).2 % 65536)).a).length) (ints .i64 ((addS (max A 1) (max Q 0) s (((es).getD i (0, 0)).2 % 65536)).a))) :: R) (()) trivial (fun _ h => h) (fun _ _ h => h) ?_ ?_
        · -- steps
         refine ⟨?_, ?_, ?_, ?_, ?_, ?_, ?_, ?_, ?_, ?_, ?_, trivial⟩
         · -- 0
          rintro _ S hF hS D hp K hK
          try dsimp only at hF ⊢
          refine d_need (small := [(24, (.slice bs114 (((shS by_ (addS (max A 1) (max Q 0) s (((es).getD i (0, 0)).2 % 65536))).a).length) cp115))]) ⟨look_b rfl rfl, trivial⟩ ?_
          refine tp rfl (lv_move rfl) ?_
          exact d_closes ⟨look_b rfl rfl, trivial⟩ 0 rfl rfl rfl hS (AgreeR.refl _) (t_sat (fun _ h => h) (hK () trivial))
         · -- 1
          rintro _ S hF hS D hp K hK
          try dsimp only at hF ⊢
          refine d_need (small := [(25, (.int .i64 ((k : Nat) : Int)))]) ⟨look_b rfl rfl, trivial⟩ ?_
          refine tp rfl (lv_move rfl) ?_
          exact d_closes ⟨look_b rfl rfl, trivial⟩ 1 rfl rfl rfl hS (AgreeR.refl _) (t_sat (fun _ h => h) (hK () trivial))
         · -- 2
          rintro _ S hF hS D hp K hK
          try dsimp only at hF ⊢
          have s0 := hp 0 rfl
          have s1 := hp 1 rfl
          refine d_need (small := [(158, (.slice bs114 (((shS by_ (addS (max A 1) (max Q 0) s (((es).getD i (0, 0)).2 % 65536))).a).length) cp115)), (159, (.int .i64 ((k : Nat) : Int)))]) ⟨look_row rfl 0 rfl s0, look_row rfl 1 rfl s1, trivial⟩ ?_
          refine tp rfl (lv_indexAddr (k' := k) Try.underlying27 Try.sizeOf3 rfl rfl hok116 (by omega) (by omega) (by omega)) ?_
          exact d_closes ⟨look_row rfl 0 rfl s0, look_row rfl 1 rfl s1, trivial⟩ 2 rfl rfl rfl hS (AgreeR.refl _) (t_sat (fun _ h => h) (hK () trivial))
         · -- 3
          rintro _ S hF hS D hp K hK
          try dsimp only at hF ⊢
          have s2 := hp 2 rfl
          refine d_need (small := [(160, (.pointer (some (ad bs114 k))))]) ⟨look_row rfl 2 rfl s2, trivial⟩ ?_
          refine tp rfl (lv_load Try.isAgg3 rfl (gives_sl (.tail _ (.tail _ (.head _))) (ints_get (by omega)))) ?_
          exact d_closes ⟨look_row rfl 2 rfl s2, trivial⟩ 3 rfl rfl rfl hS (AgreeR.refl _) (t_sat (fun _ h => h) (hK () trivial))
         · -- 4
          rintro _ S hF hS D hp K hK
          try dsimp only at hF ⊢
          refine d_need (small := [(23, (.slice bs110 (((addS (max A 1) (max Q 0) s (((es).getD i (0, 0)).2 % 65536)).a).length) cp111))]) ⟨look_b rfl rfl, trivial⟩ ?_
          refine tp rfl (lv_move rfl) ?_
          exact d_closes ⟨look_b rfl rfl, trivial⟩ 4 rfl rfl rfl hS (AgreeR.refl _) (t_sat (fun _ h => h) (hK () trivial))
         · -- 5
          rintro _ S hF hS D hp K hK
          try dsimp only at hF ⊢
          refine d_need (small := [(25, (.int .i64 ((k : Nat) : Int)))]) ⟨look_b rfl rfl, trivial⟩ ?_
          refine tp rfl (lv_move rfl) ?_
          exact d_closes ⟨look_b rfl rfl, trivial⟩ 5 rfl rfl rfl hS (AgreeR.refl _) (t_sat (fun _ h => h) (hK () trivial))
         · -- 6
          rintro _ S hF hS D hp K hK
          try dsimp only at hF ⊢
          have s4 := hp 4 rfl
          have s5 := hp 5 rfl
          refine d_need (small := [(162, (.slice bs110 (((addS (max A 1) (max Q 0) s (((es).getD i (0, 0)).2 % 65536)).a).length) cp111)), (163, (.int .i64 ((k : Nat) : Int)))]) ⟨look_row rfl 4 rfl s4, look_row rfl 5 rfl s5, trivial⟩ ?_
          refine tp rfl (lv_indexAddr (k' := k) Try.underlying27 Try.sizeOf3 rfl rfl hok112 (by omega) (by omega) (by omega)) ?_
          exact d_closes ⟨look_row rfl 4 rfl s4, look_row rfl 5 rfl s5, trivial⟩ 6 rfl rfl rfl hS (AgreeR.refl _) (t_sat (fun _ h => h) (hK () trivial))
         · -- 7
          rintro _ S hF hS D hp K hK
          try dsimp only at hF ⊢
          have s6 := hp 6 rfl
          refine d_need (small := [(164, (.pointer (some (ad bs110 k))))]) ⟨look_row rfl 6 rfl s6, trivial⟩ ?_
          refine tp rfl (lv_load Try.isAgg3 rfl (gives_sl (.tail _ (.tail _ (.tail _ (.head _)))) (ints_get (by omega)))) ?_
          exact d_closes ⟨look_row rfl 6 rfl s6, trivial⟩ 7 rfl rfl rfl hS (AgreeR.refl _) (t_sat (fun _ h => h) (hK () trivial))
         · -- 8
          rintro _ S hF hS D hp K hK
          try dsimp only at hF ⊢
          refine d_need (small := [(12, (.int .i64 by_))]) ⟨look_b rfl rfl, trivial⟩ ?_
          refine tp rfl (lv_move rfl) ?_
          exact d_closes ⟨look_b rfl rfl, trivial⟩ 8 rfl rfl rfl hS (AgreeR.refl _) (t_sat (fun _ h => h) (hK () trivial))
         · -- 9
          rintro _ S hF hS D hp K hK
          try dsimp only at hF ⊢
          have s7 := hp 7 rfl
          have s8 := hp 8 rfl
          refine d_need (small := [(165, (.int .i64 (((addS (max A 1) (max Q 0) s (((es).getD i (0, 0)).2 % 65536)).a).getD k 0))), (166, (.int .i64 by_))]) ⟨look_row rfl 7 rfl s7, look_row rfl 8 rfl s8, trivial⟩ ?_
          refine tp rfl (lv_add (c := (((addS (max A 1) (max Q 0) s (((es).getD i (0, 0)).2 % 65536)).a).getD k 0) + by_) rfl rfl (wr_i64 (by omega) (by omega))) ?_
          exact d_closes ⟨look_row rfl 7 rfl s7, look_row rfl 8 rfl s8, trivial⟩ 9 rfl rfl rfl hS (AgreeR.refl _) (t_sat (fun _ h => h) (hK () trivial))
         · -- 10
          rintro _ S hF hS D hp K hK
          try dsimp only at hF ⊢
          have s3 := hp 3 rfl
          have s9 := hp 9 rfl
          refine d_need (small := [(161, (.int .i64 (((shS by_ (addS (max A 1) (max Q 0) s (((es).getD i (0, 0)).2 % 65536))).a).getD k 0))), (167, (.int .i64 ((((addS (max A 1) (max Q 0) s (((es).getD i (0, 0)).2 % 65536)).a).getD k 0) + by_)))]) ⟨look_row rfl 3 rfl s3, look_row rfl 9 rfl s9, trivial⟩ ?_
          refine tp rfl (lv_neq rfl rfl (bne_eq_false_iff_eq.2 hsk)) ?_
          exact d_closes ⟨look_row rfl 3 rfl s3, look_row rfl 9 rfl s9, trivial⟩ 10 rfl rfl rfl hS (AgreeR.refl _) (t_sat (fun _ h => h) (hK () trivial))
        · -- behind
         rintro _ hF
         try dsimp only at hF ⊢
         refine t_weak (E' := [(0, (.int .i64 A)), (1, (.int .i64 Q)), (2, (.slice bl es.length cl)), (3, (.int .u8 by_)), (9, (.bool true)), (10, (.pointer (some ⟨p1, 0, none⟩))), (11, (.pointer (some ⟨p2, 0, none⟩))), (12, (.int .i64 by_)), (13, (.int .i64 ((i : Nat) : Int))), (14, (.int .i64 (((es).getD i (0, 0)).2 % 65536))), (19, (.int .i64 (addV (max A 1) (max Q 0) s (((es).getD i (0, 0)).2 % 65536)))), (20, (.int .i64 (addEr (max A 1) (max Q 0) s (((es).getD i (0, 0)).2 % 65536)))), (21, (.int .i64 (addV (max A 1) (max Q 0) s (((es).getD i (0, 0)).2 % 65536)))), (22, (.int .i64 (addEr (max A 1) (max Q 0) s (((es).getD i (0, 0)).2 % 65536)))), (23, (.slice bs110 (((addS (max A 1) (max Q 0) s (((es).getD i (0, 0)).2 % 65536)).a).length) cp111)), (24, (.slice bs114 (((shS by_ (addS (max A 1) (max Q 0) s (((es).getD i (0, 0)).2 % 65536))).a).length) cp115)), (25, (.int .i64 ((k : Nat) : Int))), (38, (.bool false)), (48, (.bool true)), (62, (.bool false)), (133, (.bool false)), (151, (.bool false)), (155, (.bool true)), (168, (.bool false))]) ⟨rfl, rfl, rfl, rfl, rfl, rfl, rfl, rfl, rfl, rfl, rfl, rfl, rfl, rfl, rfl, rfl, rfl, rfl, rfl, rfl, rfl, rfl, rfl, rfl, trivial⟩ ?_
         refine q_then_n (hK29 _ _ ?_)
         refine c_false rfl ?_
         refine c_skip ?_
         refine q_in_n ?_
         refine q_then_n (hK28 _ _ ?_)
         refine c_region ?_
         refine tp rfl (lv_move rfl) ?_
         refine tp rfl (lv_add (c := ((k + 1 : Nat) : Int)) rfl rfl (wr_i64_succ (by omega))) ?_
         refine tp rfl (lv_assign rfl) ?_
         refine t_done ?_
         refine q_then_n ?_
         exact t_weak (by exact ⟨rfl, rfl, rfl, rfl, rfl, rfl, rfl, rfl, rfl, rfl, rfl, rfl, rfl, rfl, rfl, rfl, rfl, rfl, rfl, rfl, rfl, rfl, trivial⟩) ((hK25 (k + 1) (by omega) (by omega)))
      · -- no
        refine tp rfl (lv_lss rfl rfl (decide_eq_false h126)) ?_
        refine t_done ?_
        refine q_then_n (hK27 _ _ ?_)
        refine c_false rfl ?_
        refine c_exit ?_
        refine q_then_x ?_
        refine q_then_x ?_
        refine q_in_x ?_
        refine q_in_n ?_
        refine q_then_n (hK13 _ _ ?_)
        refine c_region ?_
        refine tp rfl (lv_move rfl) ?_
        refine tp rfl (lv_add (c := ((i + 1 : Nat) : Int)) rfl rfl (wr_i64_succ (by omega))) ?_
        refine tp rfl (lv_assign rfl) ?_
        refine t_done ?_
        refine q_then_n ?_
        refine t_f2 ?_
        refine t_drop ?_
        refine t_f2 ?_
        refine t_drop ?_
        exact t_weak (by exact ⟨rfl, rfl, rfl, rfl, rfl, rfl, rfl, rfl, rfl, rfl, trivial⟩) ((hK10 (i + 1, addS (max A 1) (max Q 0) s (((es).getD i (0, 0)).2 % 65536)) ⟨by omega, by omega, by dsimp only; omega, hnx⟩ (by dsimp only; omega)))
  · -- not both
    refine t_cut0 (E' := [(0, (.int .i64 A)), (1, (.int .i64 Q)), (2, (.slice bl es.length cl)), (3, (.int .u8 by_)), (9, (.bool true)), (10, (.pointer (some ⟨p1, 0, none⟩))), (11, (.pointer (some ⟨p2, 0, none⟩))), (12, (.int .i64 by_)), (13, (.int .i64 ((i : Nat) : Int))), (38, (.bool false)), (48, (.bool false))]) ?_ (fun KK hKK => ?_)
    ·
      refine q_then_n (hK12 _ _ ?_)
      refine c_false rfl ?_
      refine c_exit ?_
      refine q_then_x ?_
      refine q_then_x ?_
      refine q_in_x ?_
      refine q_then_n (hK8 _ _ ?_)
      refine c_seq (fun K13 hK13 => ?_)
      refine c_region ?_
      refine tp rfl (lv_move rfl) ?_
      refine tp rfl (lv_assign rfl) ?_
      refine t_done ?_
      refine q_then_n (hK13 _ _ ?_)
      refine c_ret ?_
      refine t_drop ?_
      refine t_drop ?_
      refine q_ret rfl rfl ?_
      exact ⟨rfl, rfl⟩
    · -- which
      by_cases hc3A : ((i : Nat) : Int) < ((es.length : Nat) : Int)
      ·
        have hc3B : ¬ (((i : Nat) : Int) < 100) := fun hh => hc3 ⟨hc3A, hh⟩
        refine tp rfl (lv_move rfl) ?_
        refine tp rfl (lv_move rfl) ?_
        refine tp rfl (lv_len Try.underlying22 rfl rfl) ?_
        refine tp rfl (lv_lss rfl rfl (decide_eq_true hc3A)) ?_
        refine tp rfl (lv_move rfl) ?_
        refine t_guard rfl rfl ?_
        refine tp rfl (lv_move rfl) ?_
        refine t_guard rfl rfl ?_
        refine tp rfl (lv_lss rfl rfl (decide_eq_false hc3B)) ?_
        refine tp rfl (lv_pick_t rfl rfl) ?_
        exact t_done (t_weak (by exact ⟨rfl, rfl, rfl, rfl, rfl, rfl, rfl, rfl, rfl, rfl, rfl, trivial⟩) hKK)
      ·
        refine tp rfl (lv_move rfl) ?_
        refine tp rfl (lv_move rfl) ?_
        refine tp rfl (lv_len Try.underlying22 rfl rfl) ?_
        refine tp rfl (lv_lss rfl rfl (decide_eq_false hc3A)) ?_
        refine tp rfl (lv_move rfl) ?_
        refine t_skip rfl rfl rfl ?_
        refine t_skip rfl rfl rfl ?_
        refine tp rfl (lv_pick_f rfl rfl) ?_
        exact t_done (t_weak (by exact ⟨rfl, rfl, rfl, rfl, rfl, rfl, rfl, rfl, rfl, rfl, rfl, trivial⟩) hKK)
end Go.Proofs.Ythhmdcbhgnoemaa
