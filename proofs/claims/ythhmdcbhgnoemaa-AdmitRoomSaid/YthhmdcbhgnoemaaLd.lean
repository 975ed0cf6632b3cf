/- AdmitRoom: the law's walk. -/
import Derived.Test.YthhmdcbhgnoemaaLa
import Derived.Test.YthhmdcbhgnoemaaAdm2
set_option maxRecDepth 100000
set_option linter.unusedVariables false
set_option linter.unusedSimpArgs false
namespace Go.Proofs.Ythhmdcbhgnoemaa
open Go Go.Proofs Sp
set_option maxHeartbeats 4000000 in
theorem room_ok {R : List HP} {bl : Option Addr} {cl : Nat} (n : Int) (bs : List Bool) (hl : Rd R bl (bools bs)) (okl : SlOk bl bs.length) (ll : bs.length ≤ 9223372036854775807) :
    Ok Try.prog 8 [(.int .i64 n), (.slice bl bs.length cl)] R
      (fun v M => v = .bool true ∧ M = R) := by
  obtain ⟨A, hA⟩ : ∃ A : Int, 1 + n % 65536 % 20 = A := ⟨_, rfl⟩
  have hA1 : 1 ≤ A := by omega
  have hA2 : A ≤ 20 := by omega
  refine ok_of (N := 112) Try.func8 rfl rfl rfl (fun W => ?_)
  refine c_seq (fun K1 hK1 => ?_)
  refine c_region ?_
  refine tp rfl (lv_assign rfl) ?_
  refine t_done ?_
  refine q_then_n (hK1 _ _ ?_)
  refine c_seq (fun K2 hK2 => ?_)
  refine c_region ?_
  refine tc rfl (en_fn Try.call10 rfl) (shown_ok) ?_
  rintro _ _ ⟨rfl, hMR⟩
  rw [hMR]; clear hMR
  refine tp rfl (lv_assign rfl) ?_
  refine t_done ?_
  refine q_then_n (hK2 _ _ ?_)
  refine c_seq (fun K3 hK3 => ?_)
  refine c_region ?_
  refine tp rfl (lv_move rfl) ?_
  refine tp rfl (lv_and (c := n % 65536) rfl rfl (and_ffff n)) ?_
  refine tp rfl (lv_rem (c := (n % 65536) % 20) rfl rfl (by omega) (Int.tmod_eq_emod_of_nonneg (by omega))) ?_
  refine tp rfl (lv_add (c := A) rfl rfl ((wr_i64 (by omega) (by omega)).trans hA)) ?_
  refine tp rfl (lv_assign rfl) ?_
  refine t_done ?_
  refine q_then_n (hK3 _ _ ?_)
  refine c_seq (fun K4 hK4 => ?_)
  refine c_region ?_
  refine tp rfl (lv_move rfl) ?_
  refine tc rfl (en_fn Try.call11 rfl) (anew_ok A 0) ?_
  rintro _ _ ⟨p1, rfl, rfl⟩
  rw [show max A 1 = A from (by omega)]
  refine tp rfl (lv_assign rfl) ?_
  refine t_done ?_
  refine q_then_n (hK4 _ _ ?_)
  refine c_seq (fun K5 hK5 => ?_)
  refine c_seq (fun K6 hK6 => ?_)
  refine c_region ?_
  refine tp rfl (lv_move rfl) ?_
  refine tp rfl (lv_eqnil Try.underlying24 rfl rfl) ?_
  refine t_done ?_
  refine q_then_n (hK6 _ _ ?_)
  refine c_false rfl ?_
  refine c_skip ?_
  refine q_then_n (hK5 _ _ ?_)
  refine c_seq (fun K7 hK7 => ?_)
  refine c_seq (fun K8 hK8 => ?_)
  refine c_region ?_
  refine tp rfl (lv_assign rfl) ?_
  refine t_done ?_
  refine q_then_n (hK8 _ _ ?_)
  refine c_block ?_
  refine c_loop (γ := (Nat) × (AS)) (fun (i, s) => i ≤ bs.length ∧ i ≤ 40 ∧ (∀ y ∈ s.a ++ s.q, 0 ≤ y ∧ y < (i : Int))) (fun (i, s) => [(0, (.int .i64 A)), (1, (.slice bl bs.length cl)), (5, (.bool true)), (6, (.pointer (some ⟨p1, 0, none⟩))), (7, (.int .i64 ((i : Nat) : Int))), (22, (.bool false))]) (fun (i, s) => (AdmO p1 A 0 s) :: R) (fun (i, s) => bs.length - i) (0, ⟨[], []⟩) ⟨by omega, by omega, fun y hy => by cases hy⟩ ⟨rfl, rfl, rfl, rfl, rfl, rfl, trivial⟩ (fun _ h => h) ?_
  rintro ⟨i, s⟩ K9 hF hK9
  try dsimp only at hF hK9 ⊢
  obtain ⟨hi, hi2, hall⟩ := hF
  refine c_seq (fun K10 hK10 => ?_)
  refine c_seq (fun K11 hK11 => ?_)
  refine c_region ?_
  by_cases hc2 : ((i : Nat) : Int) < ((bs.length : Nat) : Int) ∧ ((i : Nat) : Int) < 40
  · -- both
    have hc2a := hc2.1
    have hc2b := hc2.2
    refine tp rfl (lv_move rfl) ?_
    refine tp rfl (lv_move rfl) ?_
    refine tp rfl (lv_len Try.underlying44 rfl rfl) ?_
    refine tp rfl (lv_lss rfl rfl (decide_eq_true hc2.1)) ?_
    refine tp rfl (lv_move rfl) ?_
    refine t_guard rfl rfl ?_
    refine tp rfl (lv_move rfl) ?_
    refine t_guard rfl rfl ?_
    refine tp rfl (lv_lss rfl rfl (decide_eq_true hc2.2)) ?_
    refine tp rfl (lv_pick_t rfl rfl) ?_
    refine t_done ?_
    refine q_then_n (hK11 _ _ ?_)
    refine c_true rfl ?_
    refine c_skip ?_
    refine q_then_n (hK10 _ _ ?_)
    refine c_seq (fun K12 hK12 => ?_)
    refine c_block ?_
    refine c_seq (fun K13 hK13 => ?_)
    refine c_region ?_
    refine t_learn (fun _ h => aok_of h) (fun hok => ?_)
    have hokla := hok.la
    have hoklq := hok.lq
    have hq0 : s.q = [] := List.eq_nil_of_length_eq_zero (by omega)
    refine tp rfl (lv_move rfl) ?_
    refine tc rfl (en_fn Try.call16 rfl) (actives_ok (A := A) (Q := 0) (s := s) (by omega)) ?_
    rintro _ _ ⟨bs3, cp4, hok5, hle6, rfl, rfl⟩
    refine tp rfl (lv_assign rfl) ?_
    refine t_done ?_
    refine q_then_n (hK13 _ _ ?_)
    refine c_seq (fun K14 hK14 => ?_)
    refine c_seq (fun K15 hK15 => ?_)
    refine c_region ?_
    refine tp rfl (lv_move rfl) ?_
    refine tp rfl (lv_move rfl) ?_
    refine tp rfl (lv_indexAddr (k' := i) Try.underlying44 Try.sizeOf4 rfl rfl okl (by omega) (by omega) (by omega)) ?_
    refine tp rfl (lv_load Try.isAgg4 rfl (Rd.gives (Rd.cons (Rd.cons hl)) (bools_get (by omega)))) ?_
    refine tp rfl (lv_move rfl) ?_
    rcases hb7 : (bs).getD i false with _ | _
    · -- false
      refine t_skip rfl rfl rfl ?_
      refine t_skip rfl rfl rfl ?_
      refine t_skip rfl rfl rfl ?_
      refine tp rfl (lv_pick_f rfl rfl) ?_
      refine t_done ?_
      refine q_then_n (hK15 _ _ ?_)
      refine c_false rfl ?_
      refine c_skip ?_
      refine q_then_n (hK14 _ _ ?_)
      refine c_seq (fun K16 hK16 => ?_)
      refine c_region ?_
      have hal2 : ∀ y ∈ (s).a ++ (s).q, 0 ≤ y ∧ y < (i : Int) := hall
      obtain ⟨u, hu⟩ : ∃ u, s = u := ⟨_, rfl⟩
      subst hu
      refine t_f1 ?_
      refine t_learn (fun _ h => aok_of h) (fun hok2 => ?_)
      have hok2la := hok2.la
      have hok2lq := hok2.lq
      refine tp rfl (lv_move rfl) ?_
      refine tc rfl (en_fn Try.call16 rfl) (actives_ok (A := A) (Q := 0) (s := s) (by omega)) ?_
      rintro _ _ ⟨bs8, cp9, hok10, hle11, rfl, rfl⟩
      refine tp rfl (lv_len Try.underlying27 rfl rfl) ?_
      refine tp rfl (lv_assign rfl) ?_
      refine t_done ?_
      refine q_then_n (hK16 _ _ ?_)
      refine c_seq (fun K17 hK17 => ?_)
      have hni : ((i : Nat) : Int) ∉ s.a ++ s.q := fun hm => by have := hal2 _ hm; omega
      by_cases hroom : ((s.a.length : Nat) : Int) < A
      · -- True
        obtain ⟨hv1, hv2, hv3⟩ := add_room (A := A) (Q := 0) hni hroom
        have hnx : ∀ y ∈ (pushA s ((i : Nat) : Int)).a ++ (pushA s ((i : Nat) : Int)).q, 0 ≤ y ∧ y < ((i + 1 : Nat) : Int) := by rw [← hv1]; exact addS_all (fun y hy => by have := hal2 y hy; omega) (by omega)
        refine c_region ?_
        refine tp rfl (lv_move rfl) ?_
        refine tp rfl (lv_move rfl) ?_
        refine t_f1 ?_
        refine tc rfl (en_fn Try.call12 rfl) (aadd_ok (A := A) (Q := 0) (s := s) ((i : Nat) : Int) (by omega)) ?_
        rintro _ _ ⟨rfl, rfl⟩
        rw [show addS A 0 s ((i : Nat) : Int) = pushA s ((i : Nat) : Int) from hv1]
        rw [show addV A 0 s ((i : Nat) : Int) = 1 from hv2]
        rw [show addEr A 0 s ((i : Nat) : Int) = 0 from hv3]
        refine tp rfl (lv_move rfl) ?_
        refine tp rfl (lv_extract rfl rfl) ?_
        refine tp rfl (lv_extract rfl rfl) ?_
        refine tp rfl (lv_assign rfl) ?_
        refine tp rfl (lv_assign rfl) ?_
        refine t_done ?_
        refine q_then_n (hK17 _ _ ?_)
        refine c_seq (fun K18 hK18 => ?_)
        refine c_seq (fun K19 hK19 => ?_)
        refine c_region ?_
        refine tp rfl (lv_move rfl) ?_
        refine tp rfl (lv_move rfl) ?_
        refine tp rfl (lv_lss rfl rfl (decide_eq_true hroom)) ?_
        refine tp rfl (lv_move rfl) ?_
        refine t_guard rfl rfl ?_
        refine tp rfl (lv_move rfl) ?_
        refine t_guard rfl rfl ?_
        refine tp rfl (lv_neq (r := false) rfl rfl (by decide)) ?_
        refine t_guard rfl rfl ?_
        refine tp rfl (lv_move rfl) ?_
        refine t_guard rfl rfl ?_
        refine tp rfl (lv_move rfl) ?_
        refine t_guard rfl rfl ?_
        refine tp rfl (lv_neq (r := false) rfl rfl (by decide)) ?_
        refine t_guard rfl rfl ?_
        refine tp rfl (lv_pick_f rfl rfl) ?_
        refine t_guard rfl rfl ?_
        refine tp rfl (lv_move rfl) ?_
        refine t_guard rfl rfl ?_
        refine tp rfl (lv_move rfl) ?_
        refine t_guard rfl rfl ?_
        refine tc rfl (en_fn Try.call16 rfl) (actives_ok (A := A) (Q := 0) (s := pushA s ((i : Nat) : Int)) (by rw [pushA_len]; show _ + s.q.length ≤ _; omega)) ?_
        rintro _ _ ⟨bs12, cp13, hok14, hle15, rfl, rfl⟩
        refine t_guard rfl rfl ?_
        refine tp rfl (lv_len Try.underlying27 rfl rfl) ?_
        refine t_guard rfl rfl ?_
        refine tp rfl (lv_move rfl) ?_
        refine t_guard rfl rfl ?_
        refine tp rfl (lv_add (c := ((s.a.length + 1 : Nat) : Int)) rfl rfl (wr_i64_succ (by omega))) ?_
        refine t_guard rfl rfl ?_
        refine tp rfl (lv_neq rfl rfl (bne_eq_false_iff_eq.2 (by rw [pushA_len] <;> omega))) ?_
        refine t_guard rfl rfl ?_
        refine tp rfl (lv_pick_f rfl rfl) ?_
        refine tp rfl (lv_pick_t rfl rfl) ?_
        refine t_done ?_
        refine q_then_n (hK19 _ _ ?_)
        refine c_false rfl ?_
        refine c_skip ?_
        refine q_then_n (hK18 _ _ ?_)
        refine c_seq (fun K20 hK20 => ?_)
        refine c_seq (fun K21 hK21 => ?_)
        refine c_region ?_
        refine tp rfl (lv_move rfl) ?_
        refine tp rfl (lv_move rfl) ?_
        refine tp rfl (lv_geq rfl rfl (decide_eq_false (by omega))) ?_
        refine tp rfl (lv_move rfl) ?_
        refine t_skip rfl rfl rfl ?_
        refine t_skip rfl rfl rfl ?_
        refine t_skip rfl rfl rfl ?_
        refine t_skipu rfl rfl rfl ?_
        refine t_skipu rfl rfl rfl ?_
        refine t_skip rfl rfl rfl ?_
        refine t_skip rfl rfl rfl ?_
        refine t_skipu rfl rfl rfl ?_
        refine t_skipu rfl rfl rfl ?_
        refine t_skipu rfl rfl rfl ?_
        refine t_skipu rfl rfl rfl ?_
        refine t_skipu rfl rfl rfl ?_
        refine t_skip rfl rfl rfl ?_
        refine tp rfl (lv_pick_f rfl rfl) ?_
        refine t_done ?_
        refine q_then_n (hK21 _ _ ?_)
        refine c_false rfl ?_
        refine c_skip ?_
        refine q_then_n (hK20 _ _ ?_)
        refine c_seq (fun K22 hK22 => ?_)
        refine c_region ?_
        refine t_f1 ?_
        refine t_learn (fun _ h => aok_of h) (fun hok3 => ?_)
        have hok3la := hok3.la
        have hok3lq := hok3.lq
        refine tp rfl (lv_move rfl) ?_
        refine tc rfl (en_fn Try.call17 rfl) (waiting_ok (A := A) (Q := 0) (s := pushA s ((i : Nat) : Int)) (by have := hok3.la; have := hok3.lq; omega)) ?_
        rintro _ _ ⟨bs16, cp17, hok18, hle19, rfl, rfl⟩
        refine tp rfl (lv_len Try.underlying27 rfl rfl) ?_
        refine tp rfl (lv_neq rfl rfl (bne_eq_false_iff_eq.2 (by omega))) ?_
        refine t_done ?_
        refine q_then_n (hK22 _ _ ?_)
        refine c_false rfl ?_
        refine c_skip ?_
        refine q_in_n ?_
        refine q_then_n (hK12 _ _ ?_)
        refine c_region ?_
        refine tp rfl (lv_move rfl) ?_
        refine tp rfl (lv_add (c := ((i + 1 : Nat) : Int)) rfl rfl (wr_i64_succ (by omega))) ?_
        refine tp rfl (lv_assign rfl) ?_
        refine t_done ?_
        refine q_then_n ?_
        refine t_drop ?_
        refine t_f1 ?_
        refine t_drop ?_
        refine t_f1 ?_
        refine t_drop ?_
        refine t_f1 ?_
        refine t_drop ?_
        exact t_weak (by exact ⟨rfl, rfl, rfl, rfl, rfl, rfl, trivial⟩) ((hK9 (i + 1, pushA s ((i : Nat) : Int)) ⟨by omega, by omega, hnx⟩ (by dsimp only; omega)))
      · -- False
        obtain ⟨hv1, hv2, hv3⟩ := add_full (A := A) (Q := 0) hni hroom (by omega)
        have hnx : ∀ y ∈ (s).a ++ (s).q, 0 ≤ y ∧ y < ((i + 1 : Nat) : Int) := by rw [← hv1]; exact addS_all (fun y hy => by have := hal2 y hy; omega) (by omega)
        refine c_region ?_
        refine tp rfl (lv_move rfl) ?_
        refine tp rfl (lv_move rfl) ?_
        refine t_f1 ?_
        refine tc rfl (en_fn Try.call12 rfl) (aadd_ok (A := A) (Q := 0) (s := s) ((i : Nat) : Int) (by omega)) ?_
        rintro _ _ ⟨rfl, rfl⟩
        rw [show addS A 0 s ((i : Nat) : Int) = s from hv1]
        rw [show addV A 0 s ((i : Nat) : Int) = 0 from hv2]
        rw [show addEr A 0 s ((i : Nat) : Int) = 4 from hv3]
        refine tp rfl (lv_move rfl) ?_
        refine tp rfl (lv_extract rfl rfl) ?_
        refine tp rfl (lv_extract rfl rfl) ?_
        refine tp rfl (lv_assign rfl) ?_
        refine tp rfl (lv_assign rfl) ?_
        refine t_done ?_
        refine q_then_n (hK17 _ _ ?_)
        refine c_seq (fun K18 hK18 => ?_)
        refine c_seq (fun K19 hK19 => ?_)
        refine c_region ?_
        refine tp rfl (lv_move rfl) ?_
        refine tp rfl (lv_move rfl) ?_
        refine tp rfl (lv_lss rfl rfl (decide_eq_false hroom)) ?_
        refine tp rfl (lv_move rfl) ?_
        refine t_skip rfl rfl rfl ?_
        refine t_skip rfl rfl rfl ?_
        refine t_skip rfl rfl rfl ?_
        refine t_skipu rfl rfl rfl ?_
        refine t_skipu rfl rfl rfl ?_
        refine t_skip rfl rfl rfl ?_
        refine t_skip rfl rfl rfl ?_
        refine t_skipu rfl rfl rfl ?_
        refine t_skipu rfl rfl rfl ?_
        refine t_skipu rfl rfl rfl ?_
        refine t_skipu rfl rfl rfl ?_
        refine t_skipu rfl rfl rfl ?_
        refine t_skipu rfl rfl rfl ?_
        refine t_skip rfl rfl rfl ?_
        refine tp rfl (lv_pick_f rfl rfl) ?_
        refine t_done ?_
        refine q_then_n (hK19 _ _ ?_)
        refine c_false rfl ?_
        refine c_skip ?_
        refine q_then_n (hK18 _ _ ?_)
        refine c_seq (fun K20 hK20 => ?_)
        refine c_seq (fun K21 hK21 => ?_)
        refine c_region ?_
        refine tp rfl (lv_move rfl) ?_
        refine tp rfl (lv_move rfl) ?_
        refine tp rfl (lv_geq rfl rfl (decide_eq_true (by omega))) ?_
        refine tp rfl (lv_move rfl) ?_
        refine t_guard rfl rfl ?_
        refine tp rfl (lv_move rfl) ?_
        refine t_guard rfl rfl ?_
        refine tp rfl (lv_neq (r := false) rfl rfl (by decide)) ?_
        refine t_guard rfl rfl ?_
        refine tp rfl (lv_move rfl) ?_
        refine t_guard rfl rfl ?_
        refine tp rfl (lv_move rfl) ?_
        refine t_guard rfl rfl ?_
        refine tp rfl (lv_neq (r := false) rfl rfl (by decide)) ?_
        refine t_guard rfl rfl ?_
        refine tp rfl (lv_pick_f rfl rfl) ?_
        refine t_guard rfl rfl ?_
        refine tp rfl (lv_move rfl) ?_
        refine t_guard rfl rfl ?_
        refine tp rfl (lv_move rfl) ?_
        refine t_guard rfl rfl ?_
        refine tc rfl (en_fn Try.call16 rfl) (actives_ok (A := A) (Q := 0) (s := s) (by omega)) ?_
        rintro _ _ ⟨bs20, cp21, hok22, hle23, rfl, rfl⟩
        refine t_guard rfl rfl ?_
        refine tp rfl (lv_len Try.underlying27 rfl rfl) ?_
        refine t_guard rfl rfl ?_
        refine tp rfl (lv_move rfl) ?_
        refine t_guard rfl rfl ?_
        refine tp rfl (lv_neq rfl rfl (bne_eq_false_iff_eq.2 rfl)) ?_
        refine t_guard rfl rfl ?_
        refine tp rfl (lv_pick_f rfl rfl) ?_
        refine tp rfl (lv_pick_t rfl rfl) ?_
        refine t_done ?_
        refine q_then_n (hK21 _ _ ?_)
        refine c_false rfl ?_
        refine c_skip ?_
        refine q_then_n (hK20 _ _ ?_)
        refine c_seq (fun K22 hK22 => ?_)
        refine c_region ?_
        refine t_f1 ?_
        refine t_learn (fun _ h => aok_of h) (fun hok3 => ?_)
        have hok3la := hok3.la
        have hok3lq := hok3.lq
        refine tp rfl (lv_move rfl) ?_
        refine tc rfl (en_fn Try.call17 rfl) (waiting_ok (A := A) (Q := 0) (s := s) (by have := hok3.la; have := hok3.lq; omega)) ?_
        rintro _ _ ⟨bs24, cp25, hok26, hle27, rfl, rfl⟩
        refine tp rfl (lv_len Try.underlying27 rfl rfl) ?_
        refine tp rfl (lv_neq rfl rfl (bne_eq_false_iff_eq.2 (by omega))) ?_
        refine t_done ?_
        refine q_then_n (hK22 _ _ ?_)
        refine c_false rfl ?_
        refine c_skip ?_
        refine q_in_n ?_
        refine q_then_n (hK12 _ _ ?_)
        refine c_region ?_
        refine tp rfl (lv_move rfl) ?_
        refine tp rfl (lv_add (c := ((i + 1 : Nat) : Int)) rfl rfl (wr_i64_succ (by omega))) ?_
        refine tp rfl (lv_assign rfl) ?_
        refine t_done ?_
        refine q_then_n ?_
        refine t_drop ?_
        refine t_f1 ?_
        refine t_drop ?_
        refine t_f1 ?_
        refine t_drop ?_
        refine t_f1 ?_
        refine t_drop ?_
        exact t_weak (by exact ⟨rfl, rfl, rfl, rfl, rfl, rfl, trivial⟩) ((hK9 (i + 1, s) ⟨by omega, by omega, hnx⟩ (by dsimp only; omega)))
    · -- true
      refine t_guard rfl rfl ?_
      refine tp rfl (lv_move rfl) ?_
      refine t_guard rfl rfl ?_
      refine tp rfl (lv_len Try.underlying27 rfl rfl) ?_
      refine t_guard rfl rfl ?_
      by_cases h28 : ((s.a.length : Nat) : Int) > 0
      · -- yes
        refine tp rfl (lv_gtr rfl rfl (decide_eq_true h28)) ?_
        refine tp rfl (lv_pick_t rfl rfl) ?_
        refine t_done ?_
        refine q_then_n (hK15 _ _ ?_)
        refine c_true rfl ?_
        refine c_seq (fun K16 hK16 => ?_)
        refine c_region ?_
        have hxm : (s.a).getD ((((s.a.length : Nat) : Int) / 2).toNat) 0 ∈ s.a := getD_mem (by omega)
        obtain ⟨he1, he2, he3⟩ := end_alone hq0 hxm
        refine tp rfl (lv_move rfl) ?_
        refine tp rfl (lv_move rfl) ?_
        refine tp rfl (lv_move rfl) ?_
        refine tp rfl (lv_len Try.underlying27 rfl rfl) ?_
        refine tp rfl (lv_quo (c := ((s.a.length : Nat) : Int) / 2) rfl rfl (by omega) (wr_quo (by omega) (by omega) (by omega))) ?_
        refine tp rfl (lv_indexAddr (k' := (((s.a.length : Nat) : Int) / 2).toNat) Try.underlying27 Try.sizeOf3 rfl rfl hok5 (by omega) (by omega) (by omega)) ?_
        refine tp rfl (lv_load Try.isAgg3 rfl (gives_sl (.head _) (ints_get (by omega)))) ?_
        refine t_f1 ?_
        refine tc rfl (en_fn Try.call14 rfl) (aend_ok (A := A) (Q := 0) (s := s) ((s.a).getD ((((s.a.length : Nat) : Int) / 2).toNat) 0) (by omega)) ?_
        rintro _ _ ⟨rfl, rfl⟩
        rw [show endV s ((s.a).getD ((((s.a.length : Nat) : Int) / 2).toNat) 0) = (-1) from he2]
        rw [show endEr s ((s.a).getD ((((s.a.length : Nat) : Int) / 2).toNat) 0) = 0 from he3]
        refine tp rfl (lv_move rfl) ?_
        refine tp rfl (lv_extract rfl rfl) ?_
        refine tp rfl (lv_extract rfl rfl) ?_
        refine tp rfl (lv_assign rfl) ?_
        refine tp rfl (lv_assign rfl) ?_
        refine t_done ?_
        refine q_then_n (hK16 _ _ ?_)
        refine c_seq (fun K17 hK17 => ?_)
        refine c_region ?_
        refine tp rfl (lv_move rfl) ?_
        refine tp rfl (lv_neq (r := false) rfl rfl (by decide)) ?_
        refine tp rfl (lv_move rfl) ?_
        refine t_guard rfl rfl ?_
        refine tp rfl (lv_move rfl) ?_
        refine t_guard rfl rfl ?_
        refine tp rfl (lv_neq (r := false) rfl rfl (by decide)) ?_
        refine tp rfl (lv_pick_f rfl rfl) ?_
        refine t_done ?_
        refine q_then_n (hK17 _ _ ?_)
        refine c_false rfl ?_
        refine c_skip ?_
        refine q_then_n (hK14 _ _ ?_)
        refine c_seq (fun K18 hK18 => ?_)
        refine c_region ?_
        have hal2 : ∀ y ∈ (endS s ((s.a).getD ((((s.a.length : Nat) : Int) / 2).toNat) 0)).a ++ (endS s ((s.a).getD ((((s.a.length : Nat) : Int) / 2).toNat) 0)).q, 0 ≤ y ∧ y < (i : Int) := endS_all hall
        obtain ⟨u, hu⟩ : ∃ x, endS s ((s.a).getD ((((s.a.length : Nat) : Int) / 2).toNat) 0) = x := ⟨_, rfl⟩
        rw [hu] at hal2 ⊢
        refine t_learn (fun _ h => aok_of h) (fun hok2 => ?_)
        have hok2la := hok2.la
        have hok2lq := hok2.lq
        refine tp rfl (lv_move rfl) ?_
        refine tc rfl (en_fn Try.call16 rfl) (actives_ok (A := A) (Q := 0) (s := u) (by omega)) ?_
        rintro _ _ ⟨bs29, cp30, hok31, hle32, rfl, rfl⟩
        refine tp rfl (lv_len Try.underlying27 rfl rfl) ?_
        refine tp rfl (lv_assign rfl) ?_
        refine t_done ?_
        refine q_then_n (hK18 _ _ ?_)
        refine c_seq (fun K19 hK19 => ?_)
        have hni : ((i : Nat) : Int) ∉ u.a ++ u.q := fun hm => by have := hal2 _ hm; omega
        by_cases hroom : ((u.a.length : Nat) : Int) < A
        · -- True
         obtain ⟨hv1, hv2, hv3⟩ := add_room (A := A) (Q := 0) hni hroom
         have hnx : ∀ y ∈ (pushA u ((i : Nat) : Int)).a ++ (pushA u ((i : Nat) : Int)).q, 0 ≤ y ∧ y < ((i + 1 : Nat) : Int) := by rw [← hv1]; exact addS_all (fun y hy => by have := hal2 y hy; omega) (by omega)
         refine c_region ?_
         refine tp rfl (lv_move rfl) ?_
         refine tp rfl (lv_move rfl) ?_
         refine t_f1 ?_
         refine tc rfl (en_fn Try.call12 rfl) (aadd_ok (A := A) (Q := 0) (s := u) ((i : Nat) : Int) (by omega)) ?_
         rintro _ _ ⟨rfl, rfl⟩
         rw [show addS A 0 u ((i : Nat) : Int) = pushA u ((i : Nat) : Int) from hv1]
         rw [show addV A 0 u ((i : Nat) : Int) = 1 from hv2]
         rw [show addEr A 0 u ((i : Nat) : Int) = 0 from hv3]
         refine tp rfl (lv_move rfl) ?_
         refine tp rfl (lv_extract rfl rfl) ?_
         refine tp rfl (lv_extract rfl rfl) ?_
         refine tp rfl (lv_assign rfl) ?_
         refine tp rfl (lv_assign rfl) ?_
         refine t_done ?_
         refine q_then_n (hK19 _ _ ?_)
         refine c_seq (fun K20 hK20 => ?_)
         refine c_seq (fun K21 hK21 => ?_)
         refine c_region ?_
         refine tp rfl (lv_move rfl) ?_
         refine tp rfl (lv_move rfl) ?_
         refine tp rfl (lv_lss rfl rfl (decide_eq_true hroom)) ?_
         refine tp rfl (lv_move rfl) ?_
         refine t_guard rfl rfl ?_
         refine tp rfl (lv_move rfl) ?_
         refine t_guard rfl rfl ?_
         refine tp rfl (lv_neq (r := false) rfl rfl (by decide)) ?_
         refine t_guard rfl rfl ?_
         refine tp rfl (lv_move rfl) ?_
         refine t_guard rfl rfl ?_
         refine tp rfl (lv_move rfl) ?_
         refine t_guard rfl rfl ?_
         refine tp rfl (lv_neq (r := false) rfl rfl (by decide)) ?_
         refine t_guard rfl rfl ?_
         refine tp rfl (lv_pick_f rfl rfl) ?_
         refine t_guard rfl rfl ?_
         refine tp rfl (lv_move rfl) ?_
         refine t_guard rfl rfl ?_
         refine tp rfl (lv_move rfl) ?_
         refine t_guard rfl rfl ?_
         refine tc rfl (en_fn Try.call16 rfl) (actives_ok (A := A) (Q := 0) (s := pushA u ((i : Nat) : Int)) (by rw [pushA_len]; show _ + u.q.length ≤ _; omega)) ?_
         rintro _ _ ⟨bs33, cp34, hok35, hle36, rfl, rfl⟩
         refine t_guard rfl rfl ?_
         refine tp rfl (lv_len Try.underlying27 rfl rfl) ?_
         refine t_guard rfl rfl ?_
         refine tp rfl (lv_move rfl) ?_
         refine t_guard rfl rfl ?_
         refine tp rfl (lv_add (c := ((u.a.length + 1 : Nat) : Int)) rfl rfl (wr_i64_succ (by omega))) ?_
         refine t_guard rfl rfl ?_
         refine tp rfl (lv_neq rfl rfl (bne_eq_false_iff_eq.2 (by rw [pushA_len] <;> omega))) ?_
         refine t_guard rfl rfl ?_
         refine tp rfl (lv_pick_f rfl rfl) ?_
         refine tp rfl (lv_pick_t rfl rfl) ?_
         refine t_done ?_
         refine q_then_n (hK21 _ _ ?_)
         refine c_false rfl ?_
         refine c_skip ?_
         refine q_then_n (hK20 _ _ ?_)
         refine c_seq (fun K22 hK22 => ?_)
         refine c_seq (fun K23 hK23 => ?_)
         refine c_region ?_
         refine tp rfl (lv_move rfl) ?_
         refine tp rfl (lv_move rfl) ?_
         refine tp rfl (lv_geq rfl rfl (decide_eq_false (by omega))) ?_
         refine tp rfl (lv_move rfl) ?_
         refine t_skip rfl rfl rfl ?_
         refine t_skip rfl rfl rfl ?_
         refine t_skip rfl rfl rfl ?_
         refine t_skipu rfl rfl rfl ?_
         refine t_skipu rfl rfl rfl ?_
         refine t_skip rfl rfl rfl ?_
         refine t_skip rfl rfl rfl ?_
         refine t_skipu rfl rfl rfl ?_
         refine t_skipu rfl rfl rfl ?_
         refine t_skipu rfl rfl rfl ?_
         refine t_skipu rfl rfl rfl ?_
         refine t_skipu rfl rfl rfl ?_
         refine t_skip rfl rfl rfl ?_
         refine tp rfl (lv_pick_f rfl rfl) ?_
         refine t_done ?_
         refine q_then_n (hK23 _ _ ?_)
         refine c_false rfl ?_
         refine c_skip ?_
         refine q_then_n (hK22 _ _ ?_)
         refine c_seq (fun K24 hK24 => ?_)
         refine c_region ?_
         refine t_f1 ?_
         refine t_learn (fun _ h => aok_of h) (fun hok3 => ?_)
         have hok3la := hok3.la
         have hok3lq := hok3.lq
         refine tp rfl (lv_move rfl) ?_
         refine tc rfl (en_fn Try.call17 rfl) (waiting_ok (A := A) (Q := 0) (s := pushA u ((i : Nat) : Int)) (by have := hok3.la; have := hok3.lq; omega)) ?_
         rintro _ _ ⟨bs37, cp38, hok39, hle40, rfl, rfl⟩
         refine tp rfl (lv_len Try.underlying27 rfl rfl) ?_
         refine tp rfl (lv_neq rfl rfl (bne_eq_false_iff_eq.2 (by omega))) ?_
         refine t_done ?_
         refine q_then_n (hK24 _ _ ?_)
         refine c_false rfl ?_
         refine c_skip ?_
         refine q_in_n ?_
         refine q_then_n (hK12 _ _ ?_)
         refine c_region ?_
         refine tp rfl (lv_move rfl) ?_
         refine tp rfl (lv_add (c := ((i + 1 : Nat) : Int)) rfl rfl (wr_i64_succ (by omega))) ?_
         refine tp rfl (lv_assign rfl) ?_
         refine t_done ?_
         refine q_then_n ?_
         refine t_drop ?_
         refine t_f1 ?_
         refine t_drop ?_
         refine t_f1 ?_
         refine t_drop ?_
         refine t_f1 ?_
         refine t_drop ?_
         exact t_weak (by exact ⟨rfl, rfl, rfl, rfl, rfl, rfl, trivial⟩) ((hK9 (i + 1, pushA u ((i : Nat) : Int)) ⟨by omega, by omega, hnx⟩ (by dsimp only; omega)))
        · -- False
         obtain ⟨hv1, hv2, hv3⟩ := add_full (A := A) (Q := 0) hni hroom (by omega)
         have hnx : ∀ y ∈ (u).a ++ (u).q, 0 ≤ y ∧ y < ((i + 1 : Nat) : Int) := by rw [← hv1]; exact addS_all (fun y hy => by have := hal2 y hy; omega) (by omega)
         refine c_region ?_
         refine tp rfl (lv_move rfl) ?_
         refine tp rfl (lv_move rfl) ?_
         refine t_f1 ?_
         refine tc rfl (en_fn Try.call12 rfl) (aadd_ok (A := A) (Q := 0) (s := u) ((i : Nat) : Int) (by omega)) ?_
         rintro _ _ ⟨rfl, rfl⟩
         rw [show addS A 0 u ((i : Nat) : Int) = u from hv1]
         rw [show addV A 0 u ((i : Nat) : Int) = 0 from hv2]
         rw [show addEr A 0 u ((i : Nat) : Int) = 4 from hv3]
         refine tp rfl (lv_move rfl) ?_
         refine tp rfl (lv_extract rfl rfl) ?_
         refine tp rfl (lv_extract rfl rfl) ?_
         refine tp rfl (lv_assign rfl) ?_
         refine tp rfl (lv_assign rfl) ?_
         refine t_done ?_
         refine q_then_n (hK19 _ _ ?_)
         refine c_seq (fun K20 hK20 => ?_)
         refine c_seq (fun K21 hK21 => ?_)
         refine c_region ?_
         refine tp rfl (lv_move rfl) ?_
         refine tp rfl (lv_move rfl) ?_
         refine tp rfl (lv_lss rfl rfl (decide_eq_false hroom)) ?_
         refine tp rfl (lv_move rfl) ?_
         refine t_skip rfl rfl rfl ?_
         refine t_skip rfl rfl rfl ?_
         refine t_skip rfl rfl rfl ?_
         refine t_skipu rfl rfl rfl ?_
         refine t_skipu rfl rfl rfl ?_
         refine t_skip rfl rfl rfl ?_
         refine t_skip rfl rfl rfl ?_
         refine t_skipu rfl rfl rfl ?_
         refine t_skipu rfl rfl rfl ?_
         refine t_skipu rfl rfl rfl ?_
         refine t_skipu rfl rfl rfl ?_
         refine t_skipu rfl rfl rfl ?_
         refine t_skipu rfl rfl rfl ?_
         refine t_skip rfl rfl rfl ?_
         refine tp rfl (lv_pick_f rfl rfl) ?_
         refine t_done ?_
         refine q_then_n (hK21 _ _ ?_)
         refine c_false rfl ?_
         refine c_skip ?_
         refine q_then_n (hK20 _ _ ?_)
         refine c_seq (fun K22 hK22 => ?_)
         refine c_seq (fun K23 hK23 => ?_)
         refine c_region ?_
         refine tp rfl (lv_move rfl) ?_
         refine tp rfl (lv_move rfl) ?_
         refine tp rfl (lv_geq rfl rfl (decide_eq_true (by omega))) ?_
         refine tp rfl (lv_move rfl) ?_
         refine t_guard rfl rfl ?_
         refine tp rfl (lv_move rfl) ?_
         refine t_guard rfl rfl ?_
         refine tp rfl (lv_neq (r := false) rfl rfl (by decide)) ?_
         refine t_guard rfl rfl ?_
         refine tp rfl (lv_move rfl) ?_
         refine t_guard rfl rfl ?_
         refine tp rfl (lv_move rfl) ?_
         refine t_guard rfl rfl ?_
         refine tp rfl (lv_neq (r := false) rfl rfl (by decide)) ?_
         refine t_guard rfl rfl ?_
         refine tp rfl (lv_pick_f rfl rfl) ?_
         refine t_guard rfl rfl ?_
         refine tp rfl (lv_move rfl) ?_
         refine t_guard rfl rfl ?_
         refine tp rfl (lv_move rfl) ?_
         refine t_guard rfl rfl ?_
         refine tc rfl (en_fn Try.call16 rfl) (actives_ok (A := A) (Q := 0) (s := u) (by omega)) ?_
         rintro _ _ ⟨bs41, cp42, hok43, hle44, rfl, rfl⟩
         refine t_guard rfl rfl ?_
         refine tp rfl (lv_len Try.underlying27 rfl rfl) ?_
         refine t_guard rfl rfl ?_
         refine tp rfl (lv_move rfl) ?_
         refine t_guard rfl rfl ?_
         refine tp rfl (lv_neq rfl rfl (bne_eq_false_iff_eq.2 rfl)) ?_
         refine t_guard rfl rfl ?_
         refine tp rfl (lv_pick_f rfl rfl) ?_
         refine tp rfl (lv_pick_t rfl rfl) ?_
         refine t_done ?_
         refine q_then_n (hK23 _ _ ?_)
         refine c_false rfl ?_
         refine c_skip ?_
         refine q_then_n (hK22 _ _ ?_)
         refine c_seq (fun K24 hK24 => ?_)
         refine c_region ?_
         refine t_f1 ?_
         refine t_learn (fun _ h => aok_of h) (fun hok3 => ?_)
         have hok3la := hok3.la
         have hok3lq := hok3.lq
         refine tp rfl (lv_move rfl) ?_
         refine tc rfl (en_fn Try.call17 rfl) (waiting_ok (A := A) (Q := 0) (s := u) (by have := hok3.la; have := hok3.lq; omega)) ?_
         rintro _ _ ⟨bs45, cp46, hok47, hle48, rfl, rfl⟩
         refine tp rfl (lv_len Try.underlying27 rfl rfl) ?_
         refine tp rfl (lv_neq rfl rfl (bne_eq_false_iff_eq.2 (by omega))) ?_
         refine t_done ?_
         refine q_then_n (hK24 _ _ ?_)
         refine c_false rfl ?_
         refine c_skip ?_
         refine q_in_n ?_
         refine q_then_n (hK12 _ _ ?_)
         refine c_region ?_
         refine tp rfl (lv_move rfl) ?_
         refine tp rfl (lv_add (c := ((i + 1 : Nat) : Int)) rfl rfl (wr_i64_succ (by omega))) ?_
         refine tp rfl (lv_assign rfl) ?_
         refine t_done ?_
         refine q_then_n ?_
         refine t_drop ?_
         refine t_f1 ?_
         refine t_drop ?_
         refine t_f1 ?_
         refine t_drop ?_
         refine t_f1 ?_
         refine t_drop ?_
         exact t_weak (by exact ⟨rfl, rfl, rfl, rfl, rfl, rfl, trivial⟩) ((hK9 (i + 1, u) ⟨by omega, by omega, hnx⟩ (by dsimp only; omega)))
      · -- no
        refine tp rfl (lv_gtr rfl rfl (decide_eq_false h28)) ?_
        refine tp rfl (lv_pick_t rfl rfl) ?_
        refine t_done ?_
        refine q_then_n (hK15 _ _ ?_)
        refine c_false rfl ?_
        refine c_skip ?_
        refine q_then_n (hK14 _ _ ?_)
        refine c_seq (fun K16 hK16 => ?_)
        refine c_region ?_
        have hal2 : ∀ y ∈ (s).a ++ (s).q, 0 ≤ y ∧ y < (i : Int) := hall
        obtain ⟨u, hu⟩ : ∃ u, s = u := ⟨_, rfl⟩
        subst hu
        refine t_f1 ?_
        refine t_learn (fun _ h => aok_of h) (fun hok2 => ?_)
        have hok2la := hok2.la
        have hok2lq := hok2.lq
        refine tp rfl (lv_move rfl) ?_
        refine tc rfl (en_fn Try.call16 rfl) (actives_ok (A := A) (Q := 0) (s := s) (by omega)) ?_
        rintro _ _ ⟨bs49, cp50, hok51, hle52, rfl, rfl⟩
        refine tp rfl (lv_len Try.underlying27 rfl rfl) ?_
        refine tp rfl (lv_assign rfl) ?_
        refine t_done ?_
        refine q_then_n (hK16 _ _ ?_)
        refine c_seq (fun K17 hK17 => ?_)
        have hni : ((i : Nat) : Int) ∉ s.a ++ s.q := fun hm => by have := hal2 _ hm; omega
        by_cases hroom : ((s.a.length : Nat) : Int) < A
        · -- True
         obtain ⟨hv1, hv2, hv3⟩ := add_room (A := A) (Q := 0) hni hroom
         have hnx : ∀ y ∈ (pushA s ((i : Nat) : Int)).a ++ (pushA s ((i : Nat) : Int)).q, 0 ≤ y ∧ y < ((i + 1 : Nat) : Int) := by rw [← hv1]; exact addS_all (fun y hy => by have := hal2 y hy; omega) (by omega)
         refine c_region ?_
         refine tp rfl (lv_move rfl) ?_
         refine tp rfl (lv_move rfl) ?_
         refine t_f1 ?_
         refine tc rfl (en_fn Try.call12 rfl) (aadd_ok (A := A) (Q := 0) (s := s) ((i : Nat) : Int) (by omega)) ?_
         rintro _ _ ⟨rfl, rfl⟩
         rw [show addS A 0 s ((i : Nat) : Int) = pushA s ((i : Nat) : Int) from hv1]
         rw [show addV A 0 s ((i : Nat) : Int) = 1 from hv2]
         rw [show addEr A 0 s ((i : Nat) : Int) = 0 from hv3]
         refine tp rfl (lv_move rfl) ?_
         refine tp rfl (lv_extract rfl rfl) ?_
         refine tp rfl (lv_extract rfl rfl) ?_
         refine tp rfl (lv_assign rfl) ?_
         refine tp rfl (lv_assign rfl) ?_
         refine t_done ?_
         refine q_then_n (hK17 _ _ ?_)
         refine c_seq (fun K18 hK18 => ?_)
         refine c_seq (fun K19 hK19 => ?_)
         refine c_region ?_
         refine tp rfl (lv_move rfl) ?_
         refine tp rfl (lv_move rfl) ?_
         refine tp rfl (lv_lss rfl rfl (decide_eq_true hroom)) ?_
         refine tp rfl (lv_move rfl) ?_
         refine t_guard rfl rfl ?_
         refine tp rfl (lv_move rfl) ?_
         refine t_guard rfl rfl ?_
         refine tp rfl (lv_neq (r := false) rfl rfl (by decide)) ?_
         refine t_guard rfl rfl ?_
         refine tp rfl (lv_move rfl) ?_
         refine t_guard rfl rfl ?_
         refine tp rfl (lv_move rfl) ?_
         refine t_guard rfl rfl ?_
         refine tp rfl (lv_neq (r := false) rfl rfl (by decide)) ?_
         refine t_guard rfl rfl ?_
         refine tp rfl (lv_pick_f rfl rfl) ?_
         refine t_guard rfl rfl ?_
         refine tp rfl (lv_move rfl) ?_
         refine t_guard rfl rfl ?_
         refine tp rfl (lv_move rfl) ?_
         refine t_guard rfl rfl ?_
         refine tc rfl (en_fn Try.call16 rfl) (actives_ok (A := A) (Q := 0) (s := pushA s ((i : Nat) : Int)) (by rw [pushA_len]; show _ + s.q.length ≤ _; omega)) ?_
         rintro _ _ ⟨bs53, cp54, hok55, hle56, rfl, rfl⟩
         refine t_guard rfl rfl ?_
         refine tp rfl (lv_len Try.underlying27 rfl rfl) ?_
         refine t_guard rfl rfl ?_
         refine tp rfl (lv_move rfl) ?_
         refine t_guard rfl rfl ?_
         refine tp rfl (lv_add (c := ((s.a.length + 1 : Nat) : Int)) rfl rfl (wr_i64_succ (by omega))) ?_
         refine t_guard rfl rfl ?_
         refine tp rfl (lv_neq rfl rfl (bne_eq_false_iff_eq.2 (by rw [pushA_len] <;> omega))) ?_
         refine t_guard rfl rfl ?_
         refine tp rfl (lv_pick_f rfl rfl) ?_
         refine tp rfl (lv_pick_t rfl rfl) ?_
         refine t_done ?_
         refine q_then_n (hK19 _ _ ?_)
         refine c_false rfl ?_
         refine c_skip ?_
         refine q_then_n (hK18 _ _ ?_)
         refine c_seq (fun K20 hK20 => ?_)
         refine c_seq (fun K21 hK21 => ?_)
         refine c_region ?_
         refine tp rfl (lv_move rfl) ?_
         refine tp rfl (lv_move rfl) ?_
         refine tp rfl (lv_geq rfl rfl (decide_eq_false (by omega))) ?_
         refine tp rfl (lv_move rfl) ?_
         refine t_skip rfl rfl rfl ?_
         refine t_skip rfl rfl rfl ?_
         refine t_skip rfl rfl rfl ?_
         refine t_skipu rfl rfl rfl ?_
         refine t_skipu rfl rfl rfl ?_
         refine t_skip rfl rfl rfl ?_
         refine t_skip rfl rfl rfl ?_
         refine t_skipu rfl rfl rfl ?_
         refine t_skipu rfl rfl rfl ?_
         refine t_skipu rfl rfl rfl ?_
         refine t_skipu rfl rfl rfl ?_
         refine t_skipu rfl rfl rfl ?_
         refine t_skip rfl rfl rfl ?_
         refine tp rfl (lv_pick_f rfl rfl) ?_
         refine t_done ?_
         refine q_then_n (hK21 _ _ ?_)
         refine c_false rfl ?_
         refine c_skip ?_
         refine q_then_n (hK20 _ _ ?_)
         refine c_seq (fun K22 hK22 => ?_)
         refine c_region ?_
         refine t_f1 ?_
         refine t_learn (fun _ h => aok_of h) (fun hok3 => ?_)
         have hok3la := hok3.la
         have hok3lq := hok3.lq
         refine tp rfl (lv_move rfl) ?_
         refine tc rfl (en_fn Try.call17 rfl) (waiting_ok (A := A) (Q := 0) (s := pushA s ((i : Nat) : Int)) (by have := hok3.la; have := hok3.lq; omega)) ?_
         rintro _ _ ⟨bs57, cp58, hok59, hle60, rfl, rfl⟩
         refine tp rfl (lv_len Try.underlying27 rfl rfl) ?_
         refine tp rfl (lv_neq rfl rfl (bne_eq_false_iff_eq.2 (by omega))) ?_
         refine t_done ?_
         refine q_then_n (hK22 _ _ ?_)
         refine c_false rfl ?_
         refine c_skip ?_
         refine q_in_n ?_
         refine q_then_n (hK12 _ _ ?_)
         refine c_region ?_
         refine tp rfl (lv_move rfl) ?_
         refine tp rfl (lv_add (c := ((i + 1 : Nat) : Int)) rfl rfl (wr_i64_succ (by omega))) ?_
         refine tp rfl (lv_assign rfl) ?_
         refine t_done ?_
         refine q_then_n ?_
         refine t_drop ?_
         refine t_f1 ?_
         refine t_drop ?_
         refine t_f1 ?_
         refine t_drop ?_
         refine t_f1 ?_
         refine t_drop ?_
         exact t_weak (by exact ⟨rfl, rfl, rfl, rfl, rfl, rfl, trivial⟩) ((hK9 (i + 1, pushA s ((i : Nat) : Int)) ⟨by omega, by omega, hnx⟩ (by dsimp only; omega)))
        · -- False
         obtain ⟨hv1, hv2, hv3⟩ := add_full (A := A) (Q := 0) hni hroom (by omega)
         have hnx : ∀ y ∈ (s).a ++ (s).q, 0 ≤ y ∧ y < ((i + 1 : Nat) : Int) := by rw [← hv1]; exact addS_all (fun y hy => by have := hal2 y hy; omega) (by omega)
         refine c_region ?_
         refine tp rfl (lv_move rfl) ?_
         refine tp rfl (lv_move rfl) ?_
         refine t_f1 ?_
         refine tc rfl (en_fn Try.call12 rfl) (aadd_ok (A := A) (Q := 0) (s := s) ((i : Nat) : Int) (by omega)) ?_
         rintro _ _ ⟨rfl, rfl⟩
         rw [show addS A 0 s ((i : Nat) : Int) = s from hv1]
         rw [show addV A 0 s ((i : Nat) : Int) = 0 from hv2]
         rw [show addEr A 0 s ((i : Nat) : Int) = 4 from hv3]
         refine tp rfl (lv_move rfl) ?_
         refine tp rfl (lv_extract rfl rfl) ?_
         refine tp rfl (lv_extract rfl rfl) ?_
         refine tp rfl (lv_assign rfl) ?_
         refine tp rfl (lv_assign rfl) ?_
         refine t_done ?_
         refine q_then_n (hK17 _ _ ?_)
         refine c_seq (fun K18 hK18 => ?_)
         refine c_seq (fun K19 hK19 => ?_)
         refine c_region ?_
         refine tp rfl (lv_move rfl) ?_
         refine tp rfl (lv_move rfl) ?_
         refine tp rfl (lv_lss rfl rfl (decide_eq_false hroom)) ?_
         refine tp rfl (lv_move rfl) ?_
         refine t_skip rfl rfl rfl ?_
         refine t_skip rfl rfl rfl ?_
         refine t_skip rfl rfl rfl ?_
         refine t_skipu rfl rfl rfl ?_
         refine t_skipu rfl rfl rfl ?_
         refine t_skip rfl rfl rfl ?_
         refine t_skip rfl rfl rfl ?_
         refine t_skipu rfl rfl rfl ?_
         refine t_skipu rfl rfl rfl ?_
         refine t_skipu rfl rfl rfl ?_
         refine t_skipu rfl rfl rfl ?_
         refine t_skipu rfl rfl rfl ?_
         refine t_skipu rfl rfl rfl ?_
         refine t_skip rfl rfl rfl ?_
         refine tp rfl (lv_pick_f rfl rfl) ?_
         refine t_done ?_
         refine q_then_n (hK19 _ _ ?_)
         refine c_false rfl ?_
         refine c_skip ?_
         refine q_then_n (hK18 _ _ ?_)
         refine c_seq (fun K20 hK20 => ?_)
         refine c_seq (fun K21 hK21 => ?_)
         refine c_region ?_
         refine tp rfl (lv_move rfl) ?_
         refine tp rfl (lv_move rfl) ?_
         refine tp rfl (lv_geq rfl rfl (decide_eq_true (by omega))) ?_
         refine tp rfl (lv_move rfl) ?_
         refine t_guard rfl rfl ?_
         refine tp rfl (lv_move rfl) ?_
         refine t_guard rfl rfl ?_
         refine tp rfl (lv_neq (r := false) rfl rfl (by decide)) ?_
         refine t_guard rfl rfl ?_
         refine tp rfl (lv_move rfl) ?_
         refine t_guard rfl rfl ?_
         refine tp rfl (lv_move rfl) ?_
         refine t_guard rfl rfl ?_
         refine tp rfl (lv_neq (r := false) rfl rfl (by decide)) ?_
         refine t_guard rfl rfl ?_
         refine tp rfl (lv_pick_f rfl rfl) ?_
         refine t_guard rfl rfl ?_
         refine tp rfl (lv_move rfl) ?_
         refine t_guard rfl rfl ?_
         refine tp rfl (lv_move rfl) ?_
         refine t_guard rfl rfl ?_
         refine tc rfl (en_fn Try.call16 rfl) (actives_ok (A := A) (Q := 0) (s := s) (by omega)) ?_
         rintro _ _ ⟨bs61, cp62, hok63, hle64, rfl, rfl⟩
         refine t_guard rfl rfl ?_
         refine tp rfl (lv_len Try.underlying27 rfl rfl) ?_
         refine t_guard rfl rfl ?_
         refine tp rfl (lv_move rfl) ?_
         refine t_guard rfl rfl ?_
         refine tp rfl (lv_neq rfl rfl (bne_eq_false_iff_eq.2 rfl)) ?_
         refine t_guard rfl rfl ?_
         refine tp rfl (lv_pick_f rfl rfl) ?_
         refine tp rfl (lv_pick_t rfl rfl) ?_
         refine t_done ?_
         refine q_then_n (hK21 _ _ ?_)
         refine c_false rfl ?_
         refine c_skip ?_
         refine q_then_n (hK20 _ _ ?_)
         refine c_seq (fun K22 hK22 => ?_)
         refine c_region ?_
         refine t_f1 ?_
         refine t_learn (fun _ h => aok_of h) (fun hok3 => ?_)
         have hok3la := hok3.la
         have hok3lq := hok3.lq
         refine tp rfl (lv_move rfl) ?_
         refine tc rfl (en_fn Try.call17 rfl) (waiting_ok (A := A) (Q := 0) (s := s) (by have := hok3.la; have := hok3.lq; omega)) ?_
         rintro _ _ ⟨bs65, cp66, hok67, hle68, rfl, rfl⟩
         refine tp rfl (lv_len Try.underlying27 rfl rfl) ?_
         refine tp rfl (lv_neq rfl rfl (bne_eq_false_iff_eq.2 (by omega))) ?_
         refine t_done ?_
         refine q_then_n (hK22 _ _ ?_)
         refine c_false rfl ?_
         refine c_skip ?_
         refine q_in_n ?_
         refine q_then_n (hK12 _ _ ?_)
         refine c_region ?_
         refine tp rfl (lv_move rfl) ?_
         refine tp rfl (lv_add (c := ((i + 1 : Nat) : Int)) rfl rfl (wr_i64_succ (by omega))) ?_
         refine tp rfl (lv_assign rfl) ?_
         refine t_done ?_
         refine q_then_n ?_
         refine t_drop ?_
         refine t_f1 ?_
         refine t_drop ?_
         refine t_f1 ?_
         refine t_drop ?_
         refine t_f1 ?_
         refine t_drop ?_
         exact t_weak (by exact ⟨rfl, rfl, rfl, rfl, rfl, rfl, trivial⟩) ((hK9 (i + 1, s) ⟨by omega, by omega, hnx⟩ (by dsimp only; omega)))
  · -- not both
    refine t_cut0 (E' := [(0, (.int .i64 A)), (1, (.slice bl bs.length cl)), (5, (.bool true)), (6, (.pointer (some ⟨p1, 0, none⟩))), (7, (.int .i64 ((i : Nat) : Int))), (22, (.bool false)), (30, (.bool false))]) ?_ (fun KK hKK => ?_)
    ·
      refine q_then_n (hK11 _ _ ?_)
      refine c_false rfl ?_
      refine c_exit ?_
      refine q_then_x ?_
      refine q_then_x ?_
      refine q_in_x ?_
      refine q_then_n (hK7 _ _ ?_)
      refine c_seq (fun K12 hK12 => ?_)
      refine c_region ?_
      refine tp rfl (lv_move rfl) ?_
      refine tp rfl (lv_assign rfl) ?_
      refine t_done ?_
      refine q_then_n (hK12 _ _ ?_)
      refine c_ret ?_
      refine t_drop ?_
      refine q_ret rfl rfl ?_
      exact ⟨rfl, rfl⟩
    · -- which
      by_cases hc2A : ((i : Nat) : Int) < ((bs.length : Nat) : Int)
      ·
        have hc2B : ¬ (((i : Nat) : Int) < 40) := fun hh => hc2 ⟨hc2A, hh⟩
        refine tp rfl (lv_move rfl) ?_
        refine tp rfl (lv_move rfl) ?_
        refine tp rfl (lv_len Try.underlying44 rfl rfl) ?_
        refine tp rfl (lv_lss rfl rfl (decide_eq_true hc2A)) ?_
        refine tp rfl (lv_move rfl) ?_
        refine t_guard rfl rfl ?_
        refine tp rfl (lv_move rfl) ?_
        refine t_guard rfl rfl ?_
        refine tp rfl (lv_lss rfl rfl (decide_eq_false hc2B)) ?_
        refine tp rfl (lv_pick_t rfl rfl) ?_
        exact t_done (t_weak (by exact ⟨rfl, rfl, rfl, rfl, rfl, rfl, rfl, trivial⟩) hKK)
      ·
        refine tp rfl (lv_move rfl) ?_
        refine tp rfl (lv_move rfl) ?_
        refine tp rfl (lv_len Try.underlying44 rfl rfl) ?_
        refine tp rfl (lv_lss rfl rfl (decide_eq_false hc2A)) ?_
        refine tp rfl (lv_move rfl) ?_
        refine t_skip rfl rfl rfl ?_
        refine t_skip rfl rfl rfl ?_
        refine tp rfl (lv_pick_f rfl rfl) ?_
        exact t_done (t_weak (by exact ⟨rfl, rfl, rfl, rfl, rfl, rfl, rfl, trivial⟩) hKK)
end Go.Proofs.Ythhmdcbhgnoemaa
