/- HeapEmpty: the law's walk. -/
import Derived.Test.YtchnphachgcjmaaLa
set_option maxRecDepth 100000
set_option linter.unusedVariables false
set_option linter.unusedSimpArgs false
namespace Go.Proofs.Ytchnphachgcjmaa
open Go Go.Proofs Sp
set_option maxHeartbeats 20000000 in
theorem empty_law {R : List HP} (n id key : Int) :
    Ok Try.prog 10 [(.int .i64 n), (.int .i64 id), (.int .i64 key)] R
      (fun v M => v = .bool true ∧ M = R) := by
  obtain ⟨m, hm⟩ : ∃ m : Nat, n % 65536 % 100 = (m : Int) := ⟨(n % 65536 % 100).toNat, by omega⟩
  have hm2 : m < 100 := by omega
  have hcm : hclamp ((m : Nat) : Int) = m := by unfold hclamp; omega
  refine ok_of (N := 150) Try.func10 rfl rfl rfl (fun W => ?_)
  refine c_seq (fun K1 hK1 => ?_)
  refine c_region ?_
  refine tp rfl (lv_assign rfl) ?_
  refine t_done ?_
  refine q_then_n (hK1 _ _ ?_)
  refine c_seq (fun K2 hK2 => ?_)
  refine c_region ?_
  refine tc rfl (en_fn Try.call11 rfl) (shown_ok) ?_
  rintro _ _ ⟨rfl, hMR⟩
  rw [hMR]; clear hMR
  refine tp rfl (lv_assign rfl) ?_
  refine t_done ?_
  refine q_then_n (hK2 _ _ ?_)
  refine c_seq (fun K3 hK3 => ?_)
  refine c_region ?_
  refine tp rfl (lv_move rfl) ?_
  refine tp rfl (lv_and (c := n % 65536) rfl rfl (and_pow 16 (by decide) n)) ?_
  refine tp rfl (lv_rem (c := ((m : Nat) : Int)) rfl rfl (by omega) ((Int.tmod_eq_emod_of_nonneg (by omega)).trans hm)) ?_
  refine tp rfl (lv_assign rfl) ?_
  refine t_done ?_
  refine q_then_n (hK3 _ _ ?_)
  refine c_seq (fun K4 hK4 => ?_)
  refine c_region ?_
  refine tp rfl (lv_move rfl) ?_
  refine tc rfl (en_fn Try.call12 rfl) (hnew_ok ((m : Nat) : Int)) ?_
  rintro _ _ ⟨p1, rfl, rfl⟩
  rw [show hclamp ((m : Nat) : Int) = m from hcm]
  rw [show List.replicate (m) none = List.replicate m none from rfl]
  refine tp rfl (lv_assign rfl) ?_
  refine t_done ?_
  refine q_then_n (hK4 _ _ ?_)
  refine c_seq (fun K5 hK5 => ?_)
  refine c_seq (fun K6 hK6 => ?_)
  refine c_region ?_
  refine tp rfl (lv_move rfl) ?_
  refine tp rfl (lv_eqnil Try.underlying25 rfl rfl) ?_
  refine t_done ?_
  refine q_then_n (hK6 _ _ ?_)
  refine c_false rfl ?_
  refine c_skip ?_
  refine q_then_n (hK5 _ _ ?_)
  refine c_seq (fun K7 hK7 => ?_)
  refine c_region ?_
  refine tp rfl (lv_move rfl) ?_
  by_cases h2 : id ≥ 0
  · -- yes
    refine tp rfl (lv_geq rfl rfl (decide_eq_true h2)) ?_
    refine tp rfl (lv_move rfl) ?_
    refine t_guard rfl rfl ?_
    refine tp rfl (lv_move rfl) ?_
    refine t_guard rfl rfl ?_
    refine tp rfl (lv_move rfl) ?_
    refine t_guard rfl rfl ?_
    refine tp rfl (lv_lss rfl rfl rfl) ?_
    refine tp rfl (lv_pick_t rfl rfl) ?_
    refine tp rfl (lv_assign rfl) ?_
    refine t_done ?_
    refine q_then_n (hK7 _ _ ?_)
    refine c_seq (fun K8 hK8 => ?_)
    refine c_region ?_
    refine tp rfl (lv_assign rfl) ?_
    refine t_done ?_
    refine q_then_n (hK8 _ _ ?_)
    refine c_seq (fun K9 hK9 => ?_)
    refine c_seq (fun K10 hK10 => ?_)
    refine c_region ?_
    refine tp rfl (lv_move rfl) ?_
    refine t_done ?_
    refine q_then_n (hK10 _ _ ?_)
    refine c_split rfl (fun c3 => ?_) (fun c3 => ?_)
    · -- true
      refine c_region ?_
      refine tp rfl (lv_assign rfl) ?_
      refine t_done ?_
      refine q_then_n (hK9 _ _ ?_)
      refine c_seq (fun K11 hK11 => ?_)
      refine c_region ?_
      rw [show decide (id < ((m : Nat) : Int)) = true from c3]
      have hk : known m id = true := known_iff.2 ⟨by omega, by first | omega | (have h9 := ‹decide (id < ((m : Nat) : Int)) = true›; have h8 := of_decide_eq_true h9; omega)⟩
      have hek := emp_pushed (known_iff.1 hk) key
      refine tp rfl (lv_move rfl) ?_
      refine tp rfl (lv_move rfl) ?_
      refine tp rfl (lv_move rfl) ?_
      refine tc rfl (en_fn Try.call16 rfl) (hlow_ok (n := m) (ks := List.replicate m none) id key) ?_
      rintro _ _ ⟨rfl, rfl⟩
      rw [show lowE (List.replicate m none) id key = 6 from (by rw [(emp_low m id key).1, hk]; rfl)]
      rw [show lowK (List.replicate m none) id key = List.replicate m none from ((emp_low m id key).2)]
      refine tp rfl (lv_assign rfl) ?_
      refine t_done ?_
      refine q_then_n (hK11 _ _ ?_)
      refine c_seq (fun K12 hK12 => ?_)
      refine c_region ?_
      refine tp rfl (lv_move rfl) ?_
      refine tp rfl (lv_move rfl) ?_
      refine tc rfl (en_fn Try.call17 rfl) (hrem_ok (n := m) (ks := List.replicate m none) id) ?_
      rintro _ _ ⟨rfl, rfl⟩
      rw [show keyK (List.replicate m none) id = 0 from (emp_key m id)]
      rw [show remE (List.replicate m none) id = 6 from (by rw [(emp_rem m id).1, hk]; rfl)]
      rw [show remK (List.replicate m none) id = List.replicate m none from ((emp_rem m id).2)]
      refine tp rfl (lv_move rfl) ?_
      refine tp rfl (lv_extract rfl rfl) ?_
      refine tp rfl (lv_extract rfl rfl) ?_
      refine tp rfl (lv_assign rfl) ?_
      refine tp rfl (lv_assign rfl) ?_
      refine t_done ?_
      refine q_then_n (hK12 _ _ ?_)
      refine c_seq (fun K13 hK13 => ?_)
      refine c_region ?_
      refine tp rfl (lv_move rfl) ?_
      refine tc rfl (en_fn Try.call19 rfl) (hfst_ok (n := m) (ks := List.replicate m none) ) ?_
      rintro _ _ ⟨rfl, rfl⟩
      rw [show fstB (List.replicate m none) = false from ((emp_fst m).2.2.1)]
      refine tp rfl (lv_move rfl) ?_
      refine tp rfl (lv_extract rfl rfl) ?_
      refine tp rfl (lv_extract rfl rfl) ?_
      refine tp rfl (lv_extract rfl rfl) ?_
      refine tp rfl (lv_assign rfl) ?_
      refine tp rfl (lv_assign rfl) ?_
      refine tp rfl (lv_assign rfl) ?_
      refine t_done ?_
      refine q_then_n (hK13 _ _ ?_)
      refine c_seq (fun K14 hK14 => ?_)
      refine c_region ?_
      refine tp rfl (lv_move rfl) ?_
      refine tc rfl (en_fn Try.call14 rfl) (hpop_ok (n := m) (ks := List.replicate m none) ) ?_
      rintro _ _ ⟨rfl, rfl⟩
      rw [show fstB (List.replicate m none) = false from ((emp_fst m).2.2.1)]
      rw [show popK (List.replicate m none) = List.replicate m none from ((emp_fst m).2.2.2)]
      refine tp rfl (lv_move rfl) ?_
      refine tp rfl (lv_extract rfl rfl) ?_
      refine tp rfl (lv_extract rfl rfl) ?_
      refine tp rfl (lv_extract rfl rfl) ?_
      refine tp rfl (lv_assign rfl) ?_
      refine tp rfl (lv_assign rfl) ?_
      refine tp rfl (lv_assign rfl) ?_
      refine t_done ?_
      refine q_then_n (hK14 _ _ ?_)
      refine c_seq (fun K15 hK15 => ?_)
      refine c_region ?_
      refine tp rfl (lv_move rfl) ?_
      refine tp rfl (lv_move rfl) ?_
      refine tc rfl (en_fn Try.call25 rfl) (hkey_ok (n := m) (ks := List.replicate m none) id) ?_
      rintro _ _ ⟨rfl, rfl⟩
      rw [show keyK (List.replicate m none) id = 0 from (emp_key m id)]
      rw [show hasK (List.replicate m none) id = false from (emp_has m id)]
      refine tp rfl (lv_move rfl) ?_
      refine tp rfl (lv_extract rfl rfl) ?_
      refine tp rfl (lv_extract rfl rfl) ?_
      refine tp rfl (lv_assign rfl) ?_
      refine tp rfl (lv_assign rfl) ?_
      refine t_done ?_
      refine q_then_n (hK15 _ _ ?_)
      refine c_seq (fun K16 hK16 => ?_)
      refine c_seq (fun K17 hK17 => ?_)
      refine c_region ?_
      refine tp rfl (lv_move rfl) ?_
      refine tp rfl (lv_move rfl) ?_
      refine tp rfl (lv_neq (r := false) rfl rfl (by decide)) ?_
      refine tp rfl (lv_move rfl) ?_
      refine t_guard rfl rfl ?_
      refine tp rfl (lv_move rfl) ?_
      refine t_guard rfl rfl ?_
      refine tp rfl (lv_move rfl) ?_
      refine t_guard rfl rfl ?_
      refine tp rfl (lv_neq (r := false) rfl rfl (by decide)) ?_
      refine tp rfl (lv_pick_f rfl rfl) ?_
      refine tp rfl (lv_move rfl) ?_
      refine t_guard rfl rfl ?_
      refine tp rfl (lv_move rfl) ?_
      refine t_guard rfl rfl ?_
      refine tp rfl (lv_neq (r := false) rfl rfl (by decide)) ?_
      refine tp rfl (lv_pick_f rfl rfl) ?_
      refine tp rfl (lv_move rfl) ?_
      refine t_guard rfl rfl ?_
      refine tp rfl (lv_move rfl) ?_
      refine tp rfl (lv_pick_f rfl rfl) ?_
      refine tp rfl (lv_move rfl) ?_
      refine t_guard rfl rfl ?_
      refine tp rfl (lv_move rfl) ?_
      refine tp rfl (lv_pick_f rfl rfl) ?_
      refine tp rfl (lv_move rfl) ?_
      refine t_guard rfl rfl ?_
      refine tp rfl (lv_move rfl) ?_
      refine t_guard rfl rfl ?_
      refine tp rfl (lv_neq (r := false) rfl rfl (by decide)) ?_
      refine tp rfl (lv_pick_f rfl rfl) ?_
      refine tp rfl (lv_move rfl) ?_
      refine t_guard rfl rfl ?_
      refine tp rfl (lv_move rfl) ?_
      refine tp rfl (lv_pick_f rfl rfl) ?_
      refine tp rfl (lv_move rfl) ?_
      refine t_guard rfl rfl ?_
      refine tp rfl (lv_move rfl) ?_
      refine t_guard rfl rfl ?_
      refine tp rfl (lv_move rfl) ?_
      refine t_guard rfl rfl ?_
      refine tc rfl (en_fn Try.call18 rfl) (hasK_ok (n := m) (ks := List.replicate m none) id) ?_
      rintro _ _ ⟨rfl, rfl⟩
      rw [show hasK (List.replicate m none) id = false from (emp_has m id)]
      refine tp rfl (lv_pick_f rfl rfl) ?_
      refine tp rfl (lv_move rfl) ?_
      refine t_guard rfl rfl ?_
      refine tp rfl (lv_move rfl) ?_
      refine t_guard rfl rfl ?_
      refine tc rfl (en_fn Try.call15 rfl) (hlen_ok (n := m) (ks := List.replicate m none) ) ?_
      rintro _ _ ⟨rfl, rfl⟩
      refine t_guard rfl rfl ?_
      refine tp rfl (lv_neq rfl rfl (bne_eq_false_iff_eq.2 (by rw [cnt_rep]; decide))) ?_
      refine tp rfl (lv_pick_f rfl rfl) ?_
      refine t_done ?_
      refine q_then_n (hK17 _ _ ?_)
      refine c_false rfl ?_
      refine c_skip ?_
      refine q_then_n (hK16 _ _ ?_)
      refine c_seq (fun K18 hK18 => ?_)
      refine c_region ?_
      refine tp rfl (lv_move rfl) ?_
      refine tp rfl (lv_move rfl) ?_
      refine tp rfl (lv_move rfl) ?_
      refine tc rfl (en_fn Try.call13 rfl) (hpush_ok (n := m) (ks := List.replicate m none) id key) ?_
      rintro _ _ ⟨rfl, rfl⟩
      rw [show pushE (List.replicate m none) id = 0 from (by rw [emp_push m id key, hk]; rfl)]
      refine tp rfl (lv_assign rfl) ?_
      refine t_done ?_
      refine q_then_n (hK18 _ _ ?_)
      refine c_seq (fun K19 hK19 => ?_)
      refine c_seq (fun K20 hK20 => ?_)
      refine c_region ?_
      refine tp rfl (lv_move rfl) ?_
      refine tp rfl (lv_not (c := false) rfl rfl) ?_
      refine t_done ?_
      refine q_then_n (hK20 _ _ ?_)
      refine c_false rfl ?_
      refine c_skip ?_
      refine q_then_n (hK19 _ _ ?_)
      refine c_seq (fun K21 hK21 => ?_)
      refine c_region ?_
      refine tp rfl (lv_move rfl) ?_
      refine tc rfl (en_fn Try.call14 rfl) (hpop_ok (n := m) (ks := pushK (List.replicate m none) id key) ) ?_
      rintro _ _ ⟨rfl, rfl⟩
      rw [show fstI (pushK (List.replicate m none) id key) = id from hek.1]
      rw [show fstV (pushK (List.replicate m none) id key) = key from hek.2.1]
      rw [show fstB (pushK (List.replicate m none) id key) = true from hek.2.2.1]
      refine tp rfl (lv_move rfl) ?_
      refine tp rfl (lv_extract rfl rfl) ?_
      refine tp rfl (lv_extract rfl rfl) ?_
      refine tp rfl (lv_extract rfl rfl) ?_
      refine tp rfl (lv_assign rfl) ?_
      refine tp rfl (lv_assign rfl) ?_
      refine tp rfl (lv_assign rfl) ?_
      refine t_done ?_
      refine q_then_n (hK21 _ _ ?_)
      refine c_seq (fun K22 hK22 => ?_)
      refine c_region ?_
      refine tp rfl (lv_move rfl) ?_
      refine tp rfl (lv_move rfl) ?_
      refine t_guard rfl rfl ?_
      refine tp rfl (lv_move rfl) ?_
      refine t_guard rfl rfl ?_
      refine tp rfl (lv_eql (r := true) rfl rfl (by decide)) ?_
      refine tp rfl (lv_pick_t rfl rfl) ?_
      refine tp rfl (lv_move rfl) ?_
      refine t_guard rfl rfl ?_
      refine tp rfl (lv_move rfl) ?_
      refine t_guard rfl rfl ?_
      refine tp rfl (lv_move rfl) ?_
      refine t_guard rfl rfl ?_
      refine tp rfl (lv_eql rfl rfl (beq_iff_eq.2 rfl)) ?_
      refine tp rfl (lv_pick_t rfl rfl) ?_
      refine tp rfl (lv_move rfl) ?_
      refine t_guard rfl rfl ?_
      refine tp rfl (lv_move rfl) ?_
      refine t_guard rfl rfl ?_
      refine tp rfl (lv_move rfl) ?_
      refine t_guard rfl rfl ?_
      refine tp rfl (lv_eql rfl rfl (beq_iff_eq.2 rfl)) ?_
      refine tp rfl (lv_pick_t rfl rfl) ?_
      refine tp rfl (lv_move rfl) ?_
      refine t_guard rfl rfl ?_
      refine tp rfl (lv_move rfl) ?_
      refine tp rfl (lv_pick_t rfl rfl) ?_
      refine tp rfl (lv_move rfl) ?_
      refine t_guard rfl rfl ?_
      refine tp rfl (lv_move rfl) ?_
      refine t_guard rfl rfl ?_
      refine tc rfl (en_fn Try.call15 rfl) (hlen_ok (n := m) (ks := popK (pushK (List.replicate m none) id key)) ) ?_
      rintro _ _ ⟨rfl, rfl⟩
      refine t_guard rfl rfl ?_
      refine tp rfl (lv_eql rfl rfl (beq_iff_eq.2 (by rw [hek.2.2.2]; rfl))) ?_
      refine tp rfl (lv_pick_t rfl rfl) ?_
      refine tp rfl (lv_assign rfl) ?_
      refine t_done ?_
      refine q_then_n (hK22 _ _ ?_)
      refine c_ret ?_
      refine t_drop ?_
      refine q_ret rfl rfl ?_
      exact ⟨rfl, rfl⟩
    · -- false
      refine c_skip ?_
      refine q_then_n (hK9 _ _ ?_)
      refine c_seq (fun K11 hK11 => ?_)
      refine c_region ?_
      rw [show decide (id < ((m : Nat) : Int)) = false from c3]
      have hk0 : ¬ (0 ≤ id ∧ id < ((m : Nat) : Int)) := fun hh => by first | omega | (have h9 := ‹decide (id < ((m : Nat) : Int)) = false›; have h8 := of_decide_eq_false h9; omega)
      have hk : known m id = false := by cases hq : known m id with | false => rfl | true => exact absurd (known_iff.1 hq) hk0
      refine tp rfl (lv_move rfl) ?_
      refine tp rfl (lv_move rfl) ?_
      refine tp rfl (lv_move rfl) ?_
      refine tc rfl (en_fn Try.call16 rfl) (hlow_ok (n := m) (ks := List.replicate m none) id key) ?_
      rintro _ _ ⟨rfl, rfl⟩
      rw [show lowE (List.replicate m none) id key = 1 from (by rw [(emp_low m id key).1, hk]; rfl)]
      rw [show lowK (List.replicate m none) id key = List.replicate m none from ((emp_low m id key).2)]
      refine tp rfl (lv_assign rfl) ?_
      refine t_done ?_
      refine q_then_n (hK11 _ _ ?_)
      refine c_seq (fun K12 hK12 => ?_)
      refine c_region ?_
      refine tp rfl (lv_move rfl) ?_
      refine tp rfl (lv_move rfl) ?_
      refine tc rfl (en_fn Try.call17 rfl) (hrem_ok (n := m) (ks := List.replicate m none) id) ?_
      rintro _ _ ⟨rfl, rfl⟩
      rw [show keyK (List.replicate m none) id = 0 from (emp_key m id)]
      rw [show remE (List.replicate m none) id = 1 from (by rw [(emp_rem m id).1, hk]; rfl)]
      rw [show remK (List.replicate m none) id = List.replicate m none from ((emp_rem m id).2)]
      refine tp rfl (lv_move rfl) ?_
      refine tp rfl (lv_extract rfl rfl) ?_
      refine tp rfl (lv_extract rfl rfl) ?_
      refine tp rfl (lv_assign rfl) ?_
      refine tp rfl (lv_assign rfl) ?_
      refine t_done ?_
      refine q_then_n (hK12 _ _ ?_)
      refine c_seq (fun K13 hK13 => ?_)
      refine c_region ?_
      refine tp rfl (lv_move rfl) ?_
      refine tc rfl (en_fn Try.call19 rfl) (hfst_ok (n := m) (ks := List.replicate m none) ) ?_
      rintro _ _ ⟨rfl, rfl⟩
      rw [show fstB (List.replicate m none) = false from ((emp_fst m).2.2.1)]
      refine tp rfl (lv_move rfl) ?_
      refine tp rfl (lv_extract rfl rfl) ?_
      refine tp rfl (lv_extract rfl rfl) ?_
      refine tp rfl (lv_extract rfl rfl) ?_
      refine tp rfl (lv_assign rfl) ?_
      refine tp rfl (lv_assign rfl) ?_
      refine tp rfl (lv_assign rfl) ?_
      refine t_done ?_
      refine q_then_n (hK13 _ _ ?_)
      refine c_seq (fun K14 hK14 => ?_)
      refine c_region ?_
      refine tp rfl (lv_move rfl) ?_
      refine tc rfl (en_fn Try.call14 rfl) (hpop_ok (n := m) (ks := List.replicate m none) ) ?_
      rintro _ _ ⟨rfl, rfl⟩
      rw [show fstB (List.replicate m none) = false from ((emp_fst m).2.2.1)]
      rw [show popK (List.replicate m none) = List.replicate m none from ((emp_fst m).2.2.2)]
      refine tp rfl (lv_move rfl) ?_
      refine tp rfl (lv_extract rfl rfl) ?_
      refine tp rfl (lv_extract rfl rfl) ?_
      refine tp rfl (lv_extract rfl rfl) ?_
      refine tp rfl (lv_assign rfl) ?_
      refine tp rfl (lv_assign rfl) ?_
      refine tp rfl (lv_assign rfl) ?_
      refine t_done ?_
      refine q_then_n (hK14 _ _ ?_)
      refine c_seq (fun K15 hK15 => ?_)
      refine c_region ?_
      refine tp rfl (lv_move rfl) ?_
      refine tp rfl (lv_move rfl) ?_
      refine tc rfl (en_fn Try.call25 rfl) (hkey_ok (n := m) (ks := List.replicate m none) id) ?_
      rintro _ _ ⟨rfl, rfl⟩
      rw [show keyK (List.replicate m none) id = 0 from (emp_key m id)]
      rw [show hasK (List.replicate m none) id = false from (emp_has m id)]
      refine tp rfl (lv_move rfl) ?_
      refine tp rfl (lv_extract rfl rfl) ?_
      refine tp rfl (lv_extract rfl rfl) ?_
      refine tp rfl (lv_assign rfl) ?_
      refine tp rfl (lv_assign rfl) ?_
      refine t_done ?_
      refine q_then_n (hK15 _ _ ?_)
      refine c_seq (fun K16 hK16 => ?_)
      refine c_seq (fun K17 hK17 => ?_)
      refine c_region ?_
      refine tp rfl (lv_move rfl) ?_
      refine tp rfl (lv_move rfl) ?_
      refine tp rfl (lv_neq (r := false) rfl rfl (by decide)) ?_
      refine tp rfl (lv_move rfl) ?_
      refine t_guard rfl rfl ?_
      refine tp rfl (lv_move rfl) ?_
      refine t_guard rfl rfl ?_
      refine tp rfl (lv_move rfl) ?_
      refine t_guard rfl rfl ?_
      refine tp rfl (lv_neq (r := false) rfl rfl (by decide)) ?_
      refine tp rfl (lv_pick_f rfl rfl) ?_
      refine tp rfl (lv_move rfl) ?_
      refine t_guard rfl rfl ?_
      refine tp rfl (lv_move rfl) ?_
      refine t_guard rfl rfl ?_
      refine tp rfl (lv_neq (r := false) rfl rfl (by decide)) ?_
      refine tp rfl (lv_pick_f rfl rfl) ?_
      refine tp rfl (lv_move rfl) ?_
      refine t_guard rfl rfl ?_
      refine tp rfl (lv_move rfl) ?_
      refine tp rfl (lv_pick_f rfl rfl) ?_
      refine tp rfl (lv_move rfl) ?_
      refine t_guard rfl rfl ?_
      refine tp rfl (lv_move rfl) ?_
      refine tp rfl (lv_pick_f rfl rfl) ?_
      refine tp rfl (lv_move rfl) ?_
      refine t_guard rfl rfl ?_
      refine tp rfl (lv_move rfl) ?_
      refine t_guard rfl rfl ?_
      refine tp rfl (lv_neq (r := false) rfl rfl (by decide)) ?_
      refine tp rfl (lv_pick_f rfl rfl) ?_
      refine tp rfl (lv_move rfl) ?_
      refine t_guard rfl rfl ?_
      refine tp rfl (lv_move rfl) ?_
      refine tp rfl (lv_pick_f rfl rfl) ?_
      refine tp rfl (lv_move rfl) ?_
      refine t_guard rfl rfl ?_
      refine tp rfl (lv_move rfl) ?_
      refine t_guard rfl rfl ?_
      refine tp rfl (lv_move rfl) ?_
      refine t_guard rfl rfl ?_
      refine tc rfl (en_fn Try.call18 rfl) (hasK_ok (n := m) (ks := List.replicate m none) id) ?_
      rintro _ _ ⟨rfl, rfl⟩
      rw [show hasK (List.replicate m none) id = false from (emp_has m id)]
      refine tp rfl (lv_pick_f rfl rfl) ?_
      refine tp rfl (lv_move rfl) ?_
      refine t_guard rfl rfl ?_
      refine tp rfl (lv_move rfl) ?_
      refine t_guard rfl rfl ?_
      refine tc rfl (en_fn Try.call15 rfl) (hlen_ok (n := m) (ks := List.replicate m none) ) ?_
      rintro _ _ ⟨rfl, rfl⟩
      refine t_guard rfl rfl ?_
      refine tp rfl (lv_neq rfl rfl (bne_eq_false_iff_eq.2 (by rw [cnt_rep]; decide))) ?_
      refine tp rfl (lv_pick_f rfl rfl) ?_
      refine t_done ?_
      refine q_then_n (hK17 _ _ ?_)
      refine c_false rfl ?_
      refine c_skip ?_
      refine q_then_n (hK16 _ _ ?_)
      refine c_seq (fun K18 hK18 => ?_)
      refine c_region ?_
      refine tp rfl (lv_move rfl) ?_
      refine tp rfl (lv_move rfl) ?_
      refine tp rfl (lv_move rfl) ?_
      refine tc rfl (en_fn Try.call13 rfl) (hpush_ok (n := m) (ks := List.replicate m none) id key) ?_
      rintro _ _ ⟨rfl, rfl⟩
      rw [show pushE (List.replicate m none) id = 1 from (by rw [emp_push m id key, hk]; rfl)]
      rw [show pushK (List.replicate m none) id key = List.replicate m none from (emp_pushN hk0 key)]
      refine tp rfl (lv_assign rfl) ?_
      refine t_done ?_
      refine q_then_n (hK18 _ _ ?_)
      refine c_seq (fun K19 hK19 => ?_)
      refine c_seq (fun K20 hK20 => ?_)
      refine c_region ?_
      refine tp rfl (lv_move rfl) ?_
      refine tp rfl (lv_not (c := true) rfl rfl) ?_
      refine t_done ?_
      refine q_then_n (hK20 _ _ ?_)
      refine c_true rfl ?_
      refine c_seq (fun K21 hK21 => ?_)
      refine c_region ?_
      refine tp rfl (lv_move rfl) ?_
      refine tp rfl (lv_move rfl) ?_
      refine t_guard rfl rfl ?_
      refine tp rfl (lv_move rfl) ?_
      refine t_guard rfl rfl ?_
      refine tp rfl (lv_eql (r := true) rfl rfl (by decide)) ?_
      refine tp rfl (lv_pick_t rfl rfl) ?_
      refine tp rfl (lv_move rfl) ?_
      refine t_guard rfl rfl ?_
      refine tp rfl (lv_move rfl) ?_
      refine t_guard rfl rfl ?_
      refine tc rfl (en_fn Try.call15 rfl) (hlen_ok (n := m) (ks := List.replicate m none) ) ?_
      rintro _ _ ⟨rfl, rfl⟩
      refine t_guard rfl rfl ?_
      refine tp rfl (lv_eql rfl rfl (beq_iff_eq.2 (by rw [cnt_rep]; rfl))) ?_
      refine tp rfl (lv_pick_t rfl rfl) ?_
      refine tp rfl (lv_assign rfl) ?_
      refine t_done ?_
      refine q_then_n (hK21 _ _ ?_)
      refine c_ret ?_
      refine q_then_r ?_
      refine t_drop ?_
      refine q_ret rfl rfl ?_
      exact ⟨rfl, rfl⟩
  · -- no
    refine tp rfl (lv_geq rfl rfl (decide_eq_false h2)) ?_
    refine tp rfl (lv_move rfl) ?_
    refine t_skip rfl rfl rfl ?_
    refine t_skip rfl rfl rfl ?_
    refine t_skip rfl rfl rfl ?_
    refine tp rfl (lv_pick_f rfl rfl) ?_
    refine tp rfl (lv_assign rfl) ?_
    refine t_done ?_
    refine q_then_n (hK7 _ _ ?_)
    refine c_seq (fun K8 hK8 => ?_)
    refine c_region ?_
    refine tp rfl (lv_assign rfl) ?_
    refine t_done ?_
    refine q_then_n (hK8 _ _ ?_)
    refine c_seq (fun K9 hK9 => ?_)
    refine c_seq (fun K10 hK10 => ?_)
    refine c_region ?_
    refine tp rfl (lv_move rfl) ?_
    refine t_done ?_
    refine q_then_n (hK10 _ _ ?_)
    refine c_false rfl ?_
    refine c_skip ?_
    refine q_then_n (hK9 _ _ ?_)
    refine c_seq (fun K11 hK11 => ?_)
    refine c_region ?_
    have hk0 : ¬ (0 ≤ id ∧ id < ((m : Nat) : Int)) := fun hh => by first | omega | (have h9 := ‹decide (id < ((m : Nat) : Int)) = false›; have h8 := of_decide_eq_false h9; omega)
    have hk : known m id = false := by cases hq : known m id with | false => rfl | true => exact absurd (known_iff.1 hq) hk0
    refine tp rfl (lv_move rfl) ?_
    refine tp rfl (lv_move rfl) ?_
    refine tp rfl (lv_move rfl) ?_
    refine tc rfl (en_fn Try.call16 rfl) (hlow_ok (n := m) (ks := List.replicate m none) id key) ?_
    rintro _ _ ⟨rfl, rfl⟩
    rw [show lowE (List.replicate m none) id key = 1 from (by rw [(emp_low m id key).1, hk]; rfl)]
    rw [show lowK (List.replicate m none) id key = List.replicate m none from ((emp_low m id key).2)]
    refine tp rfl (lv_assign rfl) ?_
    refine t_done ?_
    refine q_then_n (hK11 _ _ ?_)
    refine c_seq (fun K12 hK12 => ?_)
    refine c_region ?_
    refine tp rfl (lv_move rfl) ?_
    refine tp rfl (lv_move rfl) ?_
    refine tc rfl (en_fn Try.call17 rfl) (hrem_ok (n := m) (ks := List.replicate m none) id) ?_
    rintro _ _ ⟨rfl, rfl⟩
    rw [show keyK (List.replicate m none) id = 0 from (emp_key m id)]
    rw [show remE (List.replicate m none) id = 1 from (by rw [(emp_rem m id).1, hk]; rfl)]
    rw [show remK (List.replicate m none) id = List.replicate m none from ((emp_rem m id).2)]
    refine tp rfl (lv_move rfl) ?_
    refine tp rfl (lv_extract rfl rfl) ?_
    refine tp rfl (lv_extract rfl rfl) ?_
    refine tp rfl (lv_assign rfl) ?_
    refine tp rfl (lv_assign rfl) ?_
    refine t_done ?_
    refine q_then_n (hK12 _ _ ?_)
    refine c_seq (fun K13 hK13 => ?_)
    refine c_region ?_
    refine tp rfl (lv_move rfl) ?_
    refine tc rfl (en_fn Try.call19 rfl) (hfst_ok (n := m) (ks := List.replicate m none) ) ?_
    rintro _ _ ⟨rfl, rfl⟩
    rw [show fstB (List.replicate m none) = false from ((emp_fst m).2.2.1)]
    refine tp rfl (lv_move rfl) ?_
    refine tp rfl (lv_extract rfl rfl) ?_
    refine tp rfl (lv_extract rfl rfl) ?_
    refine tp rfl (lv_extract rfl rfl) ?_
    refine tp rfl (lv_assign rfl) ?_
    refine tp rfl (lv_assign rfl) ?_
    refine tp rfl (lv_assign rfl) ?_
    refine t_done ?_
    refine q_then_n (hK13 _ _ ?_)
    refine c_seq (fun K14 hK14 => ?_)
    refine c_region ?_
    refine tp rfl (lv_move rfl) ?_
    refine tc rfl (en_fn Try.call14 rfl) (hpop_ok (n := m) (ks := List.replicate m none) ) ?_
    rintro _ _ ⟨rfl, rfl⟩
    rw [show fstB (List.replicate m none) = false from ((emp_fst m).2.2.1)]
    rw [show popK (List.replicate m none) = List.replicate m none from ((emp_fst m).2.2.2)]
    refine tp rfl (lv_move rfl) ?_
    refine tp rfl (lv_extract rfl rfl) ?_
    refine tp rfl (lv_extract rfl rfl) ?_
    refine tp rfl (lv_extract rfl rfl) ?_
    refine tp rfl (lv_assign rfl) ?_
    refine tp rfl (lv_assign rfl) ?_
    refine tp rfl (lv_assign rfl) ?_
    refine t_done ?_
    refine q_then_n (hK14 _ _ ?_)
    refine c_seq (fun K15 hK15 => ?_)
    refine c_region ?_
    refine tp rfl (lv_move rfl) ?_
    refine tp rfl (lv_move rfl) ?_
    refine tc rfl (en_fn Try.call25 rfl) (hkey_ok (n := m) (ks := List.replicate m none) id) ?_
    rintro _ _ ⟨rfl, rfl⟩
    rw [show keyK (List.replicate m none) id = 0 from (emp_key m id)]
    rw [show hasK (List.replicate m none) id = false from (emp_has m id)]
    refine tp rfl (lv_move rfl) ?_
    refine tp rfl (lv_extract rfl rfl) ?_
    refine tp rfl (lv_extract rfl rfl) ?_
    refine tp rfl (lv_assign rfl) ?_
    refine tp rfl (lv_assign rfl) ?_
    refine t_done ?_
    refine q_then_n (hK15 _ _ ?_)
    refine c_seq (fun K16 hK16 => ?_)
    refine c_seq (fun K17 hK17 => ?_)
    refine c_region ?_
    refine tp rfl (lv_move rfl) ?_
    refine tp rfl (lv_move rfl) ?_
    refine tp rfl (lv_neq (r := false) rfl rfl (by decide)) ?_
    refine tp rfl (lv_move rfl) ?_
    refine t_guard rfl rfl ?_
    refine tp rfl (lv_move rfl) ?_
    refine t_guard rfl rfl ?_
    refine tp rfl (lv_move rfl) ?_
    refine t_guard rfl rfl ?_
    refine tp rfl (lv_neq (r := false) rfl rfl (by decide)) ?_
    refine tp rfl (lv_pick_f rfl rfl) ?_
    refine tp rfl (lv_move rfl) ?_
    refine t_guard rfl rfl ?_
    refine tp rfl (lv_move rfl) ?_
    refine t_guard rfl rfl ?_
    refine tp rfl (lv_neq (r := false) rfl rfl (by decide)) ?_
    refine tp rfl (lv_pick_f rfl rfl) ?_
    refine tp rfl (lv_move rfl) ?_
    refine t_guard rfl rfl ?_
    refine tp rfl (lv_move rfl) ?_
    refine tp rfl (lv_pick_f rfl rfl) ?_
    refine tp rfl (lv_move rfl) ?_
    refine t_guard rfl rfl ?_
    refine tp rfl (lv_move rfl) ?_
    refine tp rfl (lv_pick_f rfl rfl) ?_
    refine tp rfl (lv_move rfl) ?_
    refine t_guard rfl rfl ?_
    refine tp rfl (lv_move rfl) ?_
    refine t_guard rfl rfl ?_
    refine tp rfl (lv_neq (r := false) rfl rfl (by decide)) ?_
    refine tp rfl (lv_pick_f rfl rfl) ?_
    refine tp rfl (lv_move rfl) ?_
    refine t_guard rfl rfl ?_
    refine tp rfl (lv_move rfl) ?_
    refine tp rfl (lv_pick_f rfl rfl) ?_
    refine tp rfl (lv_move rfl) ?_
    refine t_guard rfl rfl ?_
    refine tp rfl (lv_move rfl) ?_
    refine t_guard rfl rfl ?_
    refine tp rfl (lv_move rfl) ?_
    refine t_guard rfl rfl ?_
    refine tc rfl (en_fn Try.call18 rfl) (hasK_ok (n := m) (ks := List.replicate m none) id) ?_
    rintro _ _ ⟨rfl, rfl⟩
    rw [show hasK (List.replicate m none) id = false from (emp_has m id)]
    refine tp rfl (lv_pick_f rfl rfl) ?_
    refine tp rfl (lv_move rfl) ?_
    refine t_guard rfl rfl ?_
    refine tp rfl (lv_move rfl) ?_
    refine t_guard rfl rfl ?_
    refine tc rfl (en_fn Try.call15 rfl) (hlen_ok (n := m) (ks := List.replicate m none) ) ?_
    rintro _ _ ⟨rfl, rfl⟩
    refine t_guard rfl rfl ?_
    refine tp rfl (lv_neq rfl rfl (bne_eq_false_iff_eq.2 (by rw [cnt_rep]; decide))) ?_
    refine tp rfl (lv_pick_f rfl rfl) ?_
    refine t_done ?_
    refine q_then_n (hK17 _ _ ?_)
    refine c_false rfl ?_
    refine c_skip ?_
    refine q_then_n (hK16 _ _ ?_)
    refine c_seq (fun K18 hK18 => ?_)
    refine c_region ?_
    refine tp rfl (lv_move rfl) ?_
    refine tp rfl (lv_move rfl) ?_
    refine tp rfl (lv_move rfl) ?_
    refine tc rfl (en_fn Try.call13 rfl) (hpush_ok (n := m) (ks := List.replicate m none) id key) ?_
    rintro _ _ ⟨rfl, rfl⟩
    rw [show pushE (List.replicate m none) id = 1 from (by rw [emp_push m id key, hk]; rfl)]
    rw [show pushK (List.replicate m none) id key = List.replicate m none from (emp_pushN hk0 key)]
    refine tp rfl (lv_assign rfl) ?_
    refine t_done ?_
    refine q_then_n (hK18 _ _ ?_)
    refine c_seq (fun K19 hK19 => ?_)
    refine c_seq (fun K20 hK20 => ?_)
    refine c_region ?_
    refine tp rfl (lv_move rfl) ?_
    refine tp rfl (lv_not (c := true) rfl rfl) ?_
    refine t_done ?_
    refine q_then_n (hK20 _ _ ?_)
    refine c_true rfl ?_
    refine c_seq (fun K21 hK21 => ?_)
    refine c_region ?_
    refine tp rfl (lv_move rfl) ?_
    refine tp rfl (lv_move rfl) ?_
    refine t_guard rfl rfl ?_
    refine tp rfl (lv_move rfl) ?_
    refine t_guard rfl rfl ?_
    refine tp rfl (lv_eql (r := true) rfl rfl (by decide)) ?_
    refine tp rfl (lv_pick_t rfl rfl) ?_
    refine tp rfl (lv_move rfl) ?_
    refine t_guard rfl rfl ?_
    refine tp rfl (lv_move rfl) ?_
    refine t_guard rfl rfl ?_
    refine tc rfl (en_fn Try.call15 rfl) (hlen_ok (n := m) (ks := List.replicate m none) ) ?_
    rintro _ _ ⟨rfl, rfl⟩
    refine t_guard rfl rfl ?_
    refine tp rfl (lv_eql rfl rfl (beq_iff_eq.2 (by rw [cnt_rep]; rfl))) ?_
    refine tp rfl (lv_pick_t rfl rfl) ?_
    refine tp rfl (lv_assign rfl) ?_
    refine t_done ?_
    refine q_then_n (hK21 _ _ ?_)
    refine c_ret ?_
    refine q_then_r ?_
    refine t_drop ?_
    refine q_ret rfl rfl ?_
    exact ⟨rfl, rfl⟩
end Go.Proofs.Ytchnphachgcjmaa
