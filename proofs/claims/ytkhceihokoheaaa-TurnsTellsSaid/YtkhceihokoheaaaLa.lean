/- The laws' own helper: shown. -/
import Derived.Test.YtkhceihokoheaaaTc
import Derived.Test.YtkhceihokoheaaaTlw
set_option maxRecDepth 100000
set_option linter.unusedVariables false
set_option linter.unusedSimpArgs false
namespace Go.Proofs.Ytkhceihokoheaaa
open Go Go.Proofs Sp
theorem shown_ok {R : List HP} :
    Ok Try.prog 10 [] R
      (fun v M => v = .bool true ∧ M = R) := by
  refine ok_of (N := 88) Try.func10 rfl rfl rfl (fun W => ?_)
  refine c_seq (fun K1 hK1 => ?_)
  refine c_region ?_
  refine tp rfl (lv_assign rfl) ?_
  refine t_done ?_
  refine q_then_n (hK1 _ _ ?_)
  refine c_seq (fun K2 hK2 => ?_)
  refine c_region ?_
  refine tc rfl (en_fn Try.call11 rfl) (tnew_ok 5) ?_
  rintro _ _ ⟨p1, rfl, rfl⟩
  rw [show qOf 5 = 5 from rfl]
  refine tp rfl (lv_assign rfl) ?_
  refine t_done ?_
  refine q_then_n (hK2 _ _ ?_)
  refine c_seq (fun K3 hK3 => ?_)
  refine c_seq (fun K4 hK4 => ?_)
  refine c_region ?_
  refine tp rfl (lv_move rfl) ?_
  refine tp rfl (lv_eqnil Try.underlying24 rfl rfl) ?_
  refine t_done ?_
  refine q_then_n (hK4 _ _ ?_)
  refine c_false rfl ?_
  refine c_skip ?_
  refine q_then_n (hK3 _ _ ?_)
  refine c_seq (fun K5 hK5 => ?_)
  refine c_region ?_
  refine tp rfl (lv_move rfl) ?_
  refine tc rfl (en_fn Try.call12 rfl) (tjoin_ok (q := 5) (ms := []) (a := 0) 7 1 (by decide)) ?_
  rintro _ _ ⟨rfl, rfl⟩
  rw [show joinM [] 7 1 = [⟨7, 1, 0⟩] from rfl]
  rw [show joinEr [] 7 1 = 0 from rfl]
  refine tp rfl (lv_assign rfl) ?_
  refine t_done ?_
  refine q_then_n (hK5 _ _ ?_)
  refine c_seq (fun K6 hK6 => ?_)
  refine c_region ?_
  refine tp rfl (lv_move rfl) ?_
  refine tc rfl (en_fn Try.call12 rfl) (tjoin_ok (q := 5) (ms := [⟨7, 1, 0⟩]) (a := 0) 9 1 (by decide)) ?_
  rintro _ _ ⟨rfl, rfl⟩
  rw [show joinM [⟨7, 1, 0⟩] 9 1 = [⟨7, 1, 0⟩, ⟨9, 1, 0⟩] from rfl]
  rw [show joinEr [⟨7, 1, 0⟩] 9 1 = 0 from rfl]
  refine tp rfl (lv_assign rfl) ?_
  refine t_done ?_
  refine q_then_n (hK6 _ _ ?_)
  refine c_seq (fun K7 hK7 => ?_)
  refine c_region ?_
  refine tp rfl (lv_move rfl) ?_
  refine tc rfl (en_fn Try.call12 rfl) (tjoin_ok (q := 5) (ms := [⟨7, 1, 0⟩, ⟨9, 1, 0⟩]) (a := 0) 7 1 (by decide)) ?_
  rintro _ _ ⟨rfl, rfl⟩
  rw [show joinM [⟨7, 1, 0⟩, ⟨9, 1, 0⟩] 7 1 = [⟨7, 1, 0⟩, ⟨9, 1, 0⟩] from rfl]
  rw [show joinEr [⟨7, 1, 0⟩, ⟨9, 1, 0⟩] 7 1 = 8 from rfl]
  refine tp rfl (lv_assign rfl) ?_
  refine t_done ?_
  refine q_then_n (hK7 _ _ ?_)
  refine c_seq (fun K8 hK8 => ?_)
  refine c_region ?_
  refine tp rfl (lv_move rfl) ?_
  refine tc rfl (en_fn Try.call12 rfl) (tjoin_ok (q := 5) (ms := [⟨7, 1, 0⟩, ⟨9, 1, 0⟩]) (a := 0) 3 0 (by decide)) ?_
  rintro _ _ ⟨rfl, rfl⟩
  rw [show joinM [⟨7, 1, 0⟩, ⟨9, 1, 0⟩] 3 0 = [⟨7, 1, 0⟩, ⟨9, 1, 0⟩] from rfl]
  rw [show joinEr [⟨7, 1, 0⟩, ⟨9, 1, 0⟩] 3 0 = 1 from rfl]
  refine tp rfl (lv_assign rfl) ?_
  refine t_done ?_
  refine q_then_n (hK8 _ _ ?_)
  refine c_seq (fun K9 hK9 => ?_)
  refine c_region ?_
  refine tp rfl (lv_build (cs := [(.int .i64 7), (.int .i64 10)]) (pl := [(0, 1), (1, 1)]) Try.underlying31 Try.zeroValue31 (fun _ => by simp) rfl rfl) ?_
  refine tp rfl (lv_build (cs := [(.int .i64 9), (.int .i64 10)]) (pl := [(0, 1), (1, 1)]) Try.underlying31 Try.zeroValue31 (fun _ => by simp) rfl rfl) ?_
  refine tm rfl (mv_buildSlice (cs := [(.int .i64 7), (.int .i64 10), (.int .i64 9), (.int .i64 10)]) Try.underlying29 Try.sizeOf31 Try.zeroValue31 (by decide) rfl rfl rfl rfl) ?_
  rintro _ _ ⟨bs2, cp3, hok4, hle5, rfl, rfl⟩
  refine tp rfl (lv_assign rfl) ?_
  refine t_done ?_
  refine q_then_n (hK9 _ _ ?_)
  refine c_seq (fun K10 hK10 => ?_)
  refine c_region ?_
  refine tp rfl (lv_move rfl) ?_
  refine tp rfl (lv_move rfl) ?_
  refine t_f1 ?_
  refine tc rfl (en_fn Try.call13 rfl) (take_okn (q := 5) (ms := [⟨7, 1, 0⟩, ⟨9, 1, 0⟩]) (a := 0) [(7, 10), (9, 10)] rfl (rd_sl (.head _)) hok4 (by decide) (by decide) rfl) ?_
  rintro _ _ ⟨tm1, ta1, ht1, rfl, rfl⟩
  refine tp rfl (lv_move rfl) ?_
  refine tp rfl (lv_extract rfl rfl) ?_
  refine tp rfl (lv_extract rfl rfl) ?_
  refine tp rfl (lv_assign rfl) ?_
  refine tp rfl (lv_assign rfl) ?_
  refine t_done ?_
  refine q_then_n (hK10 _ _ ?_)
  refine c_seq (fun K11 hK11 => ?_)
  refine c_region ?_
  obtain ⟨htm, hta⟩ := Prod.mk.inj (ht1.det (t' := ([⟨7, 1, 5⟩, ⟨9, 1, 10⟩], 1)) ⟨6, rfl⟩)
  subst htm; subst hta
  rw [show TurnsO p1 5 (setC [⟨7, 1, 5⟩, ⟨9, 1, 10⟩] 1 ((List.getD [⟨7, 1, 5⟩, ⟨9, 1, 10⟩] 1 M3.z).c - (costsL [⟨7, 1, 0⟩, ⟨9, 1, 0⟩] [(7, 10), (9, 10)]).getD 1 0)) 1 = TurnsO p1 5 [⟨7, 1, 5⟩, ⟨9, 1, 0⟩] 1 from rfl]
  refine tp rfl (lv_move rfl) ?_
  refine tp rfl (lv_move rfl) ?_
  refine tc rfl (en_fn Try.call13 rfl) (take_okn (q := 5) (ms := [⟨7, 1, 5⟩, ⟨9, 1, 0⟩]) (a := 1) [(7, 10), (9, 10)] rfl (rd_sl (.head _)) hok4 (by decide) (by decide) rfl) ?_
  rintro _ _ ⟨tm2, ta2, ht2, rfl, rfl⟩
  refine tp rfl (lv_move rfl) ?_
  refine tp rfl (lv_extract rfl rfl) ?_
  refine tp rfl (lv_extract rfl rfl) ?_
  refine tp rfl (lv_assign rfl) ?_
  refine tp rfl (lv_assign rfl) ?_
  refine t_done ?_
  refine q_then_n (hK11 _ _ ?_)
  refine c_seq (fun K12 hK12 => ?_)
  refine c_region ?_
  obtain ⟨htm, hta⟩ := Prod.mk.inj (ht2.det (t' := ([⟨7, 1, 10⟩, ⟨9, 1, 0⟩], 0)) ⟨6, rfl⟩)
  subst htm; subst hta
  rw [show TurnsO p1 5 (setC [⟨7, 1, 10⟩, ⟨9, 1, 0⟩] 0 ((List.getD [⟨7, 1, 10⟩, ⟨9, 1, 0⟩] 0 M3.z).c - (costsL [⟨7, 1, 5⟩, ⟨9, 1, 0⟩] [(7, 10), (9, 10)]).getD 0 0)) 0 = TurnsO p1 5 [⟨7, 1, 0⟩, ⟨9, 1, 0⟩] 0 from rfl]
  refine tp rfl (lv_move rfl) ?_
  refine tc rfl (en_fn Try.call13 rfl) (take_non (q := 5) (ms := [⟨7, 1, 0⟩, ⟨9, 1, 0⟩]) (a := 0) [] rfl rd_nil slok_none (by decide) (by decide) rfl) ?_
  rintro _ _ ⟨rfl, rfl⟩
  refine tp rfl (lv_move rfl) ?_
  refine tp rfl (lv_extract rfl rfl) ?_
  refine tp rfl (lv_extract rfl rfl) ?_
  refine tp rfl (lv_assign rfl) ?_
  refine tp rfl (lv_assign rfl) ?_
  refine t_done ?_
  refine q_then_n (hK12 _ _ ?_)
  refine c_seq (fun K13 hK13 => ?_)
  refine c_region ?_
  refine tp rfl (lv_move rfl) ?_
  refine tc rfl (en_fn Try.call14 rfl) (tleave_ok (q := 5) (ms := [⟨7, 1, 0⟩, ⟨9, 1, 0⟩]) (a := 0) 5 (by decide)) ?_
  rintro _ _ ⟨rfl, rfl⟩
  rw [show leaveM [⟨7, 1, 0⟩, ⟨9, 1, 0⟩] 5 = [⟨7, 1, 0⟩, ⟨9, 1, 0⟩] from rfl]
  rw [show leaveA [⟨7, 1, 0⟩, ⟨9, 1, 0⟩] 0 5 = 0 from rfl]
  rw [show leaveEr [⟨7, 1, 0⟩, ⟨9, 1, 0⟩] 5 = 6 from rfl]
  refine tp rfl (lv_assign rfl) ?_
  refine t_done ?_
  refine q_then_n (hK13 _ _ ?_)
  refine c_seq (fun K14 hK14 => ?_)
  refine c_region ?_
  refine tp rfl (lv_move rfl) ?_
  refine tp rfl (lv_eql (r := true) rfl rfl (by decide)) ?_
  refine tp rfl (lv_move rfl) ?_
  refine t_guard rfl rfl ?_
  refine tp rfl (lv_move rfl) ?_
  refine t_guard rfl rfl ?_
  refine tp rfl (lv_eql (r := true) rfl rfl (by decide)) ?_
  refine tp rfl (lv_pick_t rfl rfl) ?_
  refine tp rfl (lv_move rfl) ?_
  refine t_guard rfl rfl ?_
  refine tp rfl (lv_move rfl) ?_
  refine t_guard rfl rfl ?_
  refine tp rfl (lv_eql (r := true) rfl rfl (by decide)) ?_
  refine tp rfl (lv_pick_t rfl rfl) ?_
  refine tp rfl (lv_move rfl) ?_
  refine t_guard rfl rfl ?_
  refine tp rfl (lv_move rfl) ?_
  refine t_guard rfl rfl ?_
  refine tp rfl (lv_eql (r := true) rfl rfl (by decide)) ?_
  refine tp rfl (lv_pick_t rfl rfl) ?_
  refine tp rfl (lv_move rfl) ?_
  refine t_guard rfl rfl ?_
  refine tp rfl (lv_move rfl) ?_
  refine t_guard rfl rfl ?_
  refine tp rfl (lv_eql (r := true) rfl rfl (by decide)) ?_
  refine tp rfl (lv_pick_t rfl rfl) ?_
  refine tp rfl (lv_move rfl) ?_
  refine t_guard rfl rfl ?_
  refine tp rfl (lv_move rfl) ?_
  refine tp rfl (lv_pick_t rfl rfl) ?_
  refine tp rfl (lv_move rfl) ?_
  refine t_guard rfl rfl ?_
  refine tp rfl (lv_move rfl) ?_
  refine t_guard rfl rfl ?_
  refine tp rfl (lv_eql (r := true) rfl rfl (by decide)) ?_
  refine tp rfl (lv_pick_t rfl rfl) ?_
  refine tp rfl (lv_move rfl) ?_
  refine t_guard rfl rfl ?_
  refine tp rfl (lv_move rfl) ?_
  refine tp rfl (lv_pick_t rfl rfl) ?_
  refine tp rfl (lv_move rfl) ?_
  refine t_guard rfl rfl ?_
  refine tp rfl (lv_move rfl) ?_
  refine t_guard rfl rfl ?_
  refine tp rfl (lv_not (c := true) rfl rfl) ?_
  refine tp rfl (lv_pick_t rfl rfl) ?_
  refine tp rfl (lv_move rfl) ?_
  refine t_guard rfl rfl ?_
  refine tp rfl (lv_move rfl) ?_
  refine t_guard rfl rfl ?_
  refine tp rfl (lv_eql (r := true) rfl rfl (by decide)) ?_
  refine tp rfl (lv_pick_t rfl rfl) ?_
  refine tp rfl (lv_move rfl) ?_
  refine t_guard rfl rfl ?_
  refine tp rfl (lv_move rfl) ?_
  refine t_guard rfl rfl ?_
  refine tc rfl (en_fn Try.call23 rfl) (tlen_ok (q := 5) (ms := [⟨7, 1, 0⟩, ⟨9, 1, 0⟩]) (a := 0) (by decide)) ?_
  rintro _ _ ⟨rfl, rfl⟩
  refine t_guard rfl rfl ?_
  refine tp rfl (lv_eql rfl rfl (beq_iff_eq.2 rfl)) ?_
  refine tp rfl (lv_pick_t rfl rfl) ?_
  refine tp rfl (lv_assign rfl) ?_
  refine t_done ?_
  refine q_then_n (hK14 _ _ ?_)
  refine c_ret ?_
  refine t_drop ?_
  refine t_drop ?_
  refine q_ret rfl rfl ?_
  exact ⟨rfl, rfl⟩
end Go.Proofs.Ytkhceihokoheaaa
