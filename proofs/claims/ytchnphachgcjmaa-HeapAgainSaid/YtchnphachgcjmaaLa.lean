/- What is shown in any case. -/
import Derived.Test.YtchnphachgcjmaaHc
import Derived.Test.YtchnphachgcjmaaHpl2
import Derived.Test.YtchnphachgcjmaaLawR
set_option maxRecDepth 100000
set_option linter.unusedVariables false
set_option linter.unusedSimpArgs false
namespace Go.Proofs.Ytchnphachgcjmaa
open Go Go.Proofs Sp
def S0 : Ks := [none, none, none, none]
def S1 : Ks := [none, none, none, some 5]
def S2 : Ks := [none, some 5, none, some 5]
def S3 : Ks := [none, some 5, some 9, some 5]
def S4 : Ks := [none, some 5, some 6, some 5]
def S5 : Ks := [none, none, some 6, some 5]
def S6 : Ks := [none, none, some 6, none]

set_option maxHeartbeats 4000000 in
theorem shown_ok {R : List HP} :
    Ok Try.prog 11 [] R
      (fun v M => v = .bool true ∧ M = R) := by
 refine ok_of (N := 146) Try.func11 rfl rfl rfl (fun W => ?_)
 refine c_seq (fun K1 hK1 => ?_)
 refine c_region ?_
 refine tp rfl (lv_assign rfl) ?_
 refine t_done ?_
 refine q_then_n (hK1 _ _ ?_)
 refine c_seq (fun K2 hK2 => ?_)
 refine c_region ?_
 refine tc rfl (en_fn Try.call12 rfl) (hnew_ok 4) ?_
 rintro _ _ ⟨p1, rfl, rfl⟩
 rw [show hclamp 4 = 4 from rfl]
 rw [show List.replicate (4) none = S0 from rfl]
 refine tp rfl (lv_assign rfl) ?_
 refine t_done ?_
 refine q_then_n (hK2 _ _ ?_)
 refine c_seq (fun K3 hK3 => ?_)
 refine c_seq (fun K4 hK4 => ?_)
 refine c_region ?_
 refine tp rfl (lv_move rfl) ?_
 refine tp rfl (lv_eqnil Try.underlying25 rfl rfl) ?_
 refine t_done ?_
 refine q_then_n (hK4 _ _ ?_)
 refine c_false rfl ?_
 refine c_skip ?_
 refine q_then_n (hK3 _ _ ?_)
 refine c_seq (fun K5 hK5 => ?_)
 refine c_region ?_
 refine tp rfl (lv_move rfl) ?_
 refine tc rfl (en_fn Try.call13 rfl) (hpush_ok (n := 4) (ks := S0) 3 5) ?_
 rintro _ _ ⟨rfl, rfl⟩
 rw [show pushE S0 3 = 0 from rfl]
 rw [show pushK S0 3 5 = S1 from rfl]
 refine tp rfl (lv_assign rfl) ?_
 refine t_done ?_
 refine q_then_n (hK5 _ _ ?_)
 refine c_seq (fun K6 hK6 => ?_)
 refine c_region ?_
 refine tp rfl (lv_move rfl) ?_
 refine tc rfl (en_fn Try.call13 rfl) (hpush_ok (n := 4) (ks := S1) 1 5) ?_
 rintro _ _ ⟨rfl, rfl⟩
 rw [show pushE S1 1 = 0 from rfl]
 rw [show pushK S1 1 5 = S2 from rfl]
 refine tp rfl (lv_assign rfl) ?_
 refine t_done ?_
 refine q_then_n (hK6 _ _ ?_)
 refine c_seq (fun K7 hK7 => ?_)
 refine c_region ?_
 refine tp rfl (lv_move rfl) ?_
 refine tc rfl (en_fn Try.call13 rfl) (hpush_ok (n := 4) (ks := S2) 2 9) ?_
 rintro _ _ ⟨rfl, rfl⟩
 rw [show pushE S2 2 = 0 from rfl]
 rw [show pushK S2 2 9 = S3 from rfl]
 refine tp rfl (lv_assign rfl) ?_
 refine t_done ?_
 refine q_then_n (hK7 _ _ ?_)
 refine c_seq (fun K8 hK8 => ?_)
 refine c_region ?_
 refine tp rfl (lv_move rfl) ?_
 refine tc rfl (en_fn Try.call13 rfl) (hpush_ok (n := 4) (ks := S3) 1 0) ?_
 rintro _ _ ⟨rfl, rfl⟩
 rw [show pushE S3 1 = 8 from rfl]
 rw [show pushK S3 1 0 = S3 from rfl]
 refine tp rfl (lv_assign rfl) ?_
 refine t_done ?_
 refine q_then_n (hK8 _ _ ?_)
 refine c_seq (fun K9 hK9 => ?_)
 refine c_region ?_
 refine tp rfl (lv_move rfl) ?_
 refine tc rfl (en_fn Try.call16 rfl) (hlow_ok (n := 4) (ks := S3) 2 10) ?_
 rintro _ _ ⟨rfl, rfl⟩
 rw [show lowE S3 2 10 = 3 from rfl]
 rw [show lowK S3 2 10 = S3 from rfl]
 refine tp rfl (lv_assign rfl) ?_
 refine t_done ?_
 refine q_then_n (hK9 _ _ ?_)
 refine c_seq (fun K10 hK10 => ?_)
 refine c_region ?_
 refine tp rfl (lv_move rfl) ?_
 refine tc rfl (en_fn Try.call16 rfl) (hlow_ok (n := 4) (ks := S3) 2 6) ?_
 rintro _ _ ⟨rfl, rfl⟩
 rw [show lowE S3 2 6 = 0 from rfl]
 rw [show lowK S3 2 6 = S4 from rfl]
 refine tp rfl (lv_assign rfl) ?_
 refine t_done ?_
 refine q_then_n (hK10 _ _ ?_)
 refine c_seq (fun K11 hK11 => ?_)
 refine c_region ?_
 refine tp rfl (lv_move rfl) ?_
 refine tc rfl (en_fn Try.call13 rfl) (hpush_ok (n := 4) (ks := S4) 4 0) ?_
 rintro _ _ ⟨rfl, rfl⟩
 rw [show pushE S4 4 = 1 from rfl]
 rw [show pushK S4 4 0 = S4 from rfl]
 refine tp rfl (lv_assign rfl) ?_
 refine t_done ?_
 refine q_then_n (hK11 _ _ ?_)
 refine c_seq (fun K12 hK12 => ?_)
 refine c_region ?_
 refine tp rfl (lv_move rfl) ?_
 refine tc rfl (en_fn Try.call14 rfl) (hpop_ok (n := 4) (ks := S4) ) ?_
 rintro _ _ ⟨rfl, rfl⟩
 rw [show fstI S4 = 1 from rfl]
 rw [show fstV S4 = 5 from rfl]
 rw [show fstB S4 = true from rfl]
 rw [show popK S4 = S5 from rfl]
 refine tp rfl (lv_move rfl) ?_
 refine tp rfl (lv_extract rfl rfl) ?_
 refine tp rfl (lv_extract rfl rfl) ?_
 refine tp rfl (lv_extract rfl rfl) ?_
 refine tp rfl (lv_assign rfl) ?_
 refine tp rfl (lv_assign rfl) ?_
 refine tp rfl (lv_assign rfl) ?_
 refine t_done ?_
 refine q_then_n (hK12 _ _ ?_)
 refine c_seq (fun K13 hK13 => ?_)
 refine c_region ?_
 refine tp rfl (lv_move rfl) ?_
 refine tc rfl (en_fn Try.call19 rfl) (hfst_ok (n := 4) (ks := S5) ) ?_
 rintro _ _ ⟨rfl, rfl⟩
 rw [show fstI S5 = 3 from rfl]
 rw [show fstV S5 = 5 from rfl]
 rw [show fstB S5 = true from rfl]
 refine tp rfl (lv_move rfl) ?_
 refine tp rfl (lv_extract rfl rfl) ?_
 refine tp rfl (lv_extract rfl rfl) ?_
 refine tp rfl (lv_extract rfl rfl) ?_
 refine tp rfl (lv_assign rfl) ?_
 refine tp rfl (lv_assign rfl) ?_
 refine tp rfl (lv_assign rfl) ?_
 refine t_done ?_
 refine q_then_n (hK13 _ _ ?_)
 refine c_seq (fun K14 hK14 => ?_)
 refine c_region ?_
 refine tp rfl (lv_move rfl) ?_
 refine tc rfl (en_fn Try.call17 rfl) (hrem_ok (n := 4) (ks := S5) 3) ?_
 rintro _ _ ⟨rfl, rfl⟩
 rw [show keyK S5 3 = 5 from rfl]
 rw [show remE S5 3 = 0 from rfl]
 rw [show remK S5 3 = S6 from rfl]
 refine tp rfl (lv_move rfl) ?_
 refine tp rfl (lv_extract rfl rfl) ?_
 refine tp rfl (lv_extract rfl rfl) ?_
 refine tp rfl (lv_assign rfl) ?_
 refine tp rfl (lv_assign rfl) ?_
 refine t_done ?_
 refine q_then_n (hK14 _ _ ?_)
 refine c_seq (fun K15 hK15 => ?_)
 refine c_region ?_
 refine tp rfl (lv_move rfl) ?_
 refine tc rfl (en_fn Try.call17 rfl) (hrem_ok (n := 4) (ks := S6) 3) ?_
 rintro _ _ ⟨rfl, rfl⟩
 rw [show keyK S6 3 = 0 from rfl]
 rw [show remE S6 3 = 6 from rfl]
 rw [show remK S6 3 = S6 from rfl]
 refine tp rfl (lv_move rfl) ?_
 refine tp rfl (lv_extract rfl rfl) ?_
 refine tp rfl (lv_extract rfl rfl) ?_
 refine tp rfl (lv_assign rfl) ?_
 refine tp rfl (lv_assign rfl) ?_
 refine t_done ?_
 refine q_then_n (hK15 _ _ ?_)
 refine c_seq (fun K16 hK16 => ?_)
 refine c_region ?_
 refine tp rfl (lv_move rfl) ?_
 refine tc rfl (en_fn Try.call14 rfl) (hpop_ok (n := 4) (ks := S6) ) ?_
 rintro _ _ ⟨rfl, rfl⟩
 rw [show fstI S6 = 2 from rfl]
 rw [show fstV S6 = 6 from rfl]
 rw [show fstB S6 = true from rfl]
 rw [show popK S6 = S0 from rfl]
 refine tp rfl (lv_move rfl) ?_
 refine tp rfl (lv_extract rfl rfl) ?_
 refine tp rfl (lv_extract rfl rfl) ?_
 refine tp rfl (lv_extract rfl rfl) ?_
 refine tp rfl (lv_assign rfl) ?_
 refine tp rfl (lv_assign rfl) ?_
 refine tp rfl (lv_assign rfl) ?_
 refine t_done ?_
 refine q_then_n (hK16 _ _ ?_)
 refine c_seq (fun K17 hK17 => ?_)
 refine c_region ?_
 refine tp rfl (lv_move rfl) ?_
 refine tc rfl (en_fn Try.call14 rfl) (hpop_ok (n := 4) (ks := S0) ) ?_
 rintro _ _ ⟨rfl, rfl⟩
 rw [show fstI S0 = 0 from rfl]
 rw [show fstV S0 = 0 from rfl]
 rw [show fstB S0 = false from rfl]
 rw [show popK S0 = S0 from rfl]
 refine tp rfl (lv_move rfl) ?_
 refine tp rfl (lv_extract rfl rfl) ?_
 refine tp rfl (lv_extract rfl rfl) ?_
 refine tp rfl (lv_extract rfl rfl) ?_
 refine tp rfl (lv_assign rfl) ?_
 refine tp rfl (lv_assign rfl) ?_
 refine tp rfl (lv_assign rfl) ?_
 refine t_done ?_
 refine q_then_n (hK17 _ _ ?_)
 refine c_seq (fun K18 hK18 => ?_)
 refine c_region ?_
 refine tp rfl (lv_move rfl) ?_
 refine tp rfl (lv_eql (r := true) rfl rfl (by decide)) ?_
 refine tp rfl (lv_move rfl) ?_
 refine t_guard rfl rfl ?_
 refine tp rfl (lv_move rfl) ?_
 refine t_guard rfl rfl ?_
 refine tp rfl (lv_eql (r := true) rfl rfl (by decide)) ?_
 refine tp rfl (lv_pick_t rfl rfl) ?_
 refine tp rfl (lv_move rfl) ?_
 refine t_guard rfl rfl ?_
 refine tp rfl (lv_move rfl) ?_
 refine t_guard rfl rfl ?_
 refine tp rfl (lv_eql (r := true) rfl rfl (by decide)) ?_
 refine tp rfl (lv_pick_t rfl rfl) ?_
 refine tp rfl (lv_move rfl) ?_
 refine t_guard rfl rfl ?_
 refine tp rfl (lv_move rfl) ?_
 refine t_guard rfl rfl ?_
 refine tp rfl (lv_eql (r := true) rfl rfl (by decide)) ?_
 refine tp rfl (lv_pick_t rfl rfl) ?_
 refine tp rfl (lv_move rfl) ?_
 refine t_guard rfl rfl ?_
 refine tp rfl (lv_move rfl) ?_
 refine t_guard rfl rfl ?_
 refine tp rfl (lv_eql (r := true) rfl rfl (by decide)) ?_
 refine tp rfl (lv_pick_t rfl rfl) ?_
 refine tp rfl (lv_move rfl) ?_
 refine t_guard rfl rfl ?_
 refine tp rfl (lv_move rfl) ?_
 refine t_guard rfl rfl ?_
 refine tp rfl (lv_eql (r := true) rfl rfl (by decide)) ?_
 refine tp rfl (lv_pick_t rfl rfl) ?_
 refine tp rfl (lv_move rfl) ?_
 refine t_guard rfl rfl ?_
 refine tp rfl (lv_move rfl) ?_
 refine t_guard rfl rfl ?_
 refine tp rfl (lv_eql (r := true) rfl rfl (by decide)) ?_
 refine tp rfl (lv_pick_t rfl rfl) ?_
 refine tp rfl (lv_move rfl) ?_
 refine t_guard rfl rfl ?_
 refine tp rfl (lv_move rfl) ?_
 refine t_guard rfl rfl ?_
 refine tp rfl (lv_eql (r := true) rfl rfl (by decide)) ?_
 refine tp rfl (lv_pick_t rfl rfl) ?_
 refine tp rfl (lv_move rfl) ?_
 refine t_guard rfl rfl ?_
 refine tp rfl (lv_move rfl) ?_
 refine t_guard rfl rfl ?_
 refine tp rfl (lv_eql (r := true) rfl rfl (by decide)) ?_
 refine tp rfl (lv_pick_t rfl rfl) ?_
 refine tp rfl (lv_move rfl) ?_
 refine t_guard rfl rfl ?_
 refine tp rfl (lv_move rfl) ?_
 refine tp rfl (lv_pick_t rfl rfl) ?_
 refine tp rfl (lv_move rfl) ?_
 refine t_guard rfl rfl ?_
 refine tp rfl (lv_move rfl) ?_
 refine t_guard rfl rfl ?_
 refine tp rfl (lv_eql (r := true) rfl rfl (by decide)) ?_
 refine tp rfl (lv_pick_t rfl rfl) ?_
 refine tp rfl (lv_move rfl) ?_
 refine t_guard rfl rfl ?_
 refine tp rfl (lv_move rfl) ?_
 refine t_guard rfl rfl ?_
 refine tp rfl (lv_eql (r := true) rfl rfl (by decide)) ?_
 refine tp rfl (lv_pick_t rfl rfl) ?_
 refine tp rfl (lv_move rfl) ?_
 refine t_guard rfl rfl ?_
 refine tp rfl (lv_move rfl) ?_
 refine t_guard rfl rfl ?_
 refine tp rfl (lv_eql (r := true) rfl rfl (by decide)) ?_
 refine tp rfl (lv_pick_t rfl rfl) ?_
 refine tp rfl (lv_move rfl) ?_
 refine t_guard rfl rfl ?_
 refine tp rfl (lv_move rfl) ?_
 refine t_guard rfl rfl ?_
 refine tp rfl (lv_eql (r := true) rfl rfl (by decide)) ?_
 refine tp rfl (lv_pick_t rfl rfl) ?_
 refine tp rfl (lv_move rfl) ?_
 refine t_guard rfl rfl ?_
 refine tp rfl (lv_move rfl) ?_
 refine t_guard rfl rfl ?_
 refine tp rfl (lv_eql (r := true) rfl rfl (by decide)) ?_
 refine tp rfl (lv_pick_t rfl rfl) ?_
 refine tp rfl (lv_move rfl) ?_
 refine t_guard rfl rfl ?_
 refine tp rfl (lv_move rfl) ?_
 refine t_guard rfl rfl ?_
 refine tp rfl (lv_eql (r := true) rfl rfl (by decide)) ?_
 refine tp rfl (lv_pick_t rfl rfl) ?_
 refine tp rfl (lv_move rfl) ?_
 refine t_guard rfl rfl ?_
 refine tp rfl (lv_move rfl) ?_
 refine t_guard rfl rfl ?_
 refine tp rfl (lv_not (c := true) rfl rfl) ?_
 refine tp rfl (lv_pick_t rfl rfl) ?_
 refine tp rfl (lv_move rfl) ?_
 refine t_guard rfl rfl ?_
 refine tp rfl (lv_move rfl) ?_
 refine t_guard rfl rfl ?_
 refine tc rfl (en_fn Try.call15 rfl) (hlen_ok (n := 4) (ks := S0) ) ?_
 rintro _ _ ⟨rfl, rfl⟩
 refine t_guard rfl rfl ?_
 refine tp rfl (lv_eql rfl rfl (beq_iff_eq.2 rfl)) ?_
 refine tp rfl (lv_pick_t rfl rfl) ?_
 refine tp rfl (lv_assign rfl) ?_
 refine t_done ?_
 refine q_then_n (hK18 _ _ ?_)
 refine c_ret ?_
 refine t_drop ?_
 refine q_ret rfl rfl ?_
 exact ⟨rfl, rfl⟩
end Go.Proofs.Ytchnphachgcjmaa
