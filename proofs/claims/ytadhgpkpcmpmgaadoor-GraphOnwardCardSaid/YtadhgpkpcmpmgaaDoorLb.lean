/- GraphOnward: the law's walk. -/
import Derived.Test.YtadhgpkpcmpmgaaDoorLa
set_option maxRecDepth 100000
set_option linter.unusedVariables false
set_option linter.unusedSimpArgs false
namespace Go.Proofs.YtadhgpkpcmpmgaaDoor
open Go Go.Proofs Sp
theorem onward_ok {R : List HP} {bl : Option Addr} {cl : Nat} (n : Int) (es : List (Int × Int)) (hl : Rd R bl (pairs es)) (okl : SlOk bl es.length) (ll : es.length ≤ 9223372036854775807) (hT : Tab R) (ma mb a b c : Int) :
    Ok Tryd.prog 4 [(.int .i64 n), (.slice bl es.length cl), (.agg #[(.int .i64 ma), (.int .i64 mb)]), (.int .i64 a), (.int .i64 b), (.int .i64 c)] R
      (fun v M => v = .bool true ∧ M = R) := by
  refine ok_of (N := 87) Tryd.func4 rfl rfl rfl (fun W => ?_)
  refine c_seq (fun K1 hK1 => ?_)
  refine c_region ?_
  refine tm rfl (mv_box rfl rfl) ?_
  rintro _ _ ⟨b1, rfl, rfl⟩
  refine tp rfl (lv_assign rfl) ?_
  refine t_done ?_
  refine q_then_n (hK1 _ _ ?_)
  refine c_seq (fun K2 hK2 => ?_)
  refine c_region ?_
  refine tc rfl (en_fn Tryd.call10 rfl) (shown_ok (Tab.cons hT)) ?_
  rintro _ _ ⟨rfl, rfl⟩
  refine tp rfl (lv_assign rfl) ?_
  refine t_done ?_
  refine q_then_n (hK2 _ _ ?_)
  refine c_seq (fun K3 hK3 => ?_)
  refine c_region ?_
  refine tp rfl (lv_move rfl) ?_
  refine tp rfl (lv_move rfl) ?_
  refine tc rfl (en_fn Tryd.call16 rfl) (made_ok n es (Rd.cons hl) okl (by omega)) ?_
  rintro _ _ ⟨p2, rfl, rfl⟩
  refine tp rfl (lv_assign rfl) ?_
  refine t_done ?_
  refine q_then_n (hK3 _ _ ?_)
  refine c_seq (fun K4 hK4 => ?_)
  refine c_seq (fun K5 hK5 => ?_)
  refine c_region ?_
  refine tp rfl (lv_move rfl) ?_
  refine tp rfl (lv_eqnil Tryd.underlying24 rfl rfl) ?_
  refine t_done ?_
  refine q_then_n (hK5 _ _ ?_)
  refine c_false rfl ?_
  refine c_skip ?_
  refine q_then_n (hK4 _ _ ?_)
  refine c_seq (fun K6 hK6 => ?_)
  refine c_region ?_
  refine tp rfl (lv_move rfl) ?_
  refine tp rfl (lv_move rfl) ?_
  refine tp rfl (lv_move rfl) ?_
  refine tc rfl (en_fn Tryd.call13 rfl) (reaches_ok (N := clampN n) (es := madeE (clampN n) (es.take 200)) a b (Tab.cons hT)) ?_
  rintro _ _ ⟨rfl, rfl⟩
  refine tp rfl (lv_assign rfl) ?_
  refine t_done ?_
  refine q_then_n (hK6 _ _ ?_)
  refine c_seq (fun K7 hK7 => ?_)
  refine c_region ?_
  refine tp rfl (lv_move rfl) ?_
  refine tp rfl (lv_move rfl) ?_
  refine tp rfl (lv_move rfl) ?_
  refine tc rfl (en_fn Tryd.call13 rfl) (reaches_ok (N := clampN n) (es := madeE (clampN n) (es.take 200)) b c (Tab.cons hT)) ?_
  rintro _ _ ⟨rfl, rfl⟩
  refine tp rfl (lv_assign rfl) ?_
  refine t_done ?_
  refine q_then_n (hK7 _ _ ?_)
  refine c_seq (fun K8 hK8 => ?_)
  refine c_region ?_
  refine tp rfl (lv_move rfl) ?_
  refine tp rfl (lv_move rfl) ?_
  refine tp rfl (lv_move rfl) ?_
  refine tc rfl (en_fn Tryd.call13 rfl) (reaches_ok (N := clampN n) (es := madeE (clampN n) (es.take 200)) a c (Tab.cons hT)) ?_
  rintro _ _ ⟨rfl, rfl⟩
  refine tp rfl (lv_assign rfl) ?_
  refine t_done ?_
  refine q_then_n (hK8 _ _ ?_)
  refine c_seq (fun K9 hK9 => ?_)
  refine c_region ?_
  refine tp rfl (lv_move rfl) ?_
  refine tp rfl (lv_fieldAddr (o' := 0) Tryd.underlying27 rfl Tryd.sizeOf3 rfl rfl) ?_
  refine tp rfl (lv_load Tryd.isAgg3 rfl (gives_blk (.tail _ (.head _)) rfl)) ?_
  refine tp rfl (lv_fieldAddr (o' := 1) Tryd.underlying27 rfl Tryd.sizeOf3 rfl rfl) ?_
  refine tp rfl (lv_load Tryd.isAgg3 rfl (gives_blk (.tail _ (.head _)) rfl)) ?_
  refine tc rfl (en_fn Tryd.call12 rfl) (add_ok (N := clampN n) (es := madeE (clampN n) (es.take 200)) ma mb) ?_
  rintro _ _ ⟨rfl, rfl⟩
  refine t_done ?_
  refine q_then_n (hK9 _ _ ?_)
  refine c_seq (fun K10 hK10 => ?_)
  refine c_region ?_
  refine tp rfl (lv_move rfl) ?_
  refine tp rfl (lv_move rfl) ?_
  refine t_guard rfl rfl ?_
  refine tp rfl (lv_move rfl) ?_
  refine t_guard rfl rfl ?_
  refine tp rfl (lv_not (c := !(reachB (clampN n) (madeE (clampN n) (es.take 200)) a b)) rfl rfl) ?_
  refine t_guard rfl rfl ?_
  refine tp rfl (lv_move rfl) ?_
  rcases hb3 : reachB (clampN n) (madeE (clampN n) (es.take 200)) a b with _ | _
  · -- false
    refine t_skip rfl rfl rfl ?_
    refine t_skip rfl rfl rfl ?_
    refine t_guard rfl rfl ?_
    refine tp rfl (lv_pick_t rfl rfl) ?_
    refine t_guard rfl rfl ?_
    refine tp rfl (lv_move rfl) ?_
    refine t_skip rfl rfl rfl ?_
    refine t_guard rfl rfl ?_
    refine tp rfl (lv_pick_t rfl rfl) ?_
    refine tp rfl (lv_pick_t rfl rfl) ?_
    refine tp rfl (lv_move rfl) ?_
    refine t_guard rfl rfl ?_
    refine tp rfl (lv_move rfl) ?_
    refine t_guard rfl rfl ?_
    refine tp rfl (lv_not (c := true) rfl rfl) ?_
    refine t_guard rfl rfl ?_
    refine tp rfl (lv_move rfl) ?_
    refine t_skip rfl rfl rfl ?_
    refine t_skip rfl rfl rfl ?_
    refine t_skip rfl rfl rfl ?_
    refine t_skip rfl rfl rfl ?_
    refine t_guard rfl rfl ?_
    refine tp rfl (lv_pick_t rfl rfl) ?_
    refine tp rfl (lv_pick_t rfl rfl) ?_
    refine tp rfl (lv_move rfl) ?_
    refine t_guard rfl rfl ?_
    refine tp rfl (lv_move rfl) ?_
    refine t_guard rfl rfl ?_
    refine tp rfl (lv_not (c := !(reachB (clampN n) (madeE (clampN n) (es.take 200)) a c)) rfl rfl) ?_
    refine t_guard rfl rfl ?_
    refine tp rfl (lv_move rfl) ?_
    rcases hb4 : reachB (clampN n) (madeE (clampN n) (es.take 200)) a c with _ | _
    · -- false
      refine t_skip rfl rfl rfl ?_
      refine t_skip rfl rfl rfl ?_
      refine t_skip rfl rfl rfl ?_
      refine t_skip rfl rfl rfl ?_
      refine t_guard rfl rfl ?_
      refine tp rfl (lv_pick_t rfl rfl) ?_
      refine tp rfl (lv_pick_t rfl rfl) ?_
      refine tp rfl (lv_move rfl) ?_
      refine t_guard rfl rfl ?_
      refine tp rfl (lv_move rfl) ?_
      refine t_guard rfl rfl ?_
      refine tp rfl (lv_move rfl) ?_
      refine t_guard rfl rfl ?_
      refine tp rfl (lv_move rfl) ?_
      refine t_guard rfl rfl ?_
      refine tc rfl (en_fn Tryd.call17 rfl) (hasE_ok (N := clampN n) (es := addE (clampN n) (madeE (clampN n) (es.take 200)) ma mb) a b) ?_
      rintro _ _ ⟨rfl, rfl⟩
      refine t_guard rfl rfl ?_
      refine tp rfl (lv_not (c := !(hasE (addE (clampN n) (madeE (clampN n) (es.take 200)) ma mb) (a, b))) rfl rfl) ?_
      refine t_guard rfl rfl ?_
      refine tp rfl (lv_move rfl) ?_
      rcases hb5 : hasE (addE (clampN n) (madeE (clampN n) (es.take 200)) ma mb) (a, b) with _ | _
      · -- false
        refine t_skip rfl rfl rfl ?_
        refine t_skip rfl rfl rfl ?_
        refine t_skip rfl rfl rfl ?_
        refine t_skip rfl rfl rfl ?_
        refine t_guard rfl rfl ?_
        refine tp rfl (lv_pick_t rfl rfl) ?_
        refine tp rfl (lv_pick_t rfl rfl) ?_
        refine tp rfl (lv_assign rfl) ?_
        refine t_done ?_
        refine q_then_n (hK10 _ _ ?_)
        refine c_ret ?_
        refine t_drop ?_
        refine t_drop ?_
        refine q_ret rfl rfl ?_
        exact ⟨rfl, rfl⟩
      · -- true
        refine t_guard rfl rfl ?_
        refine tp rfl (lv_move rfl) ?_
        refine t_guard rfl rfl ?_
        refine tp rfl (lv_move rfl) ?_
        refine t_guard rfl rfl ?_
        refine tp rfl (lv_move rfl) ?_
        refine t_guard rfl rfl ?_
        refine tc rfl (en_fn Tryd.call13 rfl) (reaches_ok (N := clampN n) (es := addE (clampN n) (madeE (clampN n) (es.take 200)) ma mb) a b (Tab.cons hT)) ?_
        rintro _ _ ⟨rfl, rfl⟩
        refine t_guard rfl rfl ?_
        refine tp rfl (lv_pick_f rfl rfl) ?_
        refine tp rfl (lv_pick_t rfl rfl) ?_
        refine tp rfl (lv_assign rfl) ?_
        refine t_done ?_
        refine q_then_n (hK10 _ _ ?_)
        refine c_ret ?_
        refine t_drop ?_
        refine t_drop ?_
        refine q_ret rfl rfl ?_
        rcases hb6 : reachB (clampN n) (addE (clampN n) (madeE (clampN n) (es.take 200)) ma mb) a b with _ | _
        · exfalso; exact Bool.noConfusion ((reachB_edge ((GOk.made (clampN_le n) _).add _ _) hb5).symm.trans hb6)
        · exact ⟨rfl, rfl⟩
    · -- true
      refine t_guard rfl rfl ?_
      refine tp rfl (lv_move rfl) ?_
      refine t_guard rfl rfl ?_
      refine tp rfl (lv_move rfl) ?_
      refine t_guard rfl rfl ?_
      refine tp rfl (lv_move rfl) ?_
      refine t_guard rfl rfl ?_
      refine tc rfl (en_fn Tryd.call13 rfl) (reaches_ok (N := clampN n) (es := addE (clampN n) (madeE (clampN n) (es.take 200)) ma mb) a c (Tab.cons hT)) ?_
      rintro _ _ ⟨rfl, rfl⟩
      refine t_guard rfl rfl ?_
      refine tp rfl (lv_pick_f rfl rfl) ?_
      refine tp rfl (lv_pick_t rfl rfl) ?_
      refine tp rfl (lv_move rfl) ?_
      rcases hb7 : reachB (clampN n) (addE (clampN n) (madeE (clampN n) (es.take 200)) ma mb) a c with _ | _
      · -- false
        refine t_skip rfl rfl rfl ?_
        refine t_skip rfl rfl rfl ?_
        refine t_skip rfl rfl rfl ?_
        refine t_skip rfl rfl rfl ?_
        refine t_skip rfl rfl rfl ?_
        refine t_skip rfl rfl rfl ?_
        refine t_skipu rfl rfl rfl ?_
        refine t_skipu rfl rfl rfl ?_
        refine t_skipu rfl rfl rfl ?_
        refine t_skipu rfl rfl rfl ?_
        refine t_skip rfl rfl rfl ?_
        refine tp rfl (lv_pick_f rfl rfl) ?_
        refine tp rfl (lv_assign rfl) ?_
        refine t_done ?_
        refine q_then_n (hK10 _ _ ?_)
        refine c_ret ?_
        refine t_drop ?_
        refine t_drop ?_
        refine q_ret rfl rfl ?_
        exfalso
        exact Bool.noConfusion ((reachB_add hb4).symm.trans hb7)
      · -- true
        refine t_guard rfl rfl ?_
        refine tp rfl (lv_move rfl) ?_
        refine t_guard rfl rfl ?_
        refine tp rfl (lv_move rfl) ?_
        refine t_guard rfl rfl ?_
        refine tp rfl (lv_move rfl) ?_
        refine t_guard rfl rfl ?_
        refine tc rfl (en_fn Tryd.call17 rfl) (hasE_ok (N := clampN n) (es := addE (clampN n) (madeE (clampN n) (es.take 200)) ma mb) a b) ?_
        rintro _ _ ⟨rfl, rfl⟩
        refine t_guard rfl rfl ?_
        refine tp rfl (lv_not (c := !(hasE (addE (clampN n) (madeE (clampN n) (es.take 200)) ma mb) (a, b))) rfl rfl) ?_
        refine t_guard rfl rfl ?_
        refine tp rfl (lv_move rfl) ?_
        rcases hb8 : hasE (addE (clampN n) (madeE (clampN n) (es.take 200)) ma mb) (a, b) with _ | _
        · -- false
          refine t_skip rfl rfl rfl ?_
          refine t_skip rfl rfl rfl ?_
          refine t_skip rfl rfl rfl ?_
          refine t_skip rfl rfl rfl ?_
          refine t_guard rfl rfl ?_
          refine tp rfl (lv_pick_t rfl rfl) ?_
          refine tp rfl (lv_pick_t rfl rfl) ?_
          refine tp rfl (lv_assign rfl) ?_
          refine t_done ?_
          refine q_then_n (hK10 _ _ ?_)
          refine c_ret ?_
          refine t_drop ?_
          refine t_drop ?_
          refine q_ret rfl rfl ?_
          exact ⟨rfl, rfl⟩
        · -- true
          refine t_guard rfl rfl ?_
          refine tp rfl (lv_move rfl) ?_
          refine t_guard rfl rfl ?_
          refine tp rfl (lv_move rfl) ?_
          refine t_guard rfl rfl ?_
          refine tp rfl (lv_move rfl) ?_
          refine t_guard rfl rfl ?_
          refine tc rfl (en_fn Tryd.call13 rfl) (reaches_ok (N := clampN n) (es := addE (clampN n) (madeE (clampN n) (es.take 200)) ma mb) a b (Tab.cons hT)) ?_
          rintro _ _ ⟨rfl, rfl⟩
          refine t_guard rfl rfl ?_
          refine tp rfl (lv_pick_f rfl rfl) ?_
          refine tp rfl (lv_pick_t rfl rfl) ?_
          refine tp rfl (lv_assign rfl) ?_
          refine t_done ?_
          refine q_then_n (hK10 _ _ ?_)
          refine c_ret ?_
          refine t_drop ?_
          refine t_drop ?_
          refine q_ret rfl rfl ?_
          rcases hb9 : reachB (clampN n) (addE (clampN n) (madeE (clampN n) (es.take 200)) ma mb) a b with _ | _
          · exfalso; exact Bool.noConfusion ((reachB_edge ((GOk.made (clampN_le n) _).add _ _) hb8).symm.trans hb9)
          · exact ⟨rfl, rfl⟩
  · -- true
    refine t_guard rfl rfl ?_
    refine tp rfl (lv_move rfl) ?_
    refine t_guard rfl rfl ?_
    refine tp rfl (lv_not (c := !(reachB (clampN n) (madeE (clampN n) (es.take 200)) b c)) rfl rfl) ?_
    refine t_guard rfl rfl ?_
    refine tp rfl (lv_pick_f rfl rfl) ?_
    refine t_guard rfl rfl ?_
    refine tp rfl (lv_move rfl) ?_
    rcases hb10 : reachB (clampN n) (madeE (clampN n) (es.take 200)) b c with _ | _
    · -- false
      refine t_skip rfl rfl rfl ?_
      refine t_guard rfl rfl ?_
      refine tp rfl (lv_pick_t rfl rfl) ?_
      refine tp rfl (lv_pick_t rfl rfl) ?_
      refine tp rfl (lv_move rfl) ?_
      refine t_guard rfl rfl ?_
      refine tp rfl (lv_move rfl) ?_
      refine t_guard rfl rfl ?_
      refine tp rfl (lv_not (c := false) rfl rfl) ?_
      refine t_guard rfl rfl ?_
      refine tp rfl (lv_move rfl) ?_
      refine t_guard rfl rfl ?_
      refine tp rfl (lv_move rfl) ?_
      refine t_guard rfl rfl ?_
      refine tp rfl (lv_move rfl) ?_
      refine t_guard rfl rfl ?_
      refine tp rfl (lv_move rfl) ?_
      refine t_guard rfl rfl ?_
      refine tc rfl (en_fn Tryd.call13 rfl) (reaches_ok (N := clampN n) (es := addE (clampN n) (madeE (clampN n) (es.take 200)) ma mb) a b (Tab.cons hT)) ?_
      rintro _ _ ⟨rfl, rfl⟩
      refine t_guard rfl rfl ?_
      refine tp rfl (lv_pick_f rfl rfl) ?_
      refine tp rfl (lv_pick_t rfl rfl) ?_
      refine tp rfl (lv_move rfl) ?_
      rcases hb11 : reachB (clampN n) (addE (clampN n) (madeE (clampN n) (es.take 200)) ma mb) a b with _ | _
      · -- false
        refine t_skip rfl rfl rfl ?_
        refine t_skip rfl rfl rfl ?_
        refine t_skip rfl rfl rfl ?_
        refine t_skipu rfl rfl rfl ?_
        refine t_skipu rfl rfl rfl ?_
        refine t_skipu rfl rfl rfl ?_
        refine t_skipu rfl rfl rfl ?_
        refine t_skip rfl rfl rfl ?_
        refine tp rfl (lv_pick_f rfl rfl) ?_
        refine tp rfl (lv_move rfl) ?_
        refine t_skip rfl rfl rfl ?_
        refine t_skip rfl rfl rfl ?_
        refine t_skip rfl rfl rfl ?_
        refine t_skip rfl rfl rfl ?_
        refine t_skip rfl rfl rfl ?_
        refine t_skip rfl rfl rfl ?_
        refine t_skipu rfl rfl rfl ?_
        refine t_skipu rfl rfl rfl ?_
        refine t_skipu rfl rfl rfl ?_
        refine t_skipu rfl rfl rfl ?_
        refine t_skip rfl rfl rfl ?_
        refine tp rfl (lv_pick_f rfl rfl) ?_
        refine tp rfl (lv_assign rfl) ?_
        refine t_done ?_
        refine q_then_n (hK10 _ _ ?_)
        refine c_ret ?_
        refine t_drop ?_
        refine t_drop ?_
        refine q_ret rfl rfl ?_
        exfalso
        exact Bool.noConfusion ((reachB_add hb3).symm.trans hb11)
      · -- true
        refine t_guard rfl rfl ?_
        refine tp rfl (lv_move rfl) ?_
        refine t_guard rfl rfl ?_
        refine tp rfl (lv_not (c := !(reachB (clampN n) (madeE (clampN n) (es.take 200)) a c)) rfl rfl) ?_
        refine t_guard rfl rfl ?_
        refine tp rfl (lv_move rfl) ?_
        rcases hb12 : reachB (clampN n) (madeE (clampN n) (es.take 200)) a c with _ | _
        · -- false
          refine t_skip rfl rfl rfl ?_
          refine t_skip rfl rfl rfl ?_
          refine t_skip rfl rfl rfl ?_
          refine t_skip rfl rfl rfl ?_
          refine t_guard rfl rfl ?_
          refine tp rfl (lv_pick_t rfl rfl) ?_
          refine tp rfl (lv_pick_t rfl rfl) ?_
          refine tp rfl (lv_move rfl) ?_
          refine t_guard rfl rfl ?_
          refine tp rfl (lv_move rfl) ?_
          refine t_guard rfl rfl ?_
          refine tp rfl (lv_move rfl) ?_
          refine t_guard rfl rfl ?_
          refine tp rfl (lv_move rfl) ?_
          refine t_guard rfl rfl ?_
          refine tc rfl (en_fn Tryd.call17 rfl) (hasE_ok (N := clampN n) (es := addE (clampN n) (madeE (clampN n) (es.take 200)) ma mb) a b) ?_
          rintro _ _ ⟨rfl, rfl⟩
          refine t_guard rfl rfl ?_
          refine tp rfl (lv_not (c := !(hasE (addE (clampN n) (madeE (clampN n) (es.take 200)) ma mb) (a, b))) rfl rfl) ?_
          refine t_guard rfl rfl ?_
          refine tp rfl (lv_move rfl) ?_
          rcases hb13 : hasE (addE (clampN n) (madeE (clampN n) (es.take 200)) ma mb) (a, b) with _ | _
          · -- false
            refine t_skip rfl rfl rfl ?_
            refine t_skip rfl rfl rfl ?_
            refine t_skip rfl rfl rfl ?_
            refine t_skip rfl rfl rfl ?_
            refine t_guard rfl rfl ?_
            refine tp rfl (lv_pick_t rfl rfl) ?_
            refine tp rfl (lv_pick_t rfl rfl) ?_
            refine tp rfl (lv_assign rfl) ?_
            refine t_done ?_
            refine q_then_n (hK10 _ _ ?_)
            refine c_ret ?_
            refine t_drop ?_
            refine t_drop ?_
            refine q_ret rfl rfl ?_
            exact ⟨rfl, rfl⟩
          · -- true
            refine t_guard rfl rfl ?_
            refine tp rfl (lv_move rfl) ?_
            refine t_guard rfl rfl ?_
            refine tp rfl (lv_move rfl) ?_
            refine t_guard rfl rfl ?_
            refine tp rfl (lv_move rfl) ?_
            refine t_guard rfl rfl ?_
            refine tc rfl (en_fn Tryd.call13 rfl) (reaches_ok (N := clampN n) (es := addE (clampN n) (madeE (clampN n) (es.take 200)) ma mb) a b (Tab.cons hT)) ?_
            rintro _ _ ⟨rfl, rfl⟩
            refine t_guard rfl rfl ?_
            refine tp rfl (lv_pick_f rfl rfl) ?_
            refine tp rfl (lv_pick_t rfl rfl) ?_
            refine tp rfl (lv_assign rfl) ?_
            refine t_done ?_
            refine q_then_n (hK10 _ _ ?_)
            refine c_ret ?_
            refine t_drop ?_
            refine t_drop ?_
            refine q_ret rfl rfl ?_
            rcases hb14 : reachB (clampN n) (addE (clampN n) (madeE (clampN n) (es.take 200)) ma mb) a b with _ | _
            · exfalso; exact Bool.noConfusion ((reachB_add hb3).symm.trans hb14)
            · exact ⟨rfl, rfl⟩
        · -- true
          refine t_guard rfl rfl ?_
          refine tp rfl (lv_move rfl) ?_
          refine t_guard rfl rfl ?_
          refine tp rfl (lv_move rfl) ?_
          refine t_guard rfl rfl ?_
          refine tp rfl (lv_move rfl) ?_
          refine t_guard rfl rfl ?_
          refine tc rfl (en_fn Tryd.call13 rfl) (reaches_ok (N := clampN n) (es := addE (clampN n) (madeE (clampN n) (es.take 200)) ma mb) a c (Tab.cons hT)) ?_
          rintro _ _ ⟨rfl, rfl⟩
          refine t_guard rfl rfl ?_
          refine tp rfl (lv_pick_f rfl rfl) ?_
          refine tp rfl (lv_pick_t rfl rfl) ?_
          refine tp rfl (lv_move rfl) ?_
          rcases hb15 : reachB (clampN n) (addE (clampN n) (madeE (clampN n) (es.take 200)) ma mb) a c with _ | _
          · -- false
            refine t_skip rfl rfl rfl ?_
            refine t_skip rfl rfl rfl ?_
            refine t_skip rfl rfl rfl ?_
            refine t_skip rfl rfl rfl ?_
            refine t_skip rfl rfl rfl ?_
            refine t_skip rfl rfl rfl ?_
            refine t_skipu rfl rfl rfl ?_
            refine t_skipu rfl rfl rfl ?_
            refine t_skipu rfl rfl rfl ?_
            refine t_skipu rfl rfl rfl ?_
            refine t_skip rfl rfl rfl ?_
            refine tp rfl (lv_pick_f rfl rfl) ?_
            refine tp rfl (lv_assign rfl) ?_
            refine t_done ?_
            refine q_then_n (hK10 _ _ ?_)
            refine c_ret ?_
            refine t_drop ?_
            refine t_drop ?_
            refine q_ret rfl rfl ?_
            exfalso
            exact Bool.noConfusion ((reachB_add hb12).symm.trans hb15)
          · -- true
            refine t_guard rfl rfl ?_
            refine tp rfl (lv_move rfl) ?_
            refine t_guard rfl rfl ?_
            refine tp rfl (lv_move rfl) ?_
            refine t_guard rfl rfl ?_
            refine tp rfl (lv_move rfl) ?_
            refine t_guard rfl rfl ?_
            refine tc rfl (en_fn Tryd.call17 rfl) (hasE_ok (N := clampN n) (es := addE (clampN n) (madeE (clampN n) (es.take 200)) ma mb) a b) ?_
            rintro _ _ ⟨rfl, rfl⟩
            refine t_guard rfl rfl ?_
            refine tp rfl (lv_not (c := !(hasE (addE (clampN n) (madeE (clampN n) (es.take 200)) ma mb) (a, b))) rfl rfl) ?_
            refine t_guard rfl rfl ?_
            refine tp rfl (lv_move rfl) ?_
            rcases hb16 : hasE (addE (clampN n) (madeE (clampN n) (es.take 200)) ma mb) (a, b) with _ | _
            · -- false
              refine t_skip rfl rfl rfl ?_
              refine t_skip rfl rfl rfl ?_
              refine t_skip rfl rfl rfl ?_
              refine t_skip rfl rfl rfl ?_
              refine t_guard rfl rfl ?_
              refine tp rfl (lv_pick_t rfl rfl) ?_
              refine tp rfl (lv_pick_t rfl rfl) ?_
              refine tp rfl (lv_assign rfl) ?_
              refine t_done ?_
              refine q_then_n (hK10 _ _ ?_)
              refine c_ret ?_
              refine t_drop ?_
              refine t_drop ?_
              refine q_ret rfl rfl ?_
              exact ⟨rfl, rfl⟩
            · -- true
              refine t_guard rfl rfl ?_
              refine tp rfl (lv_move rfl) ?_
              refine t_guard rfl rfl ?_
              refine tp rfl (lv_move rfl) ?_
              refine t_guard rfl rfl ?_
              refine tp rfl (lv_move rfl) ?_
              refine t_guard rfl rfl ?_
              refine tc rfl (en_fn Tryd.call13 rfl) (reaches_ok (N := clampN n) (es := addE (clampN n) (madeE (clampN n) (es.take 200)) ma mb) a b (Tab.cons hT)) ?_
              rintro _ _ ⟨rfl, rfl⟩
              refine t_guard rfl rfl ?_
              refine tp rfl (lv_pick_f rfl rfl) ?_
              refine tp rfl (lv_pick_t rfl rfl) ?_
              refine tp rfl (lv_assign rfl) ?_
              refine t_done ?_
              refine q_then_n (hK10 _ _ ?_)
              refine c_ret ?_
              refine t_drop ?_
              refine t_drop ?_
              refine q_ret rfl rfl ?_
              rcases hb17 : reachB (clampN n) (addE (clampN n) (madeE (clampN n) (es.take 200)) ma mb) a b with _ | _
              · exfalso; exact Bool.noConfusion ((reachB_add hb3).symm.trans hb17)
              · exact ⟨rfl, rfl⟩
    · -- true
      refine t_guard rfl rfl ?_
      refine tp rfl (lv_move rfl) ?_
      refine t_guard rfl rfl ?_
      refine tp rfl (lv_pick_f rfl rfl) ?_
      refine tp rfl (lv_pick_t rfl rfl) ?_
      refine tp rfl (lv_move rfl) ?_
      rcases hb18 : reachB (clampN n) (madeE (clampN n) (es.take 200)) a c with _ | _
      · -- false
        refine t_skip rfl rfl rfl ?_
        refine t_skip rfl rfl rfl ?_
        refine t_skip rfl rfl rfl ?_
        refine t_skipu rfl rfl rfl ?_
        refine t_skipu rfl rfl rfl ?_
        refine t_skipu rfl rfl rfl ?_
        refine t_skipu rfl rfl rfl ?_
        refine t_skip rfl rfl rfl ?_
        refine tp rfl (lv_pick_f rfl rfl) ?_
        refine tp rfl (lv_move rfl) ?_
        refine t_skip rfl rfl rfl ?_
        refine t_skip rfl rfl rfl ?_
        refine t_skip rfl rfl rfl ?_
        refine t_skipu rfl rfl rfl ?_
        refine t_skipu rfl rfl rfl ?_
        refine t_skipu rfl rfl rfl ?_
        refine t_skipu rfl rfl rfl ?_
        refine t_skip rfl rfl rfl ?_
        refine tp rfl (lv_pick_f rfl rfl) ?_
        refine tp rfl (lv_move rfl) ?_
        refine t_skip rfl rfl rfl ?_
        refine t_skip rfl rfl rfl ?_
        refine t_skip rfl rfl rfl ?_
        refine t_skip rfl rfl rfl ?_
        refine t_skip rfl rfl rfl ?_
        refine t_skip rfl rfl rfl ?_
        refine t_skipu rfl rfl rfl ?_
        refine t_skipu rfl rfl rfl ?_
        refine t_skipu rfl rfl rfl ?_
        refine t_skipu rfl rfl rfl ?_
        refine t_skip rfl rfl rfl ?_
        refine tp rfl (lv_pick_f rfl rfl) ?_
        refine tp rfl (lv_assign rfl) ?_
        refine t_done ?_
        refine q_then_n (hK10 _ _ ?_)
        refine c_ret ?_
        refine t_drop ?_
        refine t_drop ?_
        refine q_ret rfl rfl ?_
        exfalso
        exact Bool.noConfusion ((reachB_trans hb3 hb10).symm.trans hb18)
      · -- true
        refine t_guard rfl rfl ?_
        refine tp rfl (lv_move rfl) ?_
        refine t_guard rfl rfl ?_
        refine tp rfl (lv_not (c := false) rfl rfl) ?_
        refine t_guard rfl rfl ?_
        refine tp rfl (lv_move rfl) ?_
        refine t_guard rfl rfl ?_
        refine tp rfl (lv_move rfl) ?_
        refine t_guard rfl rfl ?_
        refine tp rfl (lv_move rfl) ?_
        refine t_guard rfl rfl ?_
        refine tp rfl (lv_move rfl) ?_
        refine t_guard rfl rfl ?_
        refine tc rfl (en_fn Tryd.call13 rfl) (reaches_ok (N := clampN n) (es := addE (clampN n) (madeE (clampN n) (es.take 200)) ma mb) a b (Tab.cons hT)) ?_
        rintro _ _ ⟨rfl, rfl⟩
        refine t_guard rfl rfl ?_
        refine tp rfl (lv_pick_f rfl rfl) ?_
        refine tp rfl (lv_pick_t rfl rfl) ?_
        refine tp rfl (lv_move rfl) ?_
        rcases hb19 : reachB (clampN n) (addE (clampN n) (madeE (clampN n) (es.take 200)) ma mb) a b with _ | _
        · -- false
          refine t_skip rfl rfl rfl ?_
          refine t_skip rfl rfl rfl ?_
          refine t_skip rfl rfl rfl ?_
          refine t_skipu rfl rfl rfl ?_
          refine t_skipu rfl rfl rfl ?_
          refine t_skipu rfl rfl rfl ?_
          refine t_skipu rfl rfl rfl ?_
          refine t_skip rfl rfl rfl ?_
          refine tp rfl (lv_pick_f rfl rfl) ?_
          refine tp rfl (lv_move rfl) ?_
          refine t_skip rfl rfl rfl ?_
          refine t_skip rfl rfl rfl ?_
          refine t_skip rfl rfl rfl ?_
          refine t_skip rfl rfl rfl ?_
          refine t_skip rfl rfl rfl ?_
          refine t_skip rfl rfl rfl ?_
          refine t_skipu rfl rfl rfl ?_
          refine t_skipu rfl rfl rfl ?_
          refine t_skipu rfl rfl rfl ?_
          refine t_skipu rfl rfl rfl ?_
          refine t_skip rfl rfl rfl ?_
          refine tp rfl (lv_pick_f rfl rfl) ?_
          refine tp rfl (lv_assign rfl) ?_
          refine t_done ?_
          refine q_then_n (hK10 _ _ ?_)
          refine c_ret ?_
          refine t_drop ?_
          refine t_drop ?_
          refine q_ret rfl rfl ?_
          exfalso
          exact Bool.noConfusion ((reachB_add hb3).symm.trans hb19)
        · -- true
          refine t_guard rfl rfl ?_
          refine tp rfl (lv_move rfl) ?_
          refine t_guard rfl rfl ?_
          refine tp rfl (lv_not (c := false) rfl rfl) ?_
          refine t_guard rfl rfl ?_
          refine tp rfl (lv_move rfl) ?_
          refine t_guard rfl rfl ?_
          refine tp rfl (lv_move rfl) ?_
          refine t_guard rfl rfl ?_
          refine tp rfl (lv_move rfl) ?_
          refine t_guard rfl rfl ?_
          refine tp rfl (lv_move rfl) ?_
          refine t_guard rfl rfl ?_
          refine tc rfl (en_fn Tryd.call13 rfl) (reaches_ok (N := clampN n) (es := addE (clampN n) (madeE (clampN n) (es.take 200)) ma mb) a c (Tab.cons hT)) ?_
          rintro _ _ ⟨rfl, rfl⟩
          refine t_guard rfl rfl ?_
          refine tp rfl (lv_pick_f rfl rfl) ?_
          refine tp rfl (lv_pick_t rfl rfl) ?_
          refine tp rfl (lv_move rfl) ?_
          rcases hb20 : reachB (clampN n) (addE (clampN n) (madeE (clampN n) (es.take 200)) ma mb) a c with _ | _
          · -- false
            refine t_skip rfl rfl rfl ?_
            refine t_skip rfl rfl rfl ?_
            refine t_skip rfl rfl rfl ?_
            refine t_skip rfl rfl rfl ?_
            refine t_skip rfl rfl rfl ?_
            refine t_skip rfl rfl rfl ?_
            refine t_skipu rfl rfl rfl ?_
            refine t_skipu rfl rfl rfl ?_
            refine t_skipu rfl rfl rfl ?_
            refine t_skipu rfl rfl rfl ?_
            refine t_skip rfl rfl rfl ?_
            refine tp rfl (lv_pick_f rfl rfl) ?_
            refine tp rfl (lv_assign rfl) ?_
            refine t_done ?_
            refine q_then_n (hK10 _ _ ?_)
            refine c_ret ?_
            refine t_drop ?_
            refine t_drop ?_
            refine q_ret rfl rfl ?_
            exfalso
            exact Bool.noConfusion ((reachB_add hb18).symm.trans hb20)
          · -- true
            refine t_guard rfl rfl ?_
            refine tp rfl (lv_move rfl) ?_
            refine t_guard rfl rfl ?_
            refine tp rfl (lv_move rfl) ?_
            refine t_guard rfl rfl ?_
            refine tp rfl (lv_move rfl) ?_
            refine t_guard rfl rfl ?_
            refine tc rfl (en_fn Tryd.call17 rfl) (hasE_ok (N := clampN n) (es := addE (clampN n) (madeE (clampN n) (es.take 200)) ma mb) a b) ?_
            rintro _ _ ⟨rfl, rfl⟩
            refine t_guard rfl rfl ?_
            refine tp rfl (lv_not (c := !(hasE (addE (clampN n) (madeE (clampN n) (es.take 200)) ma mb) (a, b))) rfl rfl) ?_
            refine t_guard rfl rfl ?_
            refine tp rfl (lv_move rfl) ?_
            rcases hb21 : hasE (addE (clampN n) (madeE (clampN n) (es.take 200)) ma mb) (a, b) with _ | _
            · -- false
              refine t_skip rfl rfl rfl ?_
              refine t_skip rfl rfl rfl ?_
              refine t_skip rfl rfl rfl ?_
              refine t_skip rfl rfl rfl ?_
              refine t_guard rfl rfl ?_
              refine tp rfl (lv_pick_t rfl rfl) ?_
              refine tp rfl (lv_pick_t rfl rfl) ?_
              refine tp rfl (lv_assign rfl) ?_
              refine t_done ?_
              refine q_then_n (hK10 _ _ ?_)
              refine c_ret ?_
              refine t_drop ?_
              refine t_drop ?_
              refine q_ret rfl rfl ?_
              exact ⟨rfl, rfl⟩
            · -- true
              refine t_guard rfl rfl ?_
              refine tp rfl (lv_move rfl) ?_
              refine t_guard rfl rfl ?_
              refine tp rfl (lv_move rfl) ?_
              refine t_guard rfl rfl ?_
              refine tp rfl (lv_move rfl) ?_
              refine t_guard rfl rfl ?_
              refine tc rfl (en_fn Tryd.call13 rfl) (reaches_ok (N := clampN n) (es := addE (clampN n) (madeE (clampN n) (es.take 200)) ma mb) a b (Tab.cons hT)) ?_
              rintro _ _ ⟨rfl, rfl⟩
              refine t_guard rfl rfl ?_
              refine tp rfl (lv_pick_f rfl rfl) ?_
              refine tp rfl (lv_pick_t rfl rfl) ?_
              refine tp rfl (lv_assign rfl) ?_
              refine t_done ?_
              refine q_then_n (hK10 _ _ ?_)
              refine c_ret ?_
              refine t_drop ?_
              refine t_drop ?_
              refine q_ret rfl rfl ?_
              rcases hb22 : reachB (clampN n) (addE (clampN n) (madeE (clampN n) (es.take 200)) ma mb) a b with _ | _
              · exfalso; exact Bool.noConfusion ((reachB_add hb3).symm.trans hb22)
              · exact ⟨rfl, rfl⟩
end Go.Proofs.YtadhgpkpcmpmgaaDoor
