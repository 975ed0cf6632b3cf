/- GraphOrder: the law's walk. -/
import Derived.Test.YtadhgpkpcmpmgaaDoorLa
import Derived.Test.YtadhgpkpcmpmgaaDoorBot
set_option maxRecDepth 100000
set_option linter.unusedVariables false
set_option linter.unusedSimpArgs false
namespace Go.Proofs.YtadhgpkpcmpmgaaDoor
open Go Go.Proofs Sp
theorem order_ok {R : List HP} {bl : Option Addr} {cl : Nat} (a : Int) (xs : List Int) (hl : Rd R bl (ints .i64 xs)) (okl : SlOk bl xs.length) (ll : xs.length ≤ 9223372036854775807) (hT : Tab R) :
    Ok Tryd.prog 7 [(.int .i64 a), (.slice bl xs.length cl)] R
      (fun v M => v = .bool true ∧ M = R) := by
  have hlw : ∀ k : Nat, k ≤ 100 → (wantL (xs.take k)).length ≤ 100 := fun k hk => Nat.le_trans (wantL_len _) (by rw [List.length_take]; omega)
  refine ok_of (N := 79) Tryd.func7 rfl rfl rfl (fun W => ?_)
  refine c_seq (fun K1 hK1 => ?_)
  refine c_region ?_
  refine tp rfl (lv_assign rfl) ?_
  refine t_done ?_
  refine q_then_n (hK1 _ _ ?_)
  refine c_seq (fun K2 hK2 => ?_)
  refine c_region ?_
  refine tc rfl (en_fn Tryd.call10 rfl) (shown_ok hT) ?_
  rintro _ _ ⟨rfl, hMR⟩
  rw [hMR]; clear hMR
  refine tp rfl (lv_assign rfl) ?_
  refine t_done ?_
  refine q_then_n (hK2 _ _ ?_)
  refine c_seq (fun K3 hK3 => ?_)
  refine c_region ?_
  refine tc rfl (en_fn Tryd.call11 rfl) (new_ok 64) ?_
  rintro _ _ ⟨p1, rfl, rfl⟩
  rw [show clampN 64 = 64 from rfl]
  refine tp rfl (lv_assign rfl) ?_
  refine t_done ?_
  refine q_then_n (hK3 _ _ ?_)
  refine c_seq (fun K4 hK4 => ?_)
  refine c_seq (fun K5 hK5 => ?_)
  refine c_region ?_
  refine tp rfl (lv_move rfl) ?_
  refine tp rfl (lv_eqnil Tryd.underlying24 rfl rfl) ?_
  refine t_done ?_
  refine q_then_n (hK5 _ _ ?_)
  refine c_false rfl ?_
  refine c_skip ?_
  refine q_then_n (hK4 _ _ ?_)
  refine c_seq (fun K6 hK6 => ?_)
  refine c_region ?_
  refine tp rfl (lv_move rfl) ?_
  refine tp rfl (lv_and (c := a % 64) rfl rfl (and_3f a)) ?_
  refine tp rfl (lv_assign rfl) ?_
  refine t_done ?_
  refine q_then_n (hK6 _ _ ?_)
  refine c_seq (fun K7 hK7 => ?_)
  refine c_region ?_
  refine tm rfl (mv_buildSlice (cs := []) Tryd.underlying33 Tryd.sizeOf3 Tryd.zeroValue3 (by decide) rfl rfl rfl rfl) ?_
  rintro _ _ ⟨bs2, cp3, hok4, hle5, rfl, rfl⟩
  refine tp rfl (lv_assign rfl) ?_
  refine t_done ?_
  refine q_then_n (hK7 _ _ ?_)
  refine c_seq (fun K8 hK8 => ?_)
  refine c_seq (fun K9 hK9 => ?_)
  refine c_region ?_
  refine tp rfl (lv_assign rfl) ?_
  refine t_done ?_
  refine q_then_n (hK9 _ _ ?_)
  refine c_block ?_
  refine c_loop (γ := (Nat) × (Option Addr) × (Nat)) (fun (k, bw, cw) => k ≤ xs.length ∧ k ≤ 100 ∧ SlOk bw (wantL (xs.take k)).length) (fun (k, bw, cw) => [(0, (.int .i64 (a % 64))), (1, (.slice bl xs.length cl)), (5, (.bool true)), (6, (.pointer (some ⟨p1, 0, none⟩))), (7, (.slice bw ((wantL (xs.take k)).length) cw)), (8, (.int .i64 ((k : Nat) : Int))), (17, (.bool false))]) (fun (k, bw, cw) => (SlV 3 1 (.slice bw ((wantL (xs.take k)).length) cw) ((wantL (xs.take k)).length) (ints .i64 (wantL (xs.take k)))) :: (GraphO p1 64 (starE (a % 64) (xs.take k))) :: R) (fun (k, bw, cw) => xs.length - k) (0, bs2, cp3) ⟨by omega, by omega, hok4⟩ ⟨rfl, rfl, rfl, rfl, rfl, rfl, rfl, trivial⟩ (fun _ h => h) ?_
  rintro ⟨k, bw, cw⟩ K10 hF hK10
  try dsimp only at hF hK10 ⊢
  obtain ⟨hk, hk2, hbw⟩ := hF
  have hlk := hlw k hk2
  refine c_seq (fun K11 hK11 => ?_)
  refine c_seq (fun K12 hK12 => ?_)
  refine c_region ?_
  by_cases hc6 : ((k : Nat) : Int) < ((xs.length : Nat) : Int) ∧ ((k : Nat) : Int) < 100
  · -- both
    have hc6a := hc6.1
    have hc6b := hc6.2
    refine tp rfl (lv_move rfl) ?_
    refine tp rfl (lv_move rfl) ?_
    refine tp rfl (lv_len Tryd.underlying33 rfl rfl) ?_
    refine tp rfl (lv_lss rfl rfl (decide_eq_true hc6.1)) ?_
    refine tp rfl (lv_move rfl) ?_
    refine t_guard rfl rfl ?_
    refine tp rfl (lv_move rfl) ?_
    refine t_guard rfl rfl ?_
    refine tp rfl (lv_lss rfl rfl (decide_eq_true hc6.2)) ?_
    refine tp rfl (lv_pick_t rfl rfl) ?_
    refine t_done ?_
    refine q_then_n (hK12 _ _ ?_)
    refine c_true rfl ?_
    refine c_skip ?_
    refine q_then_n (hK11 _ _ ?_)
    refine c_seq (fun K13 hK13 => ?_)
    refine c_block ?_
    refine c_seq (fun K14 hK14 => ?_)
    refine c_region ?_
    refine tp rfl (lv_move rfl) ?_
    refine tp rfl (lv_move rfl) ?_
    refine tp rfl (lv_indexAddr (k' := k) Tryd.underlying33 Tryd.sizeOf3 rfl rfl okl (by omega) (by omega) (by omega)) ?_
    refine tp rfl (lv_load Tryd.isAgg3 rfl (Rd.gives (Rd.cons (Rd.cons hl)) (ints_get (by omega)))) ?_
    refine tp rfl (lv_and (c := xs.getD k 0 % 64) rfl rfl (and_3f _)) ?_
    refine tp rfl (lv_assign rfl) ?_
    refine t_done ?_
    refine q_then_n (hK14 _ _ ?_)
    refine c_seq (fun K15 hK15 => ?_)
    refine c_region ?_
    refine tp rfl (lv_assign rfl) ?_
    refine t_done ?_
    refine q_then_n (hK15 _ _ ?_)
    refine c_seq (fun K16 hK16 => ?_)
    refine c_seq (fun K17 hK17 => ?_)
    refine c_region ?_
    refine tp rfl (lv_assign rfl) ?_
    refine t_done ?_
    refine q_then_n (hK17 _ _ ?_)
    refine c_block ?_
    refine c_loop (γ := (Nat)) (fun (i : Nat) => i ≤ (wantL (xs.take k)).length) (fun (i : Nat) => [(0, (.int .i64 (a % 64))), (1, (.slice bl xs.length cl)), (5, (.bool true)), (6, (.pointer (some ⟨p1, 0, none⟩))), (7, (.slice bw ((wantL (xs.take k)).length) cw)), (8, (.int .i64 ((k : Nat) : Int))), (9, (.int .i64 (xs.getD k 0 % 64))), (10, (.bool (inP (wantL (xs.take k)) i (xs.getD k 0 % 64)))), (11, (.int .i64 ((i : Nat) : Int))), (17, (.bool false)), (28, (.bool true))]) (fun (i : Nat) => (SlV 3 1 (.slice bw ((wantL (xs.take k)).length) cw) ((wantL (xs.take k)).length) (ints .i64 (wantL (xs.take k)))) :: (GraphO p1 64 (starE (a % 64) (xs.take k))) :: R) (fun (i : Nat) => (wantL (xs.take k)).length - i) (0) (by omega) ⟨rfl, rfl, rfl, rfl, rfl, rfl, rfl, rfl, rfl, rfl, rfl, trivial⟩ (fun _ h => h) ?_
    rintro i K18 hF hK18
    try dsimp only at hF hK18 ⊢
    refine c_seq (fun K19 hK19 => ?_)
    refine c_seq (fun K20 hK20 => ?_)
    refine c_region ?_
    refine tp rfl (lv_move rfl) ?_
    refine tp rfl (lv_move rfl) ?_
    refine tp rfl (lv_len Tryd.underlying33 rfl rfl) ?_
    by_cases h7 : ((i : Nat) : Int) < (((wantL (xs.take k)).length : Nat) : Int)
    · -- yes
      refine tp rfl (lv_lss rfl rfl (decide_eq_true h7)) ?_
      refine t_done ?_
      refine q_then_n (hK20 _ _ ?_)
      refine c_true rfl ?_
      refine c_skip ?_
      refine q_then_n (hK19 _ _ ?_)
      refine c_seq (fun K21 hK21 => ?_)
      refine c_block ?_
      refine c_region ?_
      refine tp rfl (lv_move rfl) ?_
      refine tp rfl (lv_move rfl) ?_
      rcases hb8 : inP (wantL (xs.take k)) i (xs.getD k 0 % 64) with _ | _
      · -- false
        refine t_guard rfl rfl ?_
        refine tp rfl (lv_move rfl) ?_
        refine t_guard rfl rfl ?_
        refine tp rfl (lv_move rfl) ?_
        refine t_guard rfl rfl ?_
        refine tp rfl (lv_indexAddr (k' := i) Tryd.underlying33 Tryd.sizeOf3 rfl rfl hbw (by omega) (by omega) (by omega)) ?_
        refine t_guard rfl rfl ?_
        refine tp rfl (lv_load Tryd.isAgg3 rfl (gives_sl (.head _) (ints_get (by omega)))) ?_
        refine t_guard rfl rfl ?_
        refine tp rfl (lv_move rfl) ?_
        refine t_guard rfl rfl ?_
        refine tp rfl (lv_eql rfl rfl rfl) ?_
        refine tp rfl (lv_pick_f rfl rfl) ?_
        refine tp rfl (lv_assign rfl) ?_
        refine t_done ?_
        refine q_in_n ?_
        refine q_then_n (hK21 _ _ ?_)
        refine c_region ?_
        refine tp rfl (lv_move rfl) ?_
        refine tp rfl (lv_add (c := ((i + 1 : Nat) : Int)) rfl rfl (wr_i64_succ (by omega))) ?_
        refine tp rfl (lv_assign rfl) ?_
        refine t_done ?_
        refine q_then_n ?_
        exact t_weak (by exact ⟨rfl, rfl, rfl, rfl, rfl, rfl, rfl, (by rw [inP_succ _ (by omega), hb8]; rfl), rfl, rfl, rfl, trivial⟩) ((hK18 (i + 1) (by omega) (by omega)))
      · -- true
        refine t_skip rfl rfl rfl ?_
        refine t_skip rfl rfl rfl ?_
        refine t_skip rfl rfl rfl ?_
        refine t_skip rfl rfl rfl ?_
        refine t_skip rfl rfl rfl ?_
        refine t_skip rfl rfl rfl ?_
        refine tp rfl (lv_pick_t rfl rfl) ?_
        refine tp rfl (lv_assign rfl) ?_
        refine t_done ?_
        refine q_in_n ?_
        refine q_then_n (hK21 _ _ ?_)
        refine c_region ?_
        refine tp rfl (lv_move rfl) ?_
        refine tp rfl (lv_add (c := ((i + 1 : Nat) : Int)) rfl rfl (wr_i64_succ (by omega))) ?_
        refine tp rfl (lv_assign rfl) ?_
        refine t_done ?_
        refine q_then_n ?_
        exact t_weak (by exact ⟨rfl, rfl, rfl, rfl, rfl, rfl, rfl, (by rw [inP_succ _ (by omega), hb8]; rfl), rfl, rfl, rfl, trivial⟩) ((hK18 (i + 1) (by omega) (by omega)))
    · -- no
      refine tp rfl (lv_lss rfl rfl (decide_eq_false h7)) ?_
      refine t_done ?_
      refine q_then_n (hK20 _ _ ?_)
      refine c_false rfl ?_
      refine c_exit ?_
      refine q_then_x ?_
      refine q_then_x ?_
      refine q_in_x ?_
      refine q_then_n (hK16 _ _ ?_)
      refine c_seq (fun K21 hK21 => ?_)
      refine c_region ?_
      refine tp rfl (lv_move rfl) ?_
      refine tp rfl (lv_move rfl) ?_
      refine tp rfl (lv_move rfl) ?_
      refine t_f1 ?_
      refine tc rfl (en_fn Tryd.call12 rfl) (add_ok (N := 64) (es := starE (a % 64) (xs.take k)) (a % 64) (xs.getD k 0 % 64)) ?_
      rintro _ _ ⟨rfl, rfl⟩
      rw [show isNew 64 (starE (a % 64) (xs.take k)) (a % 64) (xs.getD k 0 % 64) = !(wantL (xs.take k)).contains (xs.getD k 0 % 64) from (star_new _ (by omega) (by omega))]
      rw [show addErr 64 (a % 64) (xs.getD k 0 % 64) = 0 from (star_err (by omega) (by omega))]
      rw [show addE 64 (starE (a % 64) (xs.take k)) (a % 64) (xs.getD k 0 % 64) = starE (a % 64) (xs.take (k + 1)) from (star_add (by omega) (by omega))]
      refine tp rfl (lv_move rfl) ?_
      refine tp rfl (lv_extract rfl rfl) ?_
      refine tp rfl (lv_extract rfl rfl) ?_
      refine tp rfl (lv_assign rfl) ?_
      refine tp rfl (lv_assign rfl) ?_
      refine t_done ?_
      refine q_then_n (hK21 _ _ ?_)
      refine c_seq (fun K22 hK22 => ?_)
      refine c_seq (fun K23 hK23 => ?_)
      refine c_region ?_
      refine tp rfl (lv_move rfl) ?_
      refine tp rfl (lv_neq (r := false) rfl rfl (by decide)) ?_
      refine tp rfl (lv_move rfl) ?_
      refine t_guard rfl rfl ?_
      refine tp rfl (lv_move rfl) ?_
      refine t_guard rfl rfl ?_
      refine tp rfl (lv_move rfl) ?_
      refine t_guard rfl rfl ?_
      refine tp rfl (lv_eqb Tryd.underlying4 rfl rfl (there_ne (by omega))) ?_
      refine tp rfl (lv_pick_f rfl rfl) ?_
      refine t_done ?_
      refine q_then_n (hK23 _ _ ?_)
      refine c_false rfl ?_
      refine c_skip ?_
      refine q_then_n (hK22 _ _ ?_)
      refine c_seq (fun K24 hK24 => ?_)
      refine c_region ?_
      refine tp rfl (lv_move rfl) ?_
      refine tp rfl (lv_not (c := !(inP (wantL (xs.take k)) i (xs.getD k 0 % 64))) rfl rfl) ?_
      refine t_done ?_
      refine q_then_n (hK24 _ _ ?_)
      refine c_split rfl (fun c9 => ?_) (fun c9 => ?_)
      · -- true
        refine c_region ?_
        refine tp rfl (lv_move rfl) ?_
        refine tp rfl (lv_move rfl) ?_
        refine tm rfl (mv_buildSlice (cs := [(.int .i64 (xs.getD k 0 % 64))]) Tryd.underlying33 Tryd.sizeOf3 Tryd.zeroValue3 (by decide) rfl rfl rfl rfl) ?_
        rintro _ _ ⟨bs10, cp11, hok12, hle13, rfl, rfl⟩
        refine t_f2 ?_
        refine tm rfl (mv_append (i := Tryd.t3) Tryd.underlying33 Tryd.type3 rfl rfl rfl (by decide) rfl rfl hok12 (by simp) (rd_sl (.tail _ (.head _))) (by simp [Value.oneCell']) (by rw [show Tryd.t3.bytes = 8 from rfl]; omega)) ?_
        rintro _ _ ⟨bs14, cp15, hok16, hle17, rfl, rfl⟩
        rw [show ints .i64 (wantL (xs.take k)) ++ [(.int .i64 (xs.getD k 0 % 64))] = ints .i64 ((wantL (xs.take k)) ++ [xs.getD k 0 % 64]) from ints_snoc _ _ _]
        refine tp rfl (lv_assign rfl) ?_
        refine t_done ?_
        refine q_in_n ?_
        refine q_then_n (hK13 _ _ ?_)
        refine c_region ?_
        refine tp rfl (lv_move rfl) ?_
        refine tp rfl (lv_add (c := ((k + 1 : Nat) : Int)) rfl rfl (wr_i64_succ (by omega))) ?_
        refine tp rfl (lv_assign rfl) ?_
        refine t_done ?_
        refine q_then_n ?_
        refine t_f1 ?_
        refine t_drop ?_
        have hww := wantL_no (l := xs) (k := k) (by omega) (by have := c9; rw [inP_all _ (by omega)] at this; simpa using this)
        have hwl : (wantL (xs.take k)).length + 1 = (wantL (xs.take (k + 1))).length := by rw [hww]; simp
        rw [← hww, hwl]
        rw [hwl] at hok16 hle17
        exact t_weak (by exact ⟨rfl, rfl, rfl, rfl, rfl, rfl, rfl, trivial⟩) ((hK10 (k + 1, bs14, cp15) ⟨by omega, by omega, hok16⟩ (by dsimp only; omega)))
      · -- false
        refine c_skip ?_
        refine q_in_n ?_
        refine q_then_n (hK13 _ _ ?_)
        refine c_region ?_
        refine tp rfl (lv_move rfl) ?_
        refine tp rfl (lv_add (c := ((k + 1 : Nat) : Int)) rfl rfl (wr_i64_succ (by omega))) ?_
        refine tp rfl (lv_assign rfl) ?_
        refine t_done ?_
        refine q_then_n ?_
        refine t_f1 ?_
        rw [show wantL (xs.take k) = wantL (xs.take (k + 1)) from (wantL_yes (by omega) (by have := c9; rw [inP_all _ (by omega)] at this; simpa using this)).symm] at hbw ⊢
        exact t_weak (by exact ⟨rfl, rfl, rfl, rfl, rfl, rfl, rfl, trivial⟩) ((hK10 (k + 1, bw, cw) ⟨by omega, by omega, hbw⟩ (by dsimp only; omega)))
  · -- not both
    refine t_cut0 (E' := [(0, (.int .i64 (a % 64))), (1, (.slice bl xs.length cl)), (5, (.bool true)), (6, (.pointer (some ⟨p1, 0, none⟩))), (7, (.slice bw ((wantL (xs.take k)).length) cw)), (8, (.int .i64 ((k : Nat) : Int))), (17, (.bool false)), (28, (.bool false))]) ?_ (fun KK hKK => ?_)
    ·
      refine q_then_n (hK12 _ _ ?_)
      refine c_false rfl ?_
      refine c_exit ?_
      refine q_then_x ?_
      refine q_then_x ?_
      refine q_in_x ?_
      refine q_then_n (hK8 _ _ ?_)
      refine c_seq (fun K13 hK13 => ?_)
      refine c_region ?_
      refine tp rfl (lv_move rfl) ?_
      refine tp rfl (lv_move rfl) ?_
      refine t_guard rfl rfl ?_
      refine tp rfl (lv_move rfl) ?_
      refine t_guard rfl rfl ?_
      refine tp rfl (lv_move rfl) ?_
      refine t_guard rfl rfl ?_
      refine t_f1 ?_
      refine tc rfl (en_fn Tryd.call19 rfl) (out_ok (N := 64) (es := starE (a % 64) (xs.take k)) (a % 64)) ?_
      rintro _ _ ⟨bs18, cp19, hok20, hle21, rfl, rfl⟩
      rw [show outs (starE (a % 64) (xs.take k)) (a % 64) = wantL (xs.take k) from (star_outs _ _)] at hok20 hle21 ⊢
      refine t_guard rfl rfl ?_
      refine tp rfl (lv_move rfl) ?_
      refine t_guard rfl rfl ?_
      refine tc rfl (en_fn Tryd.call21 rfl) (ints_ok (wantL (xs.take k)) (wantL (xs.take k)) (rd_sl (.head _)) (rd_sl (.tail _ (.tail _ (.head _)))) hok20 hbw (by first | omega | (simp; done) | (simp; omega)) (by first | omega | (simp; done) | (simp; omega))) ?_
      rintro _ _ ⟨rfl, rfl⟩
      rw [show eqI (wantL (xs.take k)) (wantL (xs.take k)) = true from (eqI_refl _)]
      refine tp rfl (lv_pick_t rfl rfl) ?_
      refine tp rfl (lv_assign rfl) ?_
      refine t_done ?_
      refine q_then_n (hK13 _ _ ?_)
      refine c_ret ?_
      refine t_drop ?_
      refine t_drop ?_
      refine t_drop ?_
      refine q_ret rfl rfl ?_
      exact ⟨rfl, rfl⟩
    · by_cases hc6A : ((k : Nat) : Int) < ((xs.length : Nat) : Int)
      ·
        have hc6B : ¬ (((k : Nat) : Int) < 100) := fun hh => hc6 ⟨hc6A, hh⟩
        refine tp rfl (lv_move rfl) ?_
        refine tp rfl (lv_move rfl) ?_
        refine tp rfl (lv_len Tryd.underlying33 rfl rfl) ?_
        refine tp rfl (lv_lss rfl rfl (decide_eq_true hc6A)) ?_
        refine tp rfl (lv_move rfl) ?_
        refine t_guard rfl rfl ?_
        refine tp rfl (lv_move rfl) ?_
        refine t_guard rfl rfl ?_
        refine tp rfl (lv_lss rfl rfl (decide_eq_false hc6B)) ?_
        refine tp rfl (lv_pick_t rfl rfl) ?_
        exact t_done (t_weak (by exact ⟨rfl, rfl, rfl, rfl, rfl, rfl, rfl, rfl, trivial⟩) hKK)
      ·
        refine tp rfl (lv_move rfl) ?_
        refine tp rfl (lv_move rfl) ?_
        refine tp rfl (lv_len Tryd.underlying33 rfl rfl) ?_
        refine tp rfl (lv_lss rfl rfl (decide_eq_false hc6A)) ?_
        refine tp rfl (lv_move rfl) ?_
        refine t_skip rfl rfl rfl ?_
        refine t_skip rfl rfl rfl ?_
        refine tp rfl (lv_pick_f rfl rfl) ?_
        exact t_done (t_weak (by exact ⟨rfl, rfl, rfl, rfl, rfl, rfl, rfl, rfl, trivial⟩) hKK)
end Go.Proofs.YtadhgpkpcmpmgaaDoor
