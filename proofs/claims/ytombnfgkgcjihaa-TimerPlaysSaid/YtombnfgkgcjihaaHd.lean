/- Contracts of package timer. -/
import Derived.Test.YtombnfgkgcjihaaHc
import Derived.Test.YtombnfgkgcjihaaTm
set_option maxRecDepth 100000
set_option linter.unusedVariables false
set_option linter.unusedSimpArgs false
namespace Go.Proofs.Ytombnfgkgcjihaa
open Go Go.Proofs Sp
theorem tnew_ok {R : List HP} (m : Int) :
    Ok Try.prog 11 [(.int .i64 m)] R
      (fun v M => ∃ p q, v = .pointer (some ⟨p, 0, none⟩) ∧ M = Blk p [.pointer (some ⟨q, 0, none⟩)] 37 :: HeapO q (hclamp m) (List.replicate (hclamp m) none) :: R) := by
  refine ok_of (N := 8) Try.func11 rfl rfl rfl (fun W => ?_)
  refine c_seq (fun K1 hK1 => ?_)
  refine c_region ?_
  refine tp rfl (lv_assign rfl) ?_
  refine t_done ?_
  refine q_then_n (hK1 _ _ ?_)
  refine c_seq (fun K2 hK2 => ?_)
  refine c_region ?_
  refine tp rfl (lv_move rfl) ?_
  refine tc rfl (en_fn Try.call23 rfl) (hnew_ok m) ?_
  rintro _ _ ⟨p1, rfl, rfl⟩
  refine tp rfl (lv_build (cs := [(.pointer (some ⟨p1, 0, none⟩))]) (pl := [(0, 1)]) Try.underlying35 Try.zeroValue35 (fun _ => by simp) rfl rfl) ?_
  refine tp rfl (lv_build (cs := [(.pointer (some ⟨p1, 0, none⟩))]) (pl := [(0, 1)]) Try.underlying37 Try.zeroValue37 (fun _ => by simp) rfl rfl) ?_
  refine tm rfl (mv_box rfl rfl) ?_
  rintro _ _ ⟨b2, rfl, rfl⟩
  refine tp rfl (lv_assign rfl) ?_
  refine t_done ?_
  refine q_then_n (hK2 _ _ ?_)
  refine c_ret ?_
  refine q_ret rfl rfl ?_
  exact ⟨_, _, rfl, rfl⟩

theorem tstop_ok {R : List HP} {p q n : Nat} {ks : Ks} (x : Int) :
    Ok Try.prog 13 [(.pointer (some ⟨p, 0, none⟩)), (.int .i64 x)] ((Blk p [(.pointer (some ⟨q, 0, none⟩))] 37) :: (HeapO q n ks) :: R)
      (fun v M => v = .bool (stopB ks x) ∧ M = Blk p [.pointer (some ⟨q, 0, none⟩)] 37 :: HeapO q n (remK ks x) :: R) := by
  refine ok_of (N := 19) Try.func13 rfl rfl rfl (fun W => ?_)
  refine c_seq (fun K1 hK1 => ?_)
  refine c_region ?_
  refine tp rfl (lv_assign rfl) ?_
  refine t_done ?_
  refine q_then_n (hK1 _ _ ?_)
  refine c_seq (fun K2 hK2 => ?_)
  refine c_region ?_
  refine tp rfl (lv_move rfl) ?_
  refine tp rfl (lv_nilCheck rfl) ?_
  refine tp rfl (lv_fieldAddr (o' := 0) Try.underlying37 rfl Try.sizeOf35 rfl rfl) ?_
  refine tp rfl (lv_fieldAddr (o' := 0) Try.underlying35 rfl Try.sizeOf33 rfl rfl) ?_
  refine tp rfl (lv_load Try.isAgg33 rfl (gives_blk (.head _) rfl)) ?_
  refine tp rfl (lv_move rfl) ?_
  refine t_f1 ?_
  refine tc rfl (en_fn Try.call25 rfl) (hrem_ok (n := n) (ks := ks) x) ?_
  rintro _ _ ⟨rfl, rfl⟩
  refine tp rfl (lv_move rfl) ?_
  refine tp rfl (lv_extract rfl rfl) ?_
  refine tp rfl (lv_extract rfl rfl) ?_
  refine tp rfl (lv_assign rfl) ?_
  refine tp rfl (lv_assign rfl) ?_
  refine t_done ?_
  refine q_then_n (hK2 _ _ ?_)
  refine c_seq (fun K3 hK3 => ?_)
  refine c_region ?_
  refine tp rfl (lv_move rfl) ?_
  refine tp rfl (lv_eql rfl rfl rfl) ?_
  refine tp rfl (lv_assign rfl) ?_
  refine t_done ?_
  refine q_then_n (hK3 _ _ ?_)
  refine c_ret ?_
  refine t_f1 ?_
  refine q_ret rfl rfl ?_
  exact ⟨rfl, rfl⟩

theorem tset_ok {R : List HP} {p q n : Nat} {ks : Ks} (x k : Int) :
    Ok Try.prog 12 [(.pointer (some ⟨p, 0, none⟩)), (.int .i64 x), (.int .i64 k)] ((Blk p [(.pointer (some ⟨q, 0, none⟩))] 37) :: (HeapO q n ks) :: R)
      (fun v M => v = .int .i64 (pushE (remK ks x) x) ∧ M = Blk p [.pointer (some ⟨q, 0, none⟩)] 37 :: HeapO q n (pushK (remK ks x) x k) :: R) := by
  refine ok_of (N := 18) Try.func12 rfl rfl rfl (fun W => ?_)
  refine c_seq (fun K1 hK1 => ?_)
  refine c_region ?_
  refine tp rfl (lv_assign rfl) ?_
  refine t_done ?_
  refine q_then_n (hK1 _ _ ?_)
  refine c_seq (fun K2 hK2 => ?_)
  refine c_region ?_
  refine tp rfl (lv_move rfl) ?_
  refine tp rfl (lv_move rfl) ?_
  refine t_f1 ?_
  refine t_f1 ?_
  refine tc rfl (en_fn Try.call13 rfl) (tstop_ok (n := n) (ks := ks) x) ?_
  rintro _ _ ⟨rfl, rfl⟩
  refine t_done ?_
  refine q_then_n (hK2 _ _ ?_)
  refine c_seq (fun K3 hK3 => ?_)
  refine c_region ?_
  refine tp rfl (lv_move rfl) ?_
  refine tp rfl (lv_nilCheck rfl) ?_
  refine tp rfl (lv_fieldAddr (o' := 0) Try.underlying37 rfl Try.sizeOf35 rfl rfl) ?_
  refine tp rfl (lv_fieldAddr (o' := 0) Try.underlying35 rfl Try.sizeOf33 rfl rfl) ?_
  refine tp rfl (lv_load Try.isAgg33 rfl (gives_blk (.head _) rfl)) ?_
  refine tp rfl (lv_move rfl) ?_
  refine tp rfl (lv_move rfl) ?_
  refine t_f1 ?_
  refine tc rfl (en_fn Try.call24 rfl) (hpush_ok (n := n) (ks := remK ks x) x k) ?_
  rintro _ _ ⟨rfl, rfl⟩
  refine tp rfl (lv_assign rfl) ?_
  refine t_done ?_
  refine q_then_n (hK3 _ _ ?_)
  refine c_ret ?_
  refine t_f1 ?_
  refine q_ret rfl rfl ?_
  exact ⟨rfl, rfl⟩

theorem tnext_ok {R : List HP} {p q n : Nat} {ks : Ks} :
    Ok Try.prog 16 [(.pointer (some ⟨p, 0, none⟩))] ((Blk p [(.pointer (some ⟨q, 0, none⟩))] 37) :: (HeapO q n ks) :: R)
      (fun v M => v = .tuple #[.int .i64 (fstV ks), .bool (fstB ks)] ∧ M = Blk p [.pointer (some ⟨q, 0, none⟩)] 37 :: HeapO q n ks :: R) := by
  refine ok_of (N := 19) Try.func16 rfl rfl rfl (fun W => ?_)
  refine c_seq (fun K1 hK1 => ?_)
  refine c_region ?_
  refine tp rfl (lv_assign rfl) ?_
  refine tp rfl (lv_assign rfl) ?_
  refine t_done ?_
  refine q_then_n (hK1 _ _ ?_)
  refine c_seq (fun K2 hK2 => ?_)
  refine c_region ?_
  refine tp rfl (lv_move rfl) ?_
  refine tp rfl (lv_nilCheck rfl) ?_
  refine tp rfl (lv_fieldAddr (o' := 0) Try.underlying37 rfl Try.sizeOf35 rfl rfl) ?_
  refine tp rfl (lv_fieldAddr (o' := 0) Try.underlying35 rfl Try.sizeOf33 rfl rfl) ?_
  refine tp rfl (lv_load Try.isAgg33 rfl (gives_blk (.head _) rfl)) ?_
  refine t_f1 ?_
  refine tc rfl (en_fn Try.call27 rfl) (hfst_ok (n := n) (ks := ks) ) ?_
  rintro _ _ ⟨rfl, rfl⟩
  refine tp rfl (lv_move rfl) ?_
  refine tp rfl (lv_extract rfl rfl) ?_
  refine tp rfl (lv_extract rfl rfl) ?_
  refine tp rfl (lv_extract rfl rfl) ?_
  refine tp rfl (lv_assign rfl) ?_
  refine tp rfl (lv_assign rfl) ?_
  refine tp rfl (lv_assign rfl) ?_
  refine t_done ?_
  refine q_then_n (hK2 _ _ ?_)
  refine c_seq (fun K3 hK3 => ?_)
  refine c_region ?_
  refine tp rfl (lv_move rfl) ?_
  refine tp rfl (lv_move rfl) ?_
  refine tp rfl (lv_assign rfl) ?_
  refine tp rfl (lv_assign rfl) ?_
  refine t_done ?_
  refine q_then_n (hK3 _ _ ?_)
  refine c_ret ?_
  refine t_f1 ?_
  refine q_ret2 rfl rfl rfl ?_
  exact ⟨rfl, rfl⟩

theorem tat_ok {R : List HP} {p q n : Nat} {ks : Ks} (x : Int) :
    Ok Try.prog 21 [(.pointer (some ⟨p, 0, none⟩)), (.int .i64 x)] ((Blk p [(.pointer (some ⟨q, 0, none⟩))] 37) :: (HeapO q n ks) :: R)
      (fun v M => v = .tuple #[.int .i64 (keyK ks x), .bool (hasK ks x)] ∧ M = Blk p [.pointer (some ⟨q, 0, none⟩)] 37 :: HeapO q n ks :: R) := by
  refine ok_of (N := 15) Try.func21 rfl rfl rfl (fun W => ?_)
  refine c_seq (fun K1 hK1 => ?_)
  refine c_region ?_
  refine tp rfl (lv_assign rfl) ?_
  refine tp rfl (lv_assign rfl) ?_
  refine t_done ?_
  refine q_then_n (hK1 _ _ ?_)
  refine c_seq (fun K2 hK2 => ?_)
  refine c_region ?_
  refine tp rfl (lv_move rfl) ?_
  refine tp rfl (lv_nilCheck rfl) ?_
  refine tp rfl (lv_fieldAddr (o' := 0) Try.underlying37 rfl Try.sizeOf35 rfl rfl) ?_
  refine tp rfl (lv_fieldAddr (o' := 0) Try.underlying35 rfl Try.sizeOf33 rfl rfl) ?_
  refine tp rfl (lv_load Try.isAgg33 rfl (gives_blk (.head _) rfl)) ?_
  refine tp rfl (lv_move rfl) ?_
  refine t_f1 ?_
  refine tc rfl (en_fn Try.call28 rfl) (hkey_ok (n := n) (ks := ks) x) ?_
  rintro _ _ ⟨rfl, rfl⟩
  refine tp rfl (lv_extract rfl rfl) ?_
  refine tp rfl (lv_extract rfl rfl) ?_
  refine tp rfl (lv_assign rfl) ?_
  refine tp rfl (lv_assign rfl) ?_
  refine t_done ?_
  refine q_then_n (hK2 _ _ ?_)
  refine c_ret ?_
  refine t_f1 ?_
  refine q_ret2 rfl rfl rfl ?_
  exact ⟨rfl, rfl⟩

set_option maxHeartbeats 4000000 in
theorem tdue_ok {R : List HP} {p q n : Nat} {ks : Ks} (x : Int) :
    Ok Try.prog 14 [(.pointer (some ⟨p, 0, none⟩)), (.int .i64 x)] ((Blk p [(.pointer (some ⟨q, 0, none⟩))] 37) :: (HeapO q n ks) :: R)
      (OutSl 3 1 (dueL ks x).length (ints .i64 (dueL ks x)) (Blk p [.pointer (some ⟨q, 0, none⟩)] 37 :: HeapO q n (duR ks x) :: R)) := by
  refine ok_of (N := 37) Try.func14 rfl rfl rfl (fun W => ?_)
  refine t_f1 ?_
  refine t_learn (fun _ h => hfacts_of h) (fun hhf => ?_)
  obtain ⟨hln, hbig, hcn⟩ := hhf
  refine c_seq (fun K1 hK1 => ?_)
  refine c_region ?_
  refine tp rfl (lv_assign rfl) ?_
  refine t_done ?_
  refine q_then_n (hK1 _ _ ?_)
  refine c_block ?_
  refine t_sat (fun _ h => sat_nilsl 3 1 h) ?_
  refine c_loop (γ := (List Int) × (Ks) × (Option Addr) × (Nat)) (fun (l, k2, bt, ct) => dueL ks x = l ++ dueL k2 x ∧ duR ks x = duR k2 x ∧ l.length + cntK k2 = cntK ks ∧ SlOk bt l.length ∧ l.length ≤ ct) (fun (l, k2, bt, ct) => [(0, (.pointer (some ⟨p, 0, none⟩))), (1, (.int .i64 x)), (4, (.slice bt l.length ct))]) (fun (l, k2, bt, ct) => (SlV 3 1 (.slice bt l.length ct) l.length (ints .i64 l)) :: (HeapO q n k2) :: (Blk p [(.pointer (some ⟨q, 0, none⟩))] 37) :: R) (fun (l, k2, bt, ct) => cntK k2) ([], ks, none, 0) ⟨rfl, rfl, by simp, slok_none, Nat.le_refl _⟩ ⟨rfl, rfl, rfl, trivial⟩ (fun _ h => h) ?_
  rintro ⟨l, k2, bt, ct⟩ K2 hF hK2
  try dsimp only at hF hK2 ⊢
  obtain ⟨hd1, hd2, hd3, hok, hle⟩ := hF
  refine c_block ?_
  refine c_seq (fun K3 hK3 => ?_)
  refine c_region ?_
  refine tp rfl (lv_move rfl) ?_
  refine t_f1 ?_
  refine t_f2 ?_
  refine tc rfl (en_fn Try.call16 rfl) (tnext_ok (n := n) (ks := k2) ) ?_
  rintro _ _ ⟨rfl, rfl⟩
  refine tp rfl (lv_move rfl) ?_
  refine tp rfl (lv_extract rfl rfl) ?_
  refine tp rfl (lv_extract rfl rfl) ?_
  refine tp rfl (lv_assign rfl) ?_
  refine tp rfl (lv_assign rfl) ?_
  refine t_done ?_
  refine q_then_n (hK3 _ _ ?_)
  refine c_seq (fun K4 hK4 => ?_)
  refine c_seq (fun K5 hK5 => ?_)
  refine c_region ?_
  refine tp rfl (lv_move rfl) ?_
  refine tp rfl (lv_not (c := !(fstB k2)) rfl rfl) ?_
  refine tp rfl (lv_move rfl) ?_
  rcases hb1 : fstB k2 with _ | _
  · -- false
    refine t_skip rfl rfl rfl ?_
    refine t_skip rfl rfl rfl ?_
    refine t_skip rfl rfl rfl ?_
    refine tp rfl (lv_pick_t rfl rfl) ?_
    refine t_done ?_
    refine q_then_n (hK5 _ _ ?_)
    refine c_true rfl ?_
    refine c_seq (fun K6 hK6 => ?_)
    refine c_region ?_
    refine tp rfl (lv_move rfl) ?_
    refine tp rfl (lv_assign rfl) ?_
    refine t_done ?_
    refine q_then_n (hK6 _ _ ?_)
    refine c_ret ?_
    refine q_then_r ?_
    refine q_in_r ?_
    refine q_then_r ?_
    refine q_in_r ?_
    refine t_f1 ?_
    refine t_f1 ?_
    refine t_f2 ?_
    refine q_ret rfl rfl ?_
    have hdn : dueL k2 x = [] ∧ duR k2 x = k2 := due_no (fun hh => by first | (have := hh.2; omega) | (have := hh.1; simp_all))
    rw [hdn.1, List.append_nil] at hd1
    rw [hdn.2] at hd2
    exact ⟨bt, ct, by rw [hd1]; exact hok, by rw [hd1]; exact hle, by rw [hd1], by rw [hd1, hd2]⟩
  · -- true
    refine t_guard rfl rfl ?_
    refine tp rfl (lv_move rfl) ?_
    refine t_guard rfl rfl ?_
    refine tp rfl (lv_move rfl) ?_
    refine t_guard rfl rfl ?_
    by_cases h2 : (fstV k2) > x
    · -- yes
      refine tp rfl (lv_gtr rfl rfl (decide_eq_true h2)) ?_
      refine tp rfl (lv_pick_f rfl rfl) ?_
      refine t_done ?_
      refine q_then_n (hK5 _ _ ?_)
      refine c_true rfl ?_
      refine c_seq (fun K6 hK6 => ?_)
      refine c_region ?_
      refine tp rfl (lv_move rfl) ?_
      refine tp rfl (lv_assign rfl) ?_
      refine t_done ?_
      refine q_then_n (hK6 _ _ ?_)
      refine c_ret ?_
      refine q_then_r ?_
      refine q_in_r ?_
      refine q_then_r ?_
      refine q_in_r ?_
      refine t_f1 ?_
      refine t_f1 ?_
      refine t_f2 ?_
      refine q_ret rfl rfl ?_
      have hdn : dueL k2 x = [] ∧ duR k2 x = k2 := due_no (fun hh => by first | (have := hh.2; omega) | (have := hh.1; simp_all))
      rw [hdn.1, List.append_nil] at hd1
      rw [hdn.2] at hd2
      exact ⟨bt, ct, by rw [hd1]; exact hok, by rw [hd1]; exact hle, by rw [hd1], by rw [hd1, hd2]⟩
    · -- no
      refine tp rfl (lv_gtr rfl rfl (decide_eq_false h2)) ?_
      refine tp rfl (lv_pick_f rfl rfl) ?_
      refine t_done ?_
      refine q_then_n (hK5 _ _ ?_)
      refine c_false rfl ?_
      refine c_skip ?_
      refine q_then_n (hK4 _ _ ?_)
      refine c_seq (fun K6 hK6 => ?_)
      refine c_region ?_
      have hyb : fstB k2 = true := by assumption
      have hyv : fstV k2 ≤ x := by first | assumption | omega
      have hdy := due_yes ⟨hyb, hyv⟩
      have hcp := cnt_pop (fstB_pos.1 hyb)
      refine tp rfl (lv_move rfl) ?_
      refine tp rfl (lv_nilCheck rfl) ?_
      refine tp rfl (lv_fieldAddr (o' := 0) Try.underlying37 rfl Try.sizeOf35 rfl rfl) ?_
      refine tp rfl (lv_fieldAddr (o' := 0) Try.underlying35 rfl Try.sizeOf33 rfl rfl) ?_
      refine tp rfl (lv_load Try.isAgg33 rfl (gives_blk (.head _) rfl)) ?_
      refine t_f1 ?_
      refine tc rfl (en_fn Try.call26 rfl) (hpop_ok (n := n) (ks := k2) ) ?_
      rintro _ _ ⟨rfl, rfl⟩
      refine tp rfl (lv_move rfl) ?_
      refine tp rfl (lv_extract rfl rfl) ?_
      refine tp rfl (lv_extract rfl rfl) ?_
      refine tp rfl (lv_extract rfl rfl) ?_
      refine tp rfl (lv_assign rfl) ?_
      refine tp rfl (lv_assign rfl) ?_
      refine tp rfl (lv_assign rfl) ?_
      refine t_done ?_
      refine q_then_n (hK6 _ _ ?_)
      refine c_region ?_
      refine tp rfl (lv_move rfl) ?_
      refine tp rfl (lv_move rfl) ?_
      refine tm rfl (mv_buildSlice (cs := [(.int .i64 (fstI k2))]) Try.underlying30 Try.sizeOf3 Try.zeroValue3 (by decide) rfl rfl rfl rfl) ?_
      rintro _ _ ⟨bs3, cp4, hok5, hle6, rfl, rfl⟩
      refine t_f3 ?_
      refine tm rfl (mv_append (i := Try.t3) Try.underlying30 Try.type3 rfl rfl rfl (by decide) rfl rfl hok5 (by first | (simp; done) | (simp; omega)) (rd_sl (.tail _ (.head _))) (by simp [Value.oneCell']) (by rw [show Try.t3.bytes = 8 from rfl]; omega)) ?_
      rintro _ _ ⟨bs7, cp8, hok9, hle10, rfl, rfl⟩
      rw [show ints .i64 l ++ [(.int .i64 (fstI k2))] = ints .i64 (l ++ [fstI k2]) from ints_snoc _ _ _]
      rw [show l.length + 1 = (l ++ [fstI k2]).length from by simp] at hok9 hle10 ⊢
      refine tp rfl (lv_assign rfl) ?_
      refine t_done ?_
      refine q_in_n ?_
      refine q_then_n ?_
      refine t_f1 ?_
      refine t_drop ?_
      exact t_weak (by exact ⟨rfl, rfl, rfl, trivial⟩) ((hK2 (l ++ [fstI k2], popK k2, bs7, cp8) ⟨by dsimp only; rw [List.append_assoc, hd1, hdy.1]; rfl, by dsimp only; rw [hd2, hdy.2], by dsimp only; rw [List.length_append, List.length_singleton]; omega, hok9, hle10⟩ (by dsimp only; omega)))
end Go.Proofs.Ytombnfgkgcjihaa
