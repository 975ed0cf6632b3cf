/- Contracts of cycle: Order. -/
import Derived.Test.YtppgccafgfpkdaaDoorPa
import Derived.Test.YtppgccafgfpkdaaDoorCyc2
set_option maxRecDepth 100000
set_option linter.unusedVariables false
set_option linter.unusedSimpArgs false
namespace Go.Proofs.YtppgccafgfpkdaaDoor
open Go Go.Proofs Sp
theorem left_fill {N : Nat} {E : Es} {k : Nat} (hk : k < N) : ((leftL N E []).take k ++ List.replicate (N - k) 0).set k (((outs E (k : Int)).length : Nat) : Int) = (leftL N E []).take (k + 1) ++ List.replicate (N - (k + 1)) 0 := by
  have hl := leftL_len N E []
  have e : leftO E [] (k : Int) = (((outs E (k : Int)).length : Nat) : Int) := by
    unfold leftO; rw [if_neg (by simp)]; congr 2; exact List.filter_eq_self.2 (by simp)
  rw [take_succ_getD (by omega) 0, leftL_get hk, e, List.set_append, if_neg (by rw [List.length_take]; omega), List.length_take, show k - min k (leftL N E []).length = 0 by omega, show N - k = (N - (k + 1)) + 1 by omega, List.replicate_succ, List.set_cons_zero, List.append_assoc]; rfl
theorem left_start (N : Nat) (E : Es) : List.replicate N (0 : Int) = (leftL N E []).take 0 ++ List.replicate (N - 0) 0 := by simp
theorem left_end (N : Nat) (E : Es) : (leftL N E []).take N ++ List.replicate (N - N) 0 = leftL N E [] := by
  rw [Nat.sub_self, List.take_of_length_le (by rw [leftL_len]; omega)]; simp

set_option maxHeartbeats 4000000 in
theorem order_ok {R : List HP} {g N : Nat} {E : Es} :
    Ok Tryd.prog 13 [(.pointer (some ⟨g, 0, none⟩))] ((GraphO g N E) :: R)
      (fun v M => ∃ bs cp, SlOk bs (ordR N E).length ∧ (ordR N E).length ≤ cp ∧ v = .tuple #[.slice bs (ordR N E).length cp, .bool (ordB N E)] ∧ M = SlV 3 1 (.slice bs (ordR N E).length cp) (ordR N E).length (ints .i64 (ordR N E)) :: GraphO g N E :: R) := by
  refine ok_of (N := 66) Tryd.func13 rfl rfl rfl (fun W => ?_)
  refine t_learn (fun _ h => gok_of h) (fun hgok => ?_)
  have hsmall := hgok.small
  refine c_seq (fun K1 hK1 => ?_)
  refine c_region ?_
  refine tp rfl (lv_assign rfl) ?_
  refine tp rfl (lv_assign rfl) ?_
  refine t_done ?_
  refine q_then_n (hK1 _ _ ?_)
  refine c_scope (γ := (Nat) × (Option Addr) × (Nat) × (Option Addr) × (Nat)) (c := _) 0 (fun (m, bo, co, bf, cf) => m ≤ N ∧ (ordN N E m).length = m ∧ SlOk bo m ∧ m ≤ co ∧ SlOk bf N ∧ N ≤ cf) (fun (m, bo, co, bf, cf) => [(0, (.pointer (some ⟨g, 0, none⟩))), (4, (.slice bo m co)), (5, (.slice bf N cf))]) (fun (m, bo, co, bf, cf) => (SlV 3 1 (.slice bo m co) m (ints .i64 (ordN N E m))) :: (SlV 3 1 (.slice bf N cf) N (ints .i64 (leftL N E (ordN N E m)))) :: (GraphO g N E) :: R) (fun (m, bo, co, bf, cf) => N - m) rfl ?_ ?_
  · -- a pass
    rintro ⟨m, bo, co, bf, cf⟩ K2 hF hK2
    try dsimp only at hF hK2 ⊢
    obtain ⟨hm0, hm1, hok, hle, hokf, hlef⟩ := hF
    have hord := ordN_ok N E m
    have hll := leftL_len N E (ordN N E m)
    refine c_seq (fun K3 hK3 => ?_)
    refine c_seq (fun K4 hK4 => ?_)
    refine c_region ?_
    refine tp rfl (lv_move rfl) ?_
    refine tp rfl (lv_len Tryd.underlying33 rfl rfl) ?_
    refine tp rfl (lv_move rfl) ?_
    refine t_done ?_
    refine q_then_n (hK4 _ _ ?_)
    refine c_block ?_
    refine c_loop (γ := (Nat)) (fun (a : Nat) => a ≤ N ∧ ∀ x : Nat, x < a → ¬ freeB E (ordN N E m) (x : Int) = true) (fun (a : Nat) => [(0, (.pointer (some ⟨g, 0, none⟩))), (4, (.slice bo m co)), (5, (.slice bf N cf)), (28, (.int .i64 ((N : Nat) : Int))), (29, (.int .i64 ((a : Nat) : Int)))]) (fun (a : Nat) => (SlV 3 1 (.slice bo m co) m (ints .i64 (ordN N E m))) :: (SlV 3 1 (.slice bf N cf) N (ints .i64 (leftL N E (ordN N E m)))) :: (GraphO g N E) :: R) (fun (a : Nat) => N - a) (0) ⟨by omega, fun x hx => by omega⟩ ⟨rfl, rfl, rfl, rfl, rfl, trivial⟩ (fun _ h => h) ?_
    rintro a K5 hF hK5
    try dsimp only at hF hK5 ⊢
    obtain ⟨ha, hfr⟩ := hF
    refine c_seq (fun K6 hK6 => ?_)
    refine c_region ?_
    by_cases h1 : ((a : Nat) : Int) < ((N : Nat) : Int)
    · -- yes
      refine tp rfl (lv_lss rfl rfl (decide_eq_true h1)) ?_
      refine t_done ?_
      refine q_then_n (hK6 _ _ ?_)
      refine c_seq (fun K7 hK7 => ?_)
      refine c_true rfl ?_
      refine c_skip ?_
      refine q_then_n (hK7 _ _ ?_)
      refine c_seq (fun K8 hK8 => ?_)
      refine c_block ?_
      refine c_seq (fun K9 hK9 => ?_)
      refine c_region ?_
      refine tp rfl (lv_move rfl) ?_
      refine tp rfl (lv_assign rfl) ?_
      refine t_done ?_
      refine q_then_n (hK9 _ _ ?_)
      refine c_seq (fun K10 hK10 => ?_)
      refine c_region ?_
      refine tp rfl (lv_move rfl) ?_
      refine tp rfl (lv_move rfl) ?_
      refine tp rfl (lv_indexAddr (k' := a) Tryd.underlying33 Tryd.sizeOf3 rfl rfl hokf (by omega) (by omega) (by omega)) ?_
      refine tp rfl (lv_load Tryd.isAgg3 rfl (gives_sl (.tail _ (.head _)) (ints_get (by omega)))) ?_
      by_cases h2 : ((leftL N E (ordN N E m)).getD a 0) = 0
      · -- yes
        refine tp rfl (lv_eql rfl rfl (beq_iff_eq.2 h2)) ?_
        refine t_done ?_
        refine q_then_n (hK10 _ _ ?_)
        refine c_true rfl ?_
        refine c_seq (fun K11 hK11 => ?_)
        refine c_region ?_
        have hfa : freeB E (ordN N E m) ((a : Nat) : Int) = true := leftO_zero.1 (by rw [← leftL_get (N := N) (by omega)]; assumption)
        have hor := ordN_next (nextO_some (show a < N by omega) hfa hfr)
        have hml : m + 1 ≤ N := by have := (ordN_ok N E (m + 1)).le; rw [hor, List.length_append, hm1] at this; simpa using this
        refine tp rfl (lv_move rfl) ?_
        refine tp rfl (lv_move rfl) ?_
        refine tp rfl (lv_indexAddr (k' := a) Tryd.underlying33 Tryd.sizeOf3 rfl rfl hokf (by omega) (by omega) (by omega)) ?_
        refine t_f1 ?_
        refine ts (sv_sl Tryd.sizeOf3 rfl rfl rfl (by rw [ints_length]; omega) ints_set) ?_
        refine t_done ?_
        refine q_then_n (hK11 _ _ ?_)
        refine c_seq (fun K12 hK12 => ?_)
        refine c_region ?_
        refine tp rfl (lv_move rfl) ?_
        refine tp rfl (lv_move rfl) ?_
        refine tm rfl (mv_buildSlice (cs := [(.int .i64 ((a : Nat) : Int))]) Tryd.underlying33 Tryd.sizeOf3 Tryd.zeroValue3 (by decide) rfl rfl rfl rfl) ?_
        rintro _ _ ⟨bs3, cp4, hok5, hle6, rfl, rfl⟩
        refine t_f2 ?_
        refine tm rfl (mv_append (i := Tryd.t3) Tryd.underlying33 Tryd.type3 rfl rfl rfl (by decide) rfl rfl hok5 (by first | (simp; done) | (simp; omega)) (rd_sl (.tail _ (.head _))) (by simp [Value.oneCell']) (by rw [show Tryd.t3.bytes = 8 from rfl]; omega)) ?_
        rintro _ _ ⟨bs7, cp8, hok9, hle10, rfl, rfl⟩
        rw [show ints .i64 (ordN N E m) ++ [(.int .i64 ((a : Nat) : Int))] = ints .i64 ((ordN N E m) ++ [((a : Nat) : Int)]) from ints_snoc _ _ _]
        refine tp rfl (lv_assign rfl) ?_
        refine t_done ?_
        refine q_then_n (hK12 _ _ ?_)
        refine c_seq (fun K13 hK13 => ?_)
        refine c_seq (fun K14 hK14 => ?_)
        refine c_region ?_
        refine tp rfl (lv_move rfl) ?_
        refine tp rfl (lv_move rfl) ?_
        refine t_f3 ?_
        refine tc rfl (en_fn Tryd.call29 rfl) (in_ok (N := N) (es := E) ((a : Nat) : Int)) ?_
        rintro _ _ ⟨bs11, cp12, hok13, hle14, rfl, rfl⟩
        refine tp rfl (lv_len Tryd.underlying33 rfl rfl) ?_
        refine tp rfl (lv_move rfl) ?_
        refine t_done ?_
        refine q_then_n (hK14 _ _ ?_)
        refine c_block ?_
        refine t_f3 ?_
        refine t_drop ?_
        refine c_loop (γ := (Nat)) (fun (j : Nat) => j ≤ (inns E ((a : Nat) : Int)).length) (fun (j : Nat) => [(0, (.pointer (some ⟨g, 0, none⟩))), (4, (.slice bs7 (m + 1) cp8)), (5, (.slice bf N cf)), (7, (.int .i64 ((a : Nat) : Int))), (28, (.int .i64 ((N : Nat) : Int))), (29, (.int .i64 ((a : Nat) : Int))), (30, (.bool true)), (36, (.bool true)), (46, (.slice bs11 ((inns E ((a : Nat) : Int)).length) cp12)), (47, (.int .i64 (((inns E ((a : Nat) : Int)).length : Nat) : Int))), (48, (.int .i64 ((j : Nat) : Int)))]) (fun (j : Nat) => (SlV 3 1 (.slice bs11 ((inns E ((a : Nat) : Int)).length) cp12) ((inns E ((a : Nat) : Int)).length) (ints .i64 (inns E ((a : Nat) : Int)))) :: (GraphO g N E) :: (SlV 3 1 (.slice bs7 (m + 1) cp8) (m + 1) (ints .i64 ((ordN N E m) ++ [((a : Nat) : Int)]))) :: (SlV 3 1 (.slice bf N cf) N (ints .i64 (decL ((leftL N E (ordN N E m)).set a (-1)) ((inns E ((a : Nat) : Int)).take j)))) :: R) (fun (j : Nat) => (inns E ((a : Nat) : Int)).length - j) (0) (by omega) ⟨rfl, rfl, rfl, rfl, rfl, rfl, rfl, rfl, rfl, rfl, rfl, trivial⟩ (fun _ h => h) ?_
        rintro j K15 hF hK15
        try dsimp only at hF hK15 ⊢
        have hdl : (decL ((leftL N E (ordN N E m)).set a (-1)) ((inns E ((a : Nat) : Int)).take j)).length = N := by rw [decL_len, List.length_set]; omega
        have hjb : j < (inns E ((a : Nat) : Int)).length → 0 ≤ (inns E ((a : Nat) : Int)).getD j 0 ∧ (inns E ((a : Nat) : Int)).getD j 0 < N := fun hj' => hgok.inns_inn (a := ((a : Nat) : Int)) (by simp [List.getD, hj'])
        have hil := hgok.inns_le ((a : Nat) : Int)
        refine c_seq (fun K16 hK16 => ?_)
        refine c_region ?_
        by_cases h15 : ((j : Nat) : Int) < (((inns E ((a : Nat) : Int)).length : Nat) : Int)
        · -- yes
         refine tp rfl (lv_lss rfl rfl (decide_eq_true h15)) ?_
         refine t_done ?_
         refine q_then_n (hK16 _ _ ?_)
         refine c_seq (fun K17 hK17 => ?_)
         refine c_true rfl ?_
         refine c_skip ?_
         refine q_then_n (hK17 _ _ ?_)
         refine c_seq (fun K18 hK18 => ?_)
         refine c_block ?_
         refine c_seq (fun K19 hK19 => ?_)
         refine c_region ?_
         refine tp rfl (lv_indexAddr (k' := j) Tryd.underlying33 Tryd.sizeOf3 rfl rfl hok13 (by omega) (by omega) (by omega)) ?_
         refine tp rfl (lv_load Tryd.isAgg3 rfl (gives_sl (.head _) (ints_get (by omega)))) ?_
         refine tp rfl (lv_assign rfl) ?_
         refine t_done ?_
         refine q_then_n (hK19 _ _ ?_)
         refine c_region ?_
         refine tp rfl (lv_move rfl) ?_
         refine tp rfl (lv_move rfl) ?_
         refine tp rfl (lv_indexAddr (k' := ((inns E ((a : Nat) : Int)).getD j 0).toNat) Tryd.underlying33 Tryd.sizeOf3 rfl rfl hokf (by have := hjb (by omega); omega) (by have := hjb (by omega); omega) (by have := hjb (by omega); omega)) ?_
         refine tp rfl (lv_load Tryd.isAgg3 rfl (gives_sl (.tail _ (.tail _ (.tail _ (.head _)))) (ints_get (by have := hjb (by omega); omega)))) ?_
         refine tp rfl (lv_sub (c := (decL ((leftL N E (ordN N E m)).set a (-1)) ((inns E ((a : Nat) : Int)).take j)).getD ((inns E ((a : Nat) : Int)).getD j 0).toNat 0 - 1) rfl rfl (by have h1 := hjb (by omega); have h2 := decL_bd hgok (o := (ordN N E m)) a j ((inns E ((a : Nat) : Int)).getD j 0).toNat (by omega); exact wr_i64 (by omega) (by omega))) ?_
         refine tp rfl (lv_indexAddr (k' := ((inns E ((a : Nat) : Int)).getD j 0).toNat) Tryd.underlying33 Tryd.sizeOf3 rfl rfl hokf (by have := hjb (by omega); omega) (by have := hjb (by omega); omega) (by have := hjb (by omega); omega)) ?_
         refine t_f3 ?_
         refine ts (sv_sl Tryd.sizeOf3 rfl rfl rfl (by rw [ints_length]; have := hjb (by omega); omega) ints_set) ?_
         refine t_done ?_
         refine q_in_n ?_
         refine q_then_n (hK18 _ _ ?_)
         refine c_region ?_
         refine tp rfl (lv_add (c := ((j + 1 : Nat) : Int)) rfl rfl (wr_i64_succ (by omega))) ?_
         refine tp rfl (lv_move rfl) ?_
         refine t_done ?_
         refine q_then_n ?_
         refine t_f3 ?_
         refine t_f3 ?_
         refine t_f3 ?_
         rw [← decL_succ (show j < (inns E ((a : Nat) : Int)).length by omega)]
         exact t_weak (by exact ⟨rfl, rfl, rfl, rfl, rfl, rfl, rfl, rfl, rfl, rfl, rfl, trivial⟩) ((hK15 (j + 1) (by omega) (by omega)))
        · -- no
         refine tp rfl (lv_lss rfl rfl (decide_eq_false h15)) ?_
         refine t_done ?_
         refine q_then_n (hK16 _ _ ?_)
         refine c_seq (fun K17 hK17 => ?_)
         refine c_false rfl ?_
         refine c_exit ?_
         refine q_then_x ?_
         refine q_then_x ?_
         refine q_in_x ?_
         refine q_then_n (hK13 _ _ ?_)
         refine c_goto ?_
         refine q_in_g ?_
         refine q_then_g ?_
         refine q_then_g ?_
         refine q_in_g ?_
         refine q_then_g ?_
         refine q_jump_g ?_
         rw [show (inns E ((a : Nat) : Int)).take j = inns E ((a : Nat) : Int) from List.take_of_length_le (by omega), left_step hgok hord (by omega) hfa, ← hor]
         refine t_drop ?_
         refine t_f2 ?_
         refine t_f2 ?_
         exact t_weak (by exact ⟨rfl, rfl, rfl, trivial⟩) (hK2 (m + 1, bs7, cp8, bf, cf) ⟨by omega, by rw [hor, List.length_append, hm1]; rfl, hok9, hle10, hokf, hlef⟩ (by dsimp only; omega))
      · -- no
        refine tp rfl (lv_eql rfl rfl (beq_eq_false_iff_ne.2 h2)) ?_
        refine t_done ?_
        refine q_then_n (hK10 _ _ ?_)
        refine c_false rfl ?_
        refine c_skip ?_
        refine q_in_n ?_
        refine q_then_n (hK8 _ _ ?_)
        refine c_region ?_
        have hnf : ¬ freeB E (ordN N E m) ((a : Nat) : Int) = true := fun hh => by have := leftO_zero.2 hh; rw [← leftL_get (N := N) (by omega)] at this; exact absurd this ‹_›
        refine tp rfl (lv_add (c := ((a + 1 : Nat) : Int)) rfl rfl (wr_i64_succ (by omega))) ?_
        refine tp rfl (lv_move rfl) ?_
        refine t_done ?_
        refine q_then_n ?_
        exact t_weak (by exact ⟨rfl, rfl, rfl, rfl, rfl, trivial⟩) ((hK5 (a + 1) ⟨by omega, fun x hx hh => by by_cases e : x = a; (subst e; exact hnf hh); exact hfr x (by omega) hh⟩ (by omega)))
    · -- no
      refine tp rfl (lv_lss rfl rfl (decide_eq_false h1)) ?_
      refine t_done ?_
      refine q_then_n (hK6 _ _ ?_)
      refine c_seq (fun K7 hK7 => ?_)
      refine c_false rfl ?_
      refine c_exit ?_
      refine q_then_x ?_
      refine q_then_x ?_
      refine q_in_x ?_
      refine q_then_n (hK3 _ _ ?_)
      refine c_seq (fun K8 hK8 => ?_)
      refine c_seq (fun K9 hK9 => ?_)
      refine c_region ?_
      refine tp rfl (lv_move rfl) ?_
      refine tp rfl (lv_len Tryd.underlying33 rfl rfl) ?_
      refine tp rfl (lv_move rfl) ?_
      refine t_f2 ?_
      refine tc rfl (en_fn Tryd.call21 rfl) (n_ok) ?_
      rintro _ _ ⟨rfl, rfl⟩
      by_cases h16 : ((m : Nat) : Int) < ((N : Nat) : Int)
      · -- yes
        refine tp rfl (lv_lss rfl rfl (decide_eq_true h16)) ?_
        refine t_done ?_
        refine q_then_n (hK9 _ _ ?_)
        refine c_true rfl ?_
        refine c_seq (fun K10 hK10 => ?_)
        refine c_region ?_
        refine tp rfl (lv_assign rfl) ?_
        refine tp rfl (lv_assign rfl) ?_
        refine t_done ?_
        refine q_then_n (hK10 _ _ ?_)
        refine c_ret ?_
        refine q_then_r ?_
        refine q_jump_r ?_
        refine t_sat (fun _ h => sat_nilsl 3 1 h) ?_
        refine t_f2 ?_
        refine t_drop ?_
        refine t_f2 ?_
        refine t_drop ?_
        refine q_ret2 rfl rfl rfl ?_
        have hno : nextO N E (ordN N E m) = none := nextO_none fun x hx => hfr x (by omega)
        have hoL := ordL_stuck hm0 hno
        have hlN : (ordL N E).length = m := by rw [hoL]; exact hm1
        refine ⟨none, 0, ?_, ?_, ?_, ?_⟩
        · exact (by rw [show ordR N E = [] from if_neg (by omega)]; exact slok_none)
        · exact (by rw [show ordR N E = [] from if_neg (by omega)]; exact Nat.le_refl _)
        · rw [show ordR N E = [] from if_neg (by omega), show ordB N E = false from decide_eq_false (by omega)]; rfl
        · rw [show ordR N E = [] from if_neg (by omega)]; rfl
      · -- no
        refine tp rfl (lv_lss rfl rfl (decide_eq_false h16)) ?_
        refine t_done ?_
        refine q_then_n (hK9 _ _ ?_)
        refine c_false rfl ?_
        refine c_skip ?_
        refine q_then_n (hK8 _ _ ?_)
        refine c_seq (fun K10 hK10 => ?_)
        refine c_region ?_
        refine tp rfl (lv_move rfl) ?_
        refine tp rfl (lv_assign rfl) ?_
        refine tp rfl (lv_assign rfl) ?_
        refine t_done ?_
        refine q_then_n (hK10 _ _ ?_)
        refine c_ret ?_
        refine q_jump_r ?_
        refine t_f2 ?_
        refine t_drop ?_
        refine t_f1 ?_
        refine q_ret2 rfl rfl rfl ?_
        have hno : nextO N E (ordN N E m) = none := nextO_none fun x hx => hfr x (by omega)
        have hoL := ordL_stuck hm0 hno
        have hlN : (ordL N E).length = m := by rw [hoL]; exact hm1
        have hR : ordR N E = (ordN N E m) := by rw [show ordR N E = ordL N E from if_pos (by omega)]; exact hoL
        refine ⟨bo, co, ?_, ?_, ?_, ?_⟩
        · rw [hR, hm1]; exact hok
        · rw [hR, hm1]; exact hle
        · rw [hR, hm1, show ordB N E = true from decide_eq_true (by omega)]
        · rw [hR, hm1]
  · -- up to the label
    intro K0 hpass
    refine c_seq (fun K2 hK2 => ?_)
    refine c_region ?_
    refine tm rfl (mv_buildSlice (cs := []) Tryd.underlying33 Tryd.sizeOf3 Tryd.zeroValue3 (by decide) rfl rfl rfl rfl) ?_
    rintro _ _ ⟨bs17, cp18, hok19, hle20, rfl, rfl⟩
    refine tp rfl (lv_assign rfl) ?_
    refine t_done ?_
    refine q_then_n (hK2 _ _ ?_)
    refine c_seq (fun K3 hK3 => ?_)
    refine c_region ?_
    refine tp rfl (lv_move rfl) ?_
    refine t_f1 ?_
    refine tc rfl (en_fn Tryd.call21 rfl) (n_ok) ?_
    rintro _ _ ⟨rfl, rfl⟩
    refine tm rfl (mv_makeSlice (i := Tryd.t3) Tryd.underlying33 Tryd.type3 rfl rfl rfl rfl rfl (by omega) (by rw [show Tryd.t3.bytes = 8 from rfl]; omega) (by omega)) ?_
    rintro _ _ ⟨bs21, cp22, hok23, hle24, rfl, rfl⟩
    rw [ints_rep]
    refine tp rfl (lv_assign rfl) ?_
    refine t_done ?_
    refine q_then_n (hK3 _ _ ?_)
    refine c_seq (fun K4 hK4 => ?_)
    refine c_seq (fun K5 hK5 => ?_)
    refine c_region ?_
    refine tp rfl (lv_move rfl) ?_
    refine tp rfl (lv_len Tryd.underlying33 rfl rfl) ?_
    refine tp rfl (lv_move rfl) ?_
    refine t_done ?_
    refine q_then_n (hK5 _ _ ?_)
    refine c_block ?_
    rw [show List.replicate ((N : Nat) : Int).toNat (0 : Int) = (leftL N E []).take 0 ++ List.replicate (N - 0) 0 from left_start N E]
    refine c_loop (γ := (Nat)) (fun (k : Nat) => k ≤ N) (fun (k : Nat) => [(0, (.pointer (some ⟨g, 0, none⟩))), (2, (.slice none 0 0)), (3, (.bool false)), (4, (.slice bs17 0 cp18)), (5, (.slice bs21 N cp22)), (15, (.int .i64 ((N : Nat) : Int))), (16, (.int .i64 ((k : Nat) : Int)))]) (fun (k : Nat) => (SlV 3 1 (.slice bs21 N cp22) N (ints .i64 ((leftL N E []).take k ++ List.replicate (N - k) 0))) :: (GraphO g N E) :: (SlV 3 1 (.slice bs17 0 cp18) 0 []) :: R) (fun (k : Nat) => N - k) (0) (by omega) ⟨rfl, rfl, rfl, rfl, rfl, rfl, rfl, trivial⟩ (fun _ h => h) ?_
    rintro k K6 hF hK6
    try dsimp only at hF hK6 ⊢
    have hll := leftL_len N E []
    have hfl : ((leftL N E []).take k ++ List.replicate (N - k) 0).length = N := by rw [List.length_append, List.length_take, List.length_replicate]; omega
    have houl := hgok.outs_le ((k : Nat) : Int)
    refine c_seq (fun K7 hK7 => ?_)
    refine c_region ?_
    by_cases h25 : ((k : Nat) : Int) < ((N : Nat) : Int)
    · -- yes
      refine tp rfl (lv_lss rfl rfl (decide_eq_true h25)) ?_
      refine t_done ?_
      refine q_then_n (hK7 _ _ ?_)
      refine c_seq (fun K8 hK8 => ?_)
      refine c_true rfl ?_
      refine c_skip ?_
      refine q_then_n (hK8 _ _ ?_)
      refine c_seq (fun K9 hK9 => ?_)
      refine c_block ?_
      refine c_seq (fun K10 hK10 => ?_)
      refine c_region ?_
      refine tp rfl (lv_move rfl) ?_
      refine tp rfl (lv_assign rfl) ?_
      refine t_done ?_
      refine q_then_n (hK10 _ _ ?_)
      refine c_region ?_
      refine tp rfl (lv_move rfl) ?_
      refine tp rfl (lv_move rfl) ?_
      refine tp rfl (lv_move rfl) ?_
      refine tp rfl (lv_move rfl) ?_
      refine t_f1 ?_
      refine tc rfl (en_fn Tryd.call22 rfl) (out_ok (N := N) (es := E) ((k : Nat) : Int)) ?_
      rintro _ _ ⟨bs26, cp27, hok28, hle29, rfl, rfl⟩
      refine tp rfl (lv_len Tryd.underlying33 rfl rfl) ?_
      refine tp rfl (lv_indexAddr (k' := k) Tryd.underlying33 Tryd.sizeOf3 rfl rfl hok23 (by omega) (by omega) (by omega)) ?_
      refine t_f2 ?_
      refine ts (sv_sl Tryd.sizeOf3 rfl rfl rfl (by rw [ints_length]; omega) ints_set) ?_
      refine t_done ?_
      refine q_in_n ?_
      refine q_then_n (hK9 _ _ ?_)
      refine c_region ?_
      refine tp rfl (lv_add (c := ((k + 1 : Nat) : Int)) rfl rfl (wr_i64_succ (by omega))) ?_
      refine tp rfl (lv_move rfl) ?_
      refine t_done ?_
      refine q_then_n ?_
      refine t_f1 ?_
      refine t_drop ?_
      rw [left_fill (by omega)]
      exact t_weak (by exact ⟨rfl, rfl, rfl, rfl, rfl, rfl, rfl, trivial⟩) ((hK6 (k + 1) (by omega) (by omega)))
    · -- no
      refine tp rfl (lv_lss rfl rfl (decide_eq_false h25)) ?_
      refine t_done ?_
      refine q_then_n (hK7 _ _ ?_)
      refine c_seq (fun K8 hK8 => ?_)
      refine c_false rfl ?_
      refine c_exit ?_
      refine q_then_x ?_
      refine q_then_x ?_
      refine q_in_x ?_
      refine q_then_n (hK4 _ _ ?_)
      refine c_seq (fun K9 hK9 => ?_)
      refine c_label ?_
      refine q_then_n (hK9 _ _ ?_)
      refine t_f1 ?_
      refine t_f1 ?_
      refine t_f2 ?_
      rw [show (leftL N E []).take k ++ List.replicate (N - k) 0 = leftL N E (ordN N E 0) from by rw [show k = N by omega]; exact left_end N E]
      exact t_weak (by exact ⟨rfl, rfl, rfl, trivial⟩) (hpass (0, bs17, cp18, bs21, cp22) ⟨by omega, rfl, hok19, hle20, hok23, hle24⟩)
end Go.Proofs.YtppgccafgfpkdaaDoor
