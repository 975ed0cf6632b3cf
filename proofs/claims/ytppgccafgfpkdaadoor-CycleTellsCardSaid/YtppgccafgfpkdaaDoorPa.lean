/- Contracts of cycle: there, distances. -/
import Derived.Test.YtppgccafgfpkdaaDoorRa0
import Derived.Test.YtppgccafgfpkdaaDoorTls
import Derived.Test.YtppgccafgfpkdaaDoorCyc
import Derived.Test.YtppgccafgfpkdaaDoorVal2
set_option maxRecDepth 100000
set_option linter.unusedVariables false
set_option linter.unusedSimpArgs false
namespace Go.Proofs.YtppgccafgfpkdaaDoor
open Go Go.Proofs Sp
theorem cthere_ok {R : List HP} {g N : Nat} {es : Es} (a : Int) :
    Ok Tryd.prog 30 [(.pointer (some ⟨g, 0, none⟩)), (.int .i64 a)] ((GraphO g N es) :: R)
      (fun v M => v = .bool (valid N a) ∧ M = GraphO g N es :: R) := by
  refine ok_of (N := 13) Tryd.func30 rfl rfl rfl (fun W => ?_)
  refine c_seq (fun K1 hK1 => ?_)
  refine c_region ?_
  refine tp rfl (lv_assign rfl) ?_
  refine t_done ?_
  refine q_then_n (hK1 _ _ ?_)
  refine c_seq (fun K2 hK2 => ?_)
  refine c_region ?_
  refine tp rfl (lv_move rfl) ?_
  by_cases h1 : a ≥ 0
  · -- yes
    refine tp rfl (lv_geq rfl rfl (decide_eq_true h1)) ?_
    refine tp rfl (lv_move rfl) ?_
    refine t_guard rfl rfl ?_
    refine tp rfl (lv_move rfl) ?_
    refine t_guard rfl rfl ?_
    refine tp rfl (lv_move rfl) ?_
    refine t_guard rfl rfl ?_
    refine tc rfl (en_fn Tryd.call21 rfl) (n_ok) ?_
    rintro _ _ ⟨rfl, rfl⟩
    refine t_guard rfl rfl ?_
    refine tp rfl (lv_lss rfl rfl rfl) ?_
    refine tp rfl (lv_pick_t rfl rfl) ?_
    refine tp rfl (lv_assign rfl) ?_
    refine t_done ?_
    refine q_then_n (hK2 _ _ ?_)
    refine c_ret ?_
    refine q_ret rfl rfl ?_
    exact ⟨by first | (unfold valid; simp [*]; done) | (unfold valid; simp [*]; omega), rfl⟩
  · -- no
    refine tp rfl (lv_geq rfl rfl (decide_eq_false h1)) ?_
    refine tp rfl (lv_move rfl) ?_
    refine t_skip rfl rfl rfl ?_
    refine t_skip rfl rfl rfl ?_
    refine t_skip rfl rfl rfl ?_
    refine t_skip rfl rfl rfl ?_
    refine tp rfl (lv_pick_f rfl rfl) ?_
    refine tp rfl (lv_assign rfl) ?_
    refine t_done ?_
    refine q_then_n (hK2 _ _ ?_)
    refine c_ret ?_
    refine q_ret rfl rfl ?_
    exact ⟨by first | (unfold valid; simp [*]; done) | (unfold valid; simp [*]; omega), rfl⟩

set_option maxHeartbeats 4000000 in
theorem dist_ok {R : List HP} {g N : Nat} {E : Es} (to : Int) (ht : 0 ≤ to ∧ to < N) :
    Ok Tryd.prog 31 [(.pointer (some ⟨g, 0, none⟩)), (.int .i64 to)] ((GraphO g N E) :: R)
      (OutSl 3 1 N (ints .i64 (farL N E to)) (GraphO g N E :: R)) := by
  refine ok_of (N := 54) Tryd.func31 rfl rfl rfl (fun W => ?_)
  refine t_learn (fun _ h => gok_of h) (fun hgok => ?_)
  have hsmall := hgok.small
  refine c_seq (fun K1 hK1 => ?_)
  refine c_region ?_
  refine tp rfl (lv_assign rfl) ?_
  refine t_done ?_
  refine q_then_n (hK1 _ _ ?_)
  refine c_seq (fun K2 hK2 => ?_)
  refine c_region ?_
  refine tm rfl (mv_buildSlice (cs := [(.int .i64 (-1))]) Tryd.underlying33 Tryd.sizeOf3 Tryd.zeroValue3 (by decide) rfl rfl rfl rfl) ?_
  rintro _ _ ⟨bs1, cp2, hok3, hle4, rfl, rfl⟩
  refine tp rfl (lv_move rfl) ?_
  refine t_f1 ?_
  refine tc rfl (en_fn Tryd.call21 rfl) (n_ok) ?_
  rintro _ _ ⟨rfl, rfl⟩
  refine tc rfl (en_fn Tryd.call44 rfl) (repeat_ok (-1) N (by omega) (rd_sl (.tail _ (.head _))) (fun _ => (fun hz => hok3 (by first | exact hz | omega)) (by omega))) ?_
  rintro _ _ ⟨bs5, cp6, hok7, hle8, rfl, rfl⟩
  refine tp rfl (lv_assign rfl) ?_
  refine t_done ?_
  refine q_then_n (hK2 _ _ ?_)
  refine c_seq (fun K3 hK3 => ?_)
  refine c_region ?_
  refine tp rfl (lv_move rfl) ?_
  refine tp rfl (lv_move rfl) ?_
  refine tp rfl (lv_indexAddr (k' := to.toNat) Tryd.underlying33 Tryd.sizeOf3 rfl rfl hok7 (by omega) (by omega) (by omega)) ?_
  refine ts (sv_sl Tryd.sizeOf3 rfl rfl rfl (by rw [ints_length, List.length_replicate]; omega) ints_set) ?_
  refine t_done ?_
  refine q_then_n (hK3 _ _ ?_)
  refine c_seq (fun K4 hK4 => ?_)
  refine c_seq (fun K5 hK5 => ?_)
  refine c_region ?_
  refine tp rfl (lv_move rfl) ?_
  refine tm rfl (mv_buildSlice (cs := [(.int .i64 to)]) Tryd.underlying33 Tryd.sizeOf3 Tryd.zeroValue3 (by decide) rfl rfl rfl rfl) ?_
  rintro _ _ ⟨bs9, cp10, hok11, hle12, rfl, rfl⟩
  refine tp rfl (lv_assign rfl) ?_
  refine t_done ?_
  refine q_then_n (hK5 _ _ ?_)
  refine c_block ?_
  rw [show [Value.int .i64 to] = ints .i64 [to] from rfl]
  refine t_sat (fun _ h => slv_slt h) ?_
  show Tri _ _ _ _ (SlT 3 1 (.slice bs9 ([to] : List Int).length cp10) ([to] : List Int).length (ints .i64 [to]) :: _)
  refine t_f3 ?_
  refine t_drop ?_
  refine c_loop (γ := (List Int) × (List Int) × (Option Addr) × (Nat)) (fun (far, ql, bl, cl) => Bfs N E to far ql ∧ BLt N far ∧ SlOk bl ql.length ∧ ql.length ≤ cl ∧ negN far + ql.length ≤ N) (fun (far, ql, bl, cl) => [(0, (.pointer (some ⟨g, 0, none⟩))), (1, (.int .i64 to)), (4, (.slice none 0 0)), (5, (.slice bs5 N cp6)), (6, (.slice bl ql.length cl))]) (fun (far, ql, bl, cl) => (SlT 3 1 (.slice bl ql.length cl) ql.length (ints .i64 ql)) :: (SlV 3 1 (.slice bs5 N cp6) N (ints .i64 far)) :: (GraphO g N E) :: R) (fun (far, ql, bl, cl) => negN far + ql.length) ((List.replicate N (-1)).set to.toNat 0, [to], bs9, cp10) ⟨Bfs.start hgok ht, BLt.start ht, hok11, hle12, by rw [negN_start ht]; show N - 1 + 1 ≤ N; omega⟩ ⟨rfl, rfl, rfl, rfl, rfl, trivial⟩ (fun _ h => h) ?_
  rintro ⟨far, ql, bl, cl⟩ K6 hF hK6
  try dsimp only at hF hK6 ⊢
  obtain ⟨hb, hlt, hok, hle, hsz⟩ := hF
  have hfl := hb.len
  refine c_seq (fun K7 hK7 => ?_)
  refine c_seq (fun K8 hK8 => ?_)
  refine c_region ?_
  refine tp rfl (lv_move rfl) ?_
  refine tp rfl (lv_len Tryd.underlying33 rfl rfl) ?_
  by_cases h13 : ((ql.length : Nat) : Int) > 0
  · -- yes
    refine tp rfl (lv_gtr rfl rfl (decide_eq_true h13)) ?_
    refine t_done ?_
    refine q_then_n (hK8 _ _ ?_)
    refine c_true rfl ?_
    refine c_skip ?_
    refine q_then_n (hK7 _ _ ?_)
    refine c_seq (fun K9 hK9 => ?_)
    refine c_block ?_
    refine c_seq (fun K10 hK10 => ?_)
    refine c_region ?_
    obtain ⟨h0, qr, rfl⟩ : ∃ a r, ql = a :: r := by cases ql with | nil => exact absurd ‹_› (by simp) | cons a r => exact ⟨a, r, rfl⟩
    have hh0 := hb.inn h0 (List.mem_cons_self ..)
    refine tp rfl (lv_move rfl) ?_
    refine tp rfl (lv_move rfl) ?_
    refine tp rfl (lv_indexAddr (k' := 0) Tryd.underlying33 Tryd.sizeOf3 rfl rfl hok (by omega) (by omega) (by omega)) ?_
    refine tp rfl (lv_load Tryd.isAgg3 rfl (gives_as (v := .int .i64 h0) rfl (gives_slt (.head _) (ints_get (by first | omega | (simp; omega)))))) ?_
    refine t_f2 ?_
    refine tc rfl (en_fn Tryd.call29 rfl) (in_ok (N := N) (es := E) h0) ?_
    rintro _ _ ⟨bs14, cp15, hok16, hle17, rfl, rfl⟩
    refine tp rfl (lv_len Tryd.underlying33 rfl rfl) ?_
    refine tp rfl (lv_move rfl) ?_
    refine t_done ?_
    refine q_then_n (hK10 _ _ ?_)
    refine c_block ?_
    refine c_loop (γ := (Nat) × (Option Addr) × (Nat)) (fun (j, bm, cm) => j ≤ (inns E h0).length ∧ SlOk bm (relaxL h0 ((inns E h0).take j) (far, h0 :: qr)).2.length ∧ (relaxL h0 ((inns E h0).take j) (far, h0 :: qr)).2.length ≤ cm) (fun (j, bm, cm) => [(0, (.pointer (some ⟨g, 0, none⟩))), (1, (.int .i64 to)), (4, (.slice none 0 0)), (5, (.slice bs5 N cp6)), (6, (.slice bm ((relaxL h0 ((inns E h0).take j) (far, h0 :: qr)).2.length) cm)), (20, (.bool true)), (27, (.slice bs14 ((inns E h0).length) cp15)), (28, (.int .i64 (((inns E h0).length : Nat) : Int))), (29, (.int .i64 ((j : Nat) : Int)))]) (fun (j, bm, cm) => (SlV 3 1 (.slice bs14 ((inns E h0).length) cp15) ((inns E h0).length) (ints .i64 (inns E h0))) :: (GraphO g N E) :: (SlT 3 1 (.slice bm ((relaxL h0 ((inns E h0).take j) (far, h0 :: qr)).2.length) cm) ((relaxL h0 ((inns E h0).take j) (far, h0 :: qr)).2.length) (ints .i64 ((relaxL h0 ((inns E h0).take j) (far, h0 :: qr)).2))) :: (SlV 3 1 (.slice bs5 N cp6) N (ints .i64 ((relaxL h0 ((inns E h0).take j) (far, h0 :: qr)).1))) :: R) (fun (j, bm, cm) => (inns E h0).length - j) (0, bl, cl) ⟨by omega, hok, hle⟩ ⟨rfl, rfl, rfl, rfl, rfl, rfl, rfl, rfl, rfl, trivial⟩ (fun _ h => h) ?_
    rintro ⟨j, bm, cm⟩ K11 hF hK11
    try dsimp only at hF hK11 ⊢
    obtain ⟨hj, hokm, hlem⟩ := hF
    have hm := hb.mids hgok ht j
    have hfl2 := hm.len
    have hil := hgok.inns_le h0
    have hjb : j < (inns E h0).length → 0 ≤ (inns E h0).getD j 0 ∧ (inns E h0).getD j 0 < N := fun hj' => hgok.inns_inn (a := h0) (by simp [List.getD, hj'])
    obtain ⟨qs, hqs⟩ := hm.hd
    have hql : (relaxL h0 ((inns E h0).take j) (far, h0 :: qr)).2.length = qs.length + 1 := by rw [hqs]; rfl
    have hcn0 := relaxL_cnt hb hgok ht j
    have hng : negN far ≤ N := by unfold negN; rw [← hfl]; exact List.countP_le_length
    have hbt := hlt.mids hb hgok ht j
    have hbh := hbt h0.toNat (by omega)
    have hh1 := (hm.inn h0 (by rw [hqs]; exact List.mem_cons_self ..)).2.2
    rw [List.length_cons] at hcn0 hsz
    refine c_seq (fun K12 hK12 => ?_)
    refine c_region ?_
    by_cases h18 : ((j : Nat) : Int) < (((inns E h0).length : Nat) : Int)
    · -- yes
      refine tp rfl (lv_lss rfl rfl (decide_eq_true h18)) ?_
      refine t_done ?_
      refine q_then_n (hK12 _ _ ?_)
      refine c_seq (fun K13 hK13 => ?_)
      refine c_true rfl ?_
      refine c_skip ?_
      refine q_then_n (hK13 _ _ ?_)
      refine c_seq (fun K14 hK14 => ?_)
      refine c_block ?_
      refine c_seq (fun K15 hK15 => ?_)
      refine c_region ?_
      refine tp rfl (lv_indexAddr (k' := j) Tryd.underlying33 Tryd.sizeOf3 rfl rfl hok16 (by omega) (by omega) (by omega)) ?_
      refine tp rfl (lv_load Tryd.isAgg3 rfl (gives_sl (.head _) (ints_get (by omega)))) ?_
      refine tp rfl (lv_assign rfl) ?_
      refine t_done ?_
      refine q_then_n (hK15 _ _ ?_)
      refine c_seq (fun K16 hK16 => ?_)
      refine c_region ?_
      refine tp rfl (lv_move rfl) ?_
      refine tp rfl (lv_move rfl) ?_
      refine tp rfl (lv_indexAddr (k' := ((inns E h0).getD j 0).toNat) Tryd.underlying33 Tryd.sizeOf3 rfl rfl hok7 (by have := hjb (by omega); omega) (by have := hjb (by omega); omega) (by have := hjb (by omega); omega)) ?_
      refine tp rfl (lv_load Tryd.isAgg3 rfl (gives_sl (.tail _ (.tail _ (.tail _ (.head _)))) (ints_get (by have := hjb (by omega); omega)))) ?_
      by_cases h19 : (((relaxL h0 ((inns E h0).take j) (far, h0 :: qr)).1).getD (((inns E h0).getD j 0).toNat) 0) < 0
      · -- yes
        refine tp rfl (lv_lss rfl rfl (decide_eq_true h19)) ?_
        refine t_done ?_
        refine q_then_n (hK16 _ _ ?_)
        refine c_true rfl ?_
        refine c_seq (fun K17 hK17 => ?_)
        refine c_region ?_
        refine tp rfl (lv_move rfl) ?_
        refine tp rfl (lv_move rfl) ?_
        refine tp rfl (lv_move rfl) ?_
        refine tp rfl (lv_move rfl) ?_
        refine tp rfl (lv_indexAddr (k' := 0) Tryd.underlying33 Tryd.sizeOf3 rfl rfl hokm (by omega) (by omega) (by omega)) ?_
        refine tp rfl (lv_load Tryd.isAgg3 rfl (gives_as (v := .int .i64 h0) (by rw [hqs]; rfl) (gives_slt (.tail _ (.tail _ (.head _))) (ints_get (by first | omega | (simp; omega)))))) ?_
        refine tp rfl (lv_indexAddr (k' := h0.toNat) Tryd.underlying33 Tryd.sizeOf3 rfl rfl hok7 (by omega) (by omega) (by omega)) ?_
        refine tp rfl (lv_load Tryd.isAgg3 rfl (gives_sl (.tail _ (.tail _ (.tail _ (.head _)))) (ints_get (by omega)))) ?_
        refine tp rfl (lv_add (c := (((relaxL h0 ((inns E h0).take j) (far, h0 :: qr)).1).getD h0.toNat 0) + 1) rfl rfl (wr_i64 (by omega) (by omega))) ?_
        refine tp rfl (lv_indexAddr (k' := ((inns E h0).getD j 0).toNat) Tryd.underlying33 Tryd.sizeOf3 rfl rfl hok7 (by have := hjb (by omega); omega) (by have := hjb (by omega); omega) (by have := hjb (by omega); omega)) ?_
        refine t_f3 ?_
        refine ts (sv_sl Tryd.sizeOf3 rfl rfl rfl (by rw [ints_length]; have := hjb (by omega); omega) ints_set) ?_
        refine t_done ?_
        refine q_then_n (hK17 _ _ ?_)
        refine c_region ?_
        refine tp rfl (lv_move rfl) ?_
        refine tp rfl (lv_move rfl) ?_
        refine tm rfl (mv_buildSlice (cs := [(.int .i64 ((inns E h0).getD j 0))]) Tryd.underlying33 Tryd.sizeOf3 Tryd.zeroValue3 (by decide) rfl rfl rfl rfl) ?_
        rintro _ _ ⟨bs20, cp21, hok22, hle23, rfl, rfl⟩
        refine t_f4 ?_
        refine tm rfl (mv_appendT (i := Tryd.t3) Tryd.underlying33 Tryd.type3 rfl rfl rfl (by decide) rfl rfl hok22 (by first | (simp; done) | (simp; omega)) (rd_sl (.tail _ (.head _))) (by simp [Value.oneCell']) (by rw [show Tryd.t3.bytes = 8 from rfl]; omega)) ?_
        rintro _ _ ⟨bs24, cp25, hok26, hle27, rfl, rfl⟩
        rw [show ints .i64 ((relaxL h0 ((inns E h0).take j) (far, h0 :: qr)).2) ++ [(.int .i64 ((inns E h0).getD j 0))] = ints .i64 (((relaxL h0 ((inns E h0).take j) (far, h0 :: qr)).2) ++ [(inns E h0).getD j 0]) from ints_snoc _ _ _]
        refine tp rfl (lv_assign rfl) ?_
        refine t_done ?_
        refine q_in_n ?_
        refine q_then_n (hK14 _ _ ?_)
        refine c_region ?_
        refine tp rfl (lv_add (c := ((j + 1 : Nat) : Int)) rfl rfl (wr_i64_succ (by omega))) ?_
        refine tp rfl (lv_move rfl) ?_
        refine t_done ?_
        refine q_then_n ?_
        refine t_f1 ?_
        refine t_drop ?_
        refine t_f1 ?_
        refine t_f1 ?_
        refine t_f3 ?_
        refine t_f3 ?_
        obtain ⟨hy1, hy2⟩ := relax_y (h := h0) (far := far) (l := h0 :: qr) (show j < (inns E h0).length by omega) h19
        have hyl : ((relaxL h0 ((inns E h0).take j) (far, h0 :: qr)).2.length) + 1 = (relaxL h0 ((inns E h0).take (j + 1)) (far, h0 :: qr)).2.length := by rw [hy2, List.length_append]; rfl
        rw [← hy1, ← hy2, hyl]
        rw [hyl] at hok26 hle27
        exact t_weak (by exact ⟨rfl, rfl, rfl, rfl, rfl, rfl, rfl, rfl, rfl, trivial⟩) ((hK11 (j + 1, bs24, cp25) ⟨by omega, hok26, hle27⟩ (by dsimp only; omega)))
      · -- no
        refine tp rfl (lv_lss rfl rfl (decide_eq_false h19)) ?_
        refine t_done ?_
        refine q_then_n (hK16 _ _ ?_)
        refine c_false rfl ?_
        refine c_skip ?_
        refine q_in_n ?_
        refine q_then_n (hK14 _ _ ?_)
        refine c_region ?_
        refine tp rfl (lv_add (c := ((j + 1 : Nat) : Int)) rfl rfl (wr_i64_succ (by omega))) ?_
        refine tp rfl (lv_move rfl) ?_
        refine t_done ?_
        refine q_then_n ?_
        have hy := relax_n (h := h0) (far := far) (l := h0 :: qr) (show j < (inns E h0).length by omega) h19
        rw [← hy] at hokm hlem ⊢
        exact t_weak (by exact ⟨rfl, rfl, rfl, rfl, rfl, rfl, rfl, rfl, rfl, trivial⟩) ((hK11 (j + 1, bm, cm) ⟨by omega, hokm, hlem⟩ (by dsimp only; omega)))
    · -- no
      refine tp rfl (lv_lss rfl rfl (decide_eq_false h18)) ?_
      refine t_done ?_
      refine q_then_n (hK12 _ _ ?_)
      refine c_seq (fun K13 hK13 => ?_)
      refine c_false rfl ?_
      refine c_exit ?_
      refine q_then_x ?_
      refine q_then_x ?_
      refine q_in_x ?_
      refine q_in_n ?_
      refine q_then_n (hK9 _ _ ?_)
      refine c_region ?_
      refine tp rfl (lv_move rfl) ?_
      refine tp rfl (lv_slice (l := 1) (h := (relaxL h0 ((inns E h0).take j) (far, h0 :: qr)).2.length) (m := cm) (v := (.slice (sbase bm 1 cm 1) (((relaxL h0 ((inns E h0).take j) (far, h0 :: qr)).2.length) - 1) (cm - 1))) Tryd.underlying33 Tryd.sizeOf3 rfl rfl rfl rfl (.inr ⟨rfl, rfl⟩) (.inr ⟨rfl, rfl⟩) (.inl ⟨_, _, rfl, (by omega), (by omega), (by omega)⟩) (by simp) rfl) ?_
      refine t_f2 ?_
      refine t_sat (fun _ h => slt_tail (l := 1) (n' := ((relaxL h0 ((inns E h0).take j) (far, h0 :: qr)).2.length) - 1) (c' := cm - 1) (by omega) (by omega) (by omega) (by omega) h) ?_
      rw [show (ints .i64 ((relaxL h0 ((inns E h0).take j) (far, h0 :: qr)).2)).drop (1 * 1) = ints .i64 (((relaxL h0 ((inns E h0).take j) (far, h0 :: qr)).2).drop 1) from by rw [Nat.mul_one, ints_drop]]
      refine t_learn (fun _ h => slt_facts h) (fun hbx => ?_)
      obtain ⟨hok28, hle29⟩ := hbx
      refine tp rfl (lv_assign rfl) ?_
      refine t_done ?_
      refine q_then_n ?_
      refine t_f1 ?_
      refine t_drop ?_
      refine t_f1 ?_
      refine t_f2 ?_
      refine t_f2 ?_
      have hln : ((relaxL h0 ((inns E h0).take j) (far, h0 :: qr)).2.length) - 1 = (((relaxL h0 ((inns E h0).take j) (far, h0 :: qr)).2).drop 1).length := by rw [List.length_drop]
      rw [hln] at hok28 hle29 ⊢
      have hcn := relaxL_cnt hb hgok ht j
      have hbn := hlt.mids hb hgok ht j
      have hmn := hb.mids hgok ht j
      rw [show (inns E h0).take j = inns E h0 from List.take_of_length_le (by omega)] at hcn hbn hmn hln hql hok28 hle29 ⊢
      exact t_weak (by exact ⟨rfl, rfl, rfl, rfl, rfl, trivial⟩) ((hK6 ((relaxL h0 (inns E h0) (far, h0 :: qr)).1, ((relaxL h0 (inns E h0) (far, h0 :: qr)).2).drop 1, (sbase bm 1 cm 1), cm - 1) ⟨by rw [List.drop_one]; exact hmn.bfs hgok, hbn, hok28, hle29, by dsimp only; rw [List.length_drop]; rw [List.length_cons] at hcn; omega⟩ (by dsimp only; rw [List.length_drop]; rw [List.length_cons] at hcn ⊢; omega)))
  · -- no
    refine tp rfl (lv_gtr rfl rfl (decide_eq_false h13)) ?_
    refine t_done ?_
    refine q_then_n (hK8 _ _ ?_)
    refine c_false rfl ?_
    refine c_exit ?_
    refine q_then_x ?_
    refine q_then_x ?_
    refine q_in_x ?_
    refine q_then_n (hK4 _ _ ?_)
    refine c_seq (fun K9 hK9 => ?_)
    refine c_region ?_
    refine tp rfl (lv_move rfl) ?_
    refine tp rfl (lv_assign rfl) ?_
    refine t_done ?_
    refine q_then_n (hK9 _ _ ?_)
    refine c_ret ?_
    refine t_drop ?_
    refine q_ret rfl rfl ?_
    obtain rfl : ql = [] := by cases ql with | nil => rfl | cons a r => exact absurd ‹_› (by simp)
    rw [hb.end_ hgok ht]
    exact ⟨_, _, hok7, hle8, rfl, rfl⟩
end Go.Proofs.YtppgccafgfpkdaaDoor
