/- VerdictRow: the law's walk. -/
import Derived.Test.YtljnaefaahphaaaLa
import Derived.Test.YtljnaefaahphaaaVde
set_option maxRecDepth 100000
set_option linter.unusedVariables false
set_option linter.unusedSimpArgs false
namespace Go.Proofs.Ytljnaefaahphaaa
open Go Go.Proofs Sp
set_option maxHeartbeats 4000000 in
theorem row_law {R : List HP} {bw : Option Addr} {cw : Nat} (ow : List Int) (hrw : Rd R bw (ints .u8 ow)) (okw : SlOk bw ow.length) (hgw : ∀ x ∈ ow, 0 ≤ x ∧ x ≤ 255) (lw : ow.length ≤ 9223372036854775807) :
    Ok Try.prog 6 [(.slice bw ow.length cw)] R
      (fun v M => v = .bool true ∧ M = R) := by
 obtain ⟨n0, hn0⟩ : ∃ n0 : Nat, n0 = min ow.length 64 := ⟨_, rfl⟩
 refine ok_of (N := 75) Try.func6 rfl rfl rfl (fun W => ?_)
 refine c_seq (fun K1 hK1 => ?_)
 refine c_region ?_
 refine tp rfl (lv_assign rfl) ?_
 refine t_done ?_
 refine q_then_n (hK1 _ _ ?_)
 refine c_seq (fun K2 hK2 => ?_)
 refine c_region ?_
 refine tc rfl (en_fn Try.call9 rfl) (shown_ok) ?_
 rintro _ _ ⟨rfl, hMR⟩
 rw [hMR]; clear hMR
 refine tp rfl (lv_assign rfl) ?_
 refine t_done ?_
 refine q_then_n (hK2 _ _ ?_)
 refine c_seq (fun K3 hK3 => ?_)
 refine c_region ?_
 refine tp rfl (lv_move rfl) ?_
 refine tp rfl (lv_len Try.underlying35 rfl rfl) ?_
 refine tp rfl (lv_min (c := ((n0 : Nat) : Int)) rfl rfl (by omega)) ?_
 refine tp rfl (lv_assign rfl) ?_
 refine t_done ?_
 refine q_then_n (hK3 _ _ ?_)
 refine c_seq (fun K4 hK4 => ?_)
 refine c_region ?_
 refine tp rfl (lv_move rfl) ?_
 refine tp rfl (lv_move rfl) ?_
 refine tc rfl (en_fn Try.call14 rfl) (made_ok ((n0 : Nat) : Int) (N := n0) (by omega) [] ow rd_nil slok_none hrw okw (fun _ h => by cases h) hgw (by simp) (by omega)) ?_
 rintro _ _ ⟨bE, cE, bEo, cEo, vsE, ⟨hokE, hleE, hokEo, hleEo, hvlE⟩, rfl, rfl⟩
 refine tm rfl (mv_alloc Try.zeroValue25 rfl) ?_
 rintro _ _ ⟨b1, rfl, rfl⟩
 refine ts (sv_blkAgg (news := [(.int .i64 ((n0 : Nat) : Int)), (.slice bE n0 cE), (.slice bEo n0 cEo)]) Try.sizeOf25 rfl rfl rfl rfl (Nat.le_of_ble_eq_true rfl) rfl) ?_
 refine t_done ?_
 refine q_then_n (hK4 _ _ ?_)
 refine c_seq (fun K5 hK5 => ?_)
 refine c_seq (fun K6 hK6 => ?_)
 refine c_region ?_
 rw [show madeG n0 ([].take 200) = rowE n0 0 from rowE_zero n0 200]
 refine tp rfl (lv_assign rfl) ?_
 refine t_done ?_
 refine q_then_n (hK6 _ _ ?_)
 refine c_block ?_
 refine c_loop (γ := (Nat) × (List Value)) (fun (i, vs) => i ≤ n0 - 1 ∧ vs.length = n0) (fun (i, vs) => [(0, (.slice bw ow.length cw)), (2, (.bool false)), (3, (.bool true)), (4, (.int .i64 ((n0 : Nat) : Int))), (5, (.pointer (some ⟨b1, 0, none⟩))), (6, (.int .i64 ((i : Nat) : Int)))]) (fun (i, vs) => (Blk b1 [(.int .i64 ((n0 : Nat) : Int)), (.slice bE n0 cE), (.slice bEo n0 cEo)] 25) :: (SlV 23 1 (.slice bE n0 cE) n0 vs) :: (SlV 3 1 (.slice bEo n0 cEo) n0 (ints .i64 (madeO n0 ow))) :: (Join (rowsL vs (rowE n0 i))) :: R) (fun (i, vs) => n0 - i) (0, vsE) ⟨by omega, hvlE⟩ ⟨rfl, rfl, rfl, rfl, rfl, rfl, trivial⟩ (fun _ h => h) ?_
 rintro ⟨i, vs⟩ K7 hF hK7
 try dsimp only at hF hK7 ⊢
 obtain ⟨hi, hvl⟩ := hF
 have hrl := rowE_len n0 i
 refine c_seq (fun K8 hK8 => ?_)
 refine c_seq (fun K9 hK9 => ?_)
 refine c_region ?_
 refine tp rfl (lv_move rfl) ?_
 refine tp rfl (lv_add (c := ((i + 1 : Nat) : Int)) rfl rfl (wr_i64_succ (by omega))) ?_
 refine tp rfl (lv_move rfl) ?_
 by_cases h2 : ((i + 1 : Nat) : Int) < ((n0 : Nat) : Int)
 · -- yes
  refine tp rfl (lv_lss rfl rfl (decide_eq_true h2)) ?_
  refine t_done ?_
  refine q_then_n (hK9 _ _ ?_)
  refine c_true rfl ?_
  refine c_skip ?_
  refine q_then_n (hK8 _ _ ?_)
  refine c_seq (fun K10 hK10 => ?_)
  refine c_block ?_
  refine c_region ?_
  refine tp rfl (lv_fieldAddr (o' := 1) Try.underlying25 rfl Try.sizeOf22 rfl rfl) ?_
  refine tp rfl (lv_load Try.isAgg22 rfl (gives_blk (.head _) rfl)) ?_
  refine tp rfl (lv_move rfl) ?_
  refine tp rfl (lv_move rfl) ?_
  refine tp rfl (lv_add (c := ((i + 1 : Nat) : Int)) rfl rfl (wr_i64_succ (by omega))) ?_
  refine tm rfl (mv_buildSlice (cs := [(.int .i64 ((i + 1 : Nat) : Int))]) Try.underlying23 Try.sizeOf3 Try.zeroValue3 (by decide) rfl rfl rfl rfl) ?_
  rintro _ _ ⟨bs3, cp4, hok5, hle6, rfl, rfl⟩
  refine tp rfl (lv_indexAddr (k' := i) Try.underlying22 Try.sizeOf23 rfl rfl hokE (by omega) (by omega) (by omega)) ?_
  refine t_f2 ?_
  refine ts (sv_sl Try.sizeOf23 rfl rfl rfl (by first | (simp; omega) | omega) rfl) ?_
  refine t_done ?_
  refine q_in_n ?_
  refine q_then_n (hK10 _ _ ?_)
  refine c_region ?_
  refine t_f4 ?_
  refine t_sat (fun _ h => h.takeRow (a := i) (by omega) (by omega)) ?_
  refine t_openI (fun ba ca hoka hlea hva => ?_)
  refine t_drop ?_
  refine t_f2 ?_
  refine t_sat (fun _ h => Sat.shutIn (xs := [((i + 1 : Nat) : Int)]) (by first | rfl | (simp; done)) hok5 hle6 h) ?_
  refine t_sat (fun _ h => h.putRow (by omega) (by omega)) ?_
  rw [show (rowE n0 i).set i ([((i + 1 : Nat) : Int)]) = rowE n0 (i + 1) from rowE_succ (by omega)]
  refine tp rfl (lv_move rfl) ?_
  refine tp rfl (lv_add (c := ((i + 1 : Nat) : Int)) rfl rfl (wr_i64_succ (by omega))) ?_
  refine tp rfl (lv_assign rfl) ?_
  refine t_done ?_
  refine q_then_n ?_
  refine t_f3 ?_
  refine t_f2 ?_
  refine t_f3 ?_
  exact t_weak (by exact ⟨rfl, rfl, rfl, rfl, rfl, rfl, trivial⟩) ((hK7 (i + 1, (vs).set i (.slice bs3 1 cp4)) ⟨by dsimp only; omega, by simpa using hvl⟩ (by dsimp only; omega)))
 · -- no
  refine tp rfl (lv_lss rfl rfl (decide_eq_false h2)) ?_
  refine t_done ?_
  refine q_then_n (hK9 _ _ ?_)
  refine c_false rfl ?_
  refine c_exit ?_
  refine q_then_x ?_
  refine q_then_x ?_
  refine q_in_x ?_
  refine q_then_n (hK5 _ _ ?_)
  refine c_seq (fun K10 hK10 => ?_)
  refine c_region ?_
  rw [show rowE n0 i = rowE n0 (n0 - 1) from by rw [show i = n0 - 1 by omega]]
  have hn64 : n0 ≤ 64 := by omega
  have hfo := rowE_fok hn64 ow
  have hlx := rowE_rows n0 (n0 - 1)
  have hrl := rowE_len n0 (n0 - 1)
  have hol := madeO_len n0 ow
  refine t_f2 ?_
  refine t_f1 ?_
  refine t_learn (fun _ h => gridR_own (L := (SlV 23 1 (.slice bE n0 cE) n0 vs) :: (Join (rowsL vs (rowE n0 (n0 - 1)))) :: R) (.head _) (.tail _ (.head _)) (by rw [rowE_len]; exact hvl) (h.drop.drop)) (fun hG => ?_)
  have hG0 := hG
  obtain ⟨vsG, hvlG, hvsG, hrowG⟩ := hG0
  refine tp rfl (lv_loadAgg (cs := [(.int .i64 ((n0 : Nat) : Int)), (.slice bE n0 cE), (.slice bEo n0 cEo)]) Try.isAgg25 Try.sizeOf25 rfl (gives_all3 (gives_blk (.head _) rfl) (gives_blk (.head _) rfl) (gives_blk (.head _) rfl))) ?_
  refine tc rfl (en_fn Try.call11 rfl) (of_ok (N := n0) (es := rowE n0 (n0 - 1)) (own := madeO n0 ow) (hfo) ((hG.cons).cons) hokE (rd_sl (.tail _ (.head _))) hokEo hlx) ?_
  rintro _ _ ⟨bs7, cp8, hok9, hle10, rfl, rfl⟩
  refine tp rfl (lv_move rfl) ?_
  refine tp rfl (lv_extract rfl rfl) ?_
  refine tp rfl (lv_extract rfl rfl) ?_
  refine tp rfl (lv_assign rfl) ?_
  refine tp rfl (lv_assign rfl) ?_
  refine t_done ?_
  refine q_then_n (hK10 _ _ ?_)
  refine c_seq (fun K11 hK11 => ?_)
  refine c_seq (fun K12 hK12 => ?_)
  refine c_region ?_
  refine tp rfl (lv_move rfl) ?_
  refine tp rfl (lv_neq (r := false) rfl rfl (by decide)) ?_
  refine tp rfl (lv_move rfl) ?_
  refine t_guard rfl rfl ?_
  refine tp rfl (lv_move rfl) ?_
  refine t_guard rfl rfl ?_
  refine tp rfl (lv_len Try.underlying23 rfl rfl) ?_
  refine t_guard rfl rfl ?_
  refine tp rfl (lv_move rfl) ?_
  refine t_guard rfl rfl ?_
  refine tp rfl (lv_neq rfl rfl (bne_eq_false_iff_eq.2 rfl)) ?_
  refine tp rfl (lv_pick_f rfl rfl) ?_
  refine t_done ?_
  refine q_then_n (hK12 _ _ ?_)
  refine c_false rfl ?_
  refine c_skip ?_
  refine q_then_n (hK11 _ _ ?_)
  refine c_seq (fun K13 hK13 => ?_)
  refine c_region ?_
  refine tp rfl (lv_assign rfl) ?_
  refine t_done ?_
  refine q_then_n (hK13 _ _ ?_)
  refine c_seq (fun K14 hK14 => ?_)
  refine c_seq (fun K15 hK15 => ?_)
  refine c_region ?_
  refine tp rfl (lv_move rfl) ?_
  refine tp rfl (lv_assign rfl) ?_
  refine t_done ?_
  refine q_then_n (hK15 _ _ ?_)
  refine c_block ?_
  refine c_loop (γ := (Nat) × (Int)) (fun (m, now) => m ≤ n0 ∧ now = nowR n0 (madeO n0 ow) m) (fun (m, now) => [(0, (.slice bw ow.length cw)), (3, (.bool true)), (4, (.int .i64 ((n0 : Nat) : Int))), (5, (.pointer (some ⟨b1, 0, none⟩))), (6, (.int .i64 ((i : Nat) : Int))), (7, (.slice bs7 n0 cp8)), (8, (.int .i64 0)), (9, (.int .i64 now)), (10, (.int .i64 ((m : Nat) : Int))), (21, (.bool false)), (43, (.bool false))]) (fun (m, now) => (SlV 3 1 (.slice bs7 n0 cp8) n0 (ints .i64 (verL (rowE n0 (n0 - 1)) (madeO n0 ow)))) :: (Blk b1 [(.int .i64 ((n0 : Nat) : Int)), (.slice bE n0 cE), (.slice bEo n0 cEo)] 25) :: (SlV 3 1 (.slice bEo n0 cEo) n0 (ints .i64 (madeO n0 ow))) :: (SlV 23 1 (.slice bE n0 cE) n0 vs) :: (Join (rowsL vs (rowE n0 (n0 - 1)))) :: R) (fun (m, now) => m) (n0, 5) ⟨by omega, by unfold nowR; rw [if_neg (by omega)]⟩ ⟨rfl, rfl, rfl, rfl, rfl, rfl, rfl, rfl, rfl, rfl, rfl, trivial⟩ (fun _ h => h) ?_
  rintro ⟨m, now⟩ K16 hF hK16
  try dsimp only at hF hK16 ⊢
  obtain ⟨hm, hnow⟩ := hF
  refine c_seq (fun K17 hK17 => ?_)
  refine c_seq (fun K18 hK18 => ?_)
  refine c_region ?_
  refine tp rfl (lv_move rfl) ?_
  by_cases h11 : ((m : Nat) : Int) > 0
  · -- yes
   refine tp rfl (lv_gtr rfl rfl (decide_eq_true h11)) ?_
   refine t_done ?_
   refine q_then_n (hK18 _ _ ?_)
   refine c_true rfl ?_
   refine c_skip ?_
   refine q_then_n (hK17 _ _ ?_)
   refine c_seq (fun K19 hK19 => ?_)
   refine c_block ?_
   refine c_seq (fun K20 hK20 => ?_)
   refine c_seq (fun K21 hK21 => ?_)
   refine c_region ?_
   have hvl2 : (verL (rowE n0 (n0 - 1)) (madeO n0 ow)).length = n0 := by rw [verL_len]; exact hrl
   have hm1 : 0 < m := by omega
   rw [show m = m - 1 + 1 by omega] at hnow
   refine tp rfl (lv_fieldAddr (o' := 2) Try.underlying25 rfl Try.sizeOf23 rfl rfl) ?_
   refine tp rfl (lv_load Try.isAgg23 rfl (gives_blk (.tail _ (.head _)) rfl)) ?_
   refine tp rfl (lv_move rfl) ?_
   refine tp rfl (lv_sub (c := ((m - 1 : Nat) : Int)) rfl rfl ((wr_i64 (by omega) (by omega)).trans (by omega))) ?_
   refine tp rfl (lv_indexAddr (k' := m - 1) Try.underlying23 Try.sizeOf3 rfl rfl hokEo (by omega) (by omega) (by omega)) ?_
   refine tp rfl (lv_load Try.isAgg3 rfl (gives_sl (.tail _ (.tail _ (.head _))) (ints_get (by omega)))) ?_
   by_cases h12 : ((madeO n0 ow).getD (m - 1) 0) = 6
   · -- yes
    refine tp rfl (lv_eql rfl rfl (beq_iff_eq.2 h12)) ?_
    refine tp rfl (lv_move rfl) ?_
    refine t_skip rfl rfl rfl ?_
    refine t_skip rfl rfl rfl ?_
    refine tp rfl (lv_pick_t rfl rfl) ?_
    refine t_done ?_
    refine q_then_n (hK21 _ _ ?_)
    refine c_true rfl ?_
    refine c_region ?_
    refine tp rfl (lv_assign rfl) ?_
    refine t_done ?_
    refine q_then_n (hK20 _ _ ?_)
    refine c_seq (fun K22 hK22 => ?_)
    refine c_region ?_
    refine tp rfl (lv_move rfl) ?_
    refine tp rfl (lv_move rfl) ?_
    refine tp rfl (lv_sub (c := ((m - 1 : Nat) : Int)) rfl rfl ((wr_i64 (by omega) (by omega)).trans (by omega))) ?_
    refine tp rfl (lv_indexAddr (k' := m - 1) Try.underlying23 Try.sizeOf3 rfl rfl hok9 (by omega) (by omega) (by omega)) ?_
    refine tp rfl (lv_load Try.isAgg3 rfl (gives_sl (.head _) (ints_get (by omega)))) ?_
    refine tp rfl (lv_move rfl) ?_
    have hcur : (verL (rowE n0 (n0 - 1)) (madeO n0 ow)).getD (m - 1) 0 = 6 := row_6 hn64 ow (by omega) (.inl h12)
    refine tp rfl (lv_neq rfl rfl (bne_eq_false_iff_eq.2 hcur)) ?_
    refine t_done ?_
    refine q_then_n (hK22 _ _ ?_)
    refine c_false rfl ?_
    refine c_skip ?_
    refine q_in_n ?_
    refine q_then_n (hK19 _ _ ?_)
    refine c_region ?_
    refine tp rfl (lv_move rfl) ?_
    refine tp rfl (lv_sub (c := ((m - 1 : Nat) : Int)) rfl rfl ((wr_i64 (by omega) (by omega)).trans (by omega))) ?_
    refine tp rfl (lv_assign rfl) ?_
    refine t_done ?_
    refine q_then_n ?_
    exact t_weak (by exact ⟨rfl, rfl, rfl, rfl, rfl, rfl, rfl, rfl, rfl, rfl, rfl, trivial⟩) ((hK16 (m - 1, 6) ⟨by dsimp only; omega, by rw [nowR_ver (show m - 1 < n0 by omega)]; exact hcur.symm⟩ (by dsimp only; omega)))
   · -- no
    refine tp rfl (lv_eql rfl rfl (beq_eq_false_iff_ne.2 h12)) ?_
    refine tp rfl (lv_move rfl) ?_
    refine t_guard rfl rfl ?_
    refine tp rfl (lv_move rfl) ?_
    refine t_guard rfl rfl ?_
    by_cases h13 : now = 6
    · -- yes
     refine tp rfl (lv_eql rfl rfl (beq_iff_eq.2 h13)) ?_
     refine tp rfl (lv_pick_f rfl rfl) ?_
     refine t_done ?_
     refine q_then_n (hK21 _ _ ?_)
     refine c_true rfl ?_
     refine c_region ?_
     refine tp rfl (lv_assign rfl) ?_
     refine t_done ?_
     refine q_then_n (hK20 _ _ ?_)
     refine c_seq (fun K22 hK22 => ?_)
     refine c_region ?_
     refine tp rfl (lv_move rfl) ?_
     refine tp rfl (lv_move rfl) ?_
     refine tp rfl (lv_sub (c := ((m - 1 : Nat) : Int)) rfl rfl ((wr_i64 (by omega) (by omega)).trans (by omega))) ?_
     refine tp rfl (lv_indexAddr (k' := m - 1) Try.underlying23 Try.sizeOf3 rfl rfl hok9 (by omega) (by omega) (by omega)) ?_
     refine tp rfl (lv_load Try.isAgg3 rfl (gives_sl (.head _) (ints_get (by omega)))) ?_
     refine tp rfl (lv_move rfl) ?_
     have hcur : (verL (rowE n0 (n0 - 1)) (madeO n0 ow)).getD (m - 1) 0 = 6 := row_6 hn64 ow (by omega) (.inr (hnow ▸ h13))
     refine tp rfl (lv_neq rfl rfl (bne_eq_false_iff_eq.2 hcur)) ?_
     refine t_done ?_
     refine q_then_n (hK22 _ _ ?_)
     refine c_false rfl ?_
     refine c_skip ?_
     refine q_in_n ?_
     refine q_then_n (hK19 _ _ ?_)
     refine c_region ?_
     refine tp rfl (lv_move rfl) ?_
     refine tp rfl (lv_sub (c := ((m - 1 : Nat) : Int)) rfl rfl ((wr_i64 (by omega) (by omega)).trans (by omega))) ?_
     refine tp rfl (lv_assign rfl) ?_
     refine t_done ?_
     refine q_then_n ?_
     exact t_weak (by exact ⟨rfl, rfl, rfl, rfl, rfl, rfl, rfl, rfl, rfl, rfl, rfl, trivial⟩) ((hK16 (m - 1, 6) ⟨by dsimp only; omega, by rw [nowR_ver (show m - 1 < n0 by omega)]; exact hcur.symm⟩ (by dsimp only; omega)))
    · -- no
     refine tp rfl (lv_eql rfl rfl (beq_eq_false_iff_ne.2 h13)) ?_
     refine tp rfl (lv_pick_f rfl rfl) ?_
     refine t_done ?_
     refine q_then_n (hK21 _ _ ?_)
     refine c_false rfl ?_
     refine c_seq (fun K22 hK22 => ?_)
     refine c_region ?_
     refine tp rfl (lv_fieldAddr (o' := 2) Try.underlying25 rfl Try.sizeOf23 rfl rfl) ?_
     refine tp rfl (lv_load Try.isAgg23 rfl (gives_blk (.tail _ (.head _)) rfl)) ?_
     refine tp rfl (lv_move rfl) ?_
     refine tp rfl (lv_sub (c := ((m - 1 : Nat) : Int)) rfl rfl ((wr_i64 (by omega) (by omega)).trans (by omega))) ?_
     refine tp rfl (lv_indexAddr (k' := m - 1) Try.underlying23 Try.sizeOf3 rfl rfl hokEo (by omega) (by omega) (by omega)) ?_
     refine tp rfl (lv_load Try.isAgg3 rfl (gives_sl (.tail _ (.tail _ (.head _))) (ints_get (by omega)))) ?_
     by_cases h14 : ((madeO n0 ow).getD (m - 1) 0) = 0
     · -- yes
      refine tp rfl (lv_eql rfl rfl (beq_iff_eq.2 h14)) ?_
      refine t_done ?_
      refine q_then_n (hK22 _ _ ?_)
      refine c_true rfl ?_
      refine c_region ?_
      refine tp rfl (lv_assign rfl) ?_
      refine t_done ?_
      refine q_then_n (hK20 _ _ ?_)
      refine c_seq (fun K23 hK23 => ?_)
      refine c_region ?_
      refine tp rfl (lv_move rfl) ?_
      refine tp rfl (lv_move rfl) ?_
      refine tp rfl (lv_sub (c := ((m - 1 : Nat) : Int)) rfl rfl ((wr_i64 (by omega) (by omega)).trans (by omega))) ?_
      refine tp rfl (lv_indexAddr (k' := m - 1) Try.underlying23 Try.sizeOf3 rfl rfl hok9 (by omega) (by omega) (by omega)) ?_
      refine tp rfl (lv_load Try.isAgg3 rfl (gives_sl (.head _) (ints_get (by omega)))) ?_
      refine tp rfl (lv_move rfl) ?_
      have hcur : (verL (rowE n0 (n0 - 1)) (madeO n0 ow)).getD (m - 1) 0 = 0 := row_0 hn64 ow (by omega) (fun e => h13 (hnow.trans e)) h14
      refine tp rfl (lv_neq rfl rfl (bne_eq_false_iff_eq.2 hcur)) ?_
      refine t_done ?_
      refine q_then_n (hK23 _ _ ?_)
      refine c_false rfl ?_
      refine c_skip ?_
      refine q_in_n ?_
      refine q_then_n (hK19 _ _ ?_)
      refine c_region ?_
      refine tp rfl (lv_move rfl) ?_
      refine tp rfl (lv_sub (c := ((m - 1 : Nat) : Int)) rfl rfl ((wr_i64 (by omega) (by omega)).trans (by omega))) ?_
      refine tp rfl (lv_assign rfl) ?_
      refine t_done ?_
      refine q_then_n ?_
      exact t_weak (by exact ⟨rfl, rfl, rfl, rfl, rfl, rfl, rfl, rfl, rfl, rfl, rfl, trivial⟩) ((hK16 (m - 1, 0) ⟨by dsimp only; omega, by rw [nowR_ver (show m - 1 < n0 by omega)]; exact hcur.symm⟩ (by dsimp only; omega)))
     · -- no
      refine tp rfl (lv_eql rfl rfl (beq_eq_false_iff_ne.2 h14)) ?_
      refine t_done ?_
      refine q_then_n (hK22 _ _ ?_)
      refine c_false rfl ?_
      refine c_skip ?_
      refine q_then_n (hK20 _ _ ?_)
      refine c_seq (fun K23 hK23 => ?_)
      refine c_region ?_
      refine tp rfl (lv_move rfl) ?_
      refine tp rfl (lv_move rfl) ?_
      refine tp rfl (lv_sub (c := ((m - 1 : Nat) : Int)) rfl rfl ((wr_i64 (by omega) (by omega)).trans (by omega))) ?_
      refine tp rfl (lv_indexAddr (k' := m - 1) Try.underlying23 Try.sizeOf3 rfl rfl hok9 (by omega) (by omega) (by omega)) ?_
      refine tp rfl (lv_load Try.isAgg3 rfl (gives_sl (.head _) (ints_get (by omega)))) ?_
      refine tp rfl (lv_move rfl) ?_
      have hcur : (verL (rowE n0 (n0 - 1)) (madeO n0 ow)).getD (m - 1) 0 = now := (row_5 hn64 ow (by omega) (fun e => h13 (hnow.trans e)) h12 h14).trans hnow.symm
      refine tp rfl (lv_neq rfl rfl (bne_eq_false_iff_eq.2 hcur)) ?_
      refine t_done ?_
      refine q_then_n (hK23 _ _ ?_)
      refine c_false rfl ?_
      refine c_skip ?_
      refine q_in_n ?_
      refine q_then_n (hK19 _ _ ?_)
      refine c_region ?_
      refine tp rfl (lv_move rfl) ?_
      refine tp rfl (lv_sub (c := ((m - 1 : Nat) : Int)) rfl rfl ((wr_i64 (by omega) (by omega)).trans (by omega))) ?_
      refine tp rfl (lv_assign rfl) ?_
      refine t_done ?_
      refine q_then_n ?_
      exact t_weak (by exact ⟨rfl, rfl, rfl, rfl, rfl, rfl, rfl, rfl, rfl, rfl, rfl, trivial⟩) ((hK16 (m - 1, now) ⟨by dsimp only; omega, by rw [nowR_ver (show m - 1 < n0 by omega)]; exact hcur.symm⟩ (by dsimp only; omega)))
  · -- no
   refine tp rfl (lv_gtr rfl rfl (decide_eq_false h11)) ?_
   refine t_done ?_
   refine q_then_n (hK18 _ _ ?_)
   refine c_false rfl ?_
   refine c_exit ?_
   refine q_then_x ?_
   refine q_then_x ?_
   refine q_in_x ?_
   refine q_then_n (hK14 _ _ ?_)
   refine c_seq (fun K19 hK19 => ?_)
   refine c_region ?_
   refine tp rfl (lv_move rfl) ?_
   refine tp rfl (lv_assign rfl) ?_
   refine t_done ?_
   refine q_then_n (hK19 _ _ ?_)
   refine c_ret ?_
   refine t_drop ?_
   refine t_drop ?_
   refine t_drop ?_
   refine t_drop ?_
   refine t_drop ?_
   refine q_ret rfl rfl ?_
   exact ⟨rfl, rfl⟩
end Go.Proofs.Ytljnaefaahphaaa
