/- VerdictAll: the law's walk. -/
import Derived.Test.YtljnaefaahphaaaLa
import Derived.Test.YtljnaefaahphaaaVrd
set_option maxRecDepth 100000
set_option linter.unusedVariables false
set_option linter.unusedSimpArgs false
namespace Go.Proofs.Ytljnaefaahphaaa
open Go Go.Proofs Sp
set_option maxHeartbeats 4000000 in
theorem all_law {R : List HP} {bp : Option Addr} {cp : Nat} (n : Int) {N : Nat} (hN : n % 65536 % 65 = N) (ps : List (Int × Int)) (hrp : Rd R bp (recs pu8F ps)) (okp : SlOk bp ps.length) (hgp : ∀ e ∈ ps, (0 ≤ e.1 ∧ e.1 ≤ 255) ∧ 0 ≤ e.2 ∧ e.2 ≤ 255) (lp : ps.length ≤ 9223372036854775807) (one : Int) (failed : Bool) :
    Ok Try.prog 8 [(.int .i64 n), (.slice bp ps.length cp), (.int .i64 one), (.bool failed)] R
      (fun v M => v = .bool true ∧ M = R) := by
 refine ok_of (N := 170) Try.func8 rfl rfl rfl (fun W => ?_)
 refine c_seq (fun K1 hK1 => ?_)
 refine c_region ?_
 refine tp rfl (lv_assign rfl) ?_
 refine t_done ?_
 refine q_then_n (hK1 _ _ ?_)
 refine c_seq (fun K2 hK2 => ?_)
 refine c_region ?_
 refine tc rfl (en_fn Try.call9 rfl) (shown_ok) ?_
 rintro _ _ ⟨rfl, hMR⟩
 rw [hMR]; clear hMR
 refine tp rfl (lv_assign rfl) ?_
 refine t_done ?_
 refine q_then_n (hK2 _ _ ?_)
 refine c_seq (fun K3 hK3 => ?_)
 refine c_region ?_
 refine tp rfl (lv_move rfl) ?_
 refine tp rfl (lv_move rfl) ?_
 refine tc rfl (en_fn Try.call14 rfl) (made_ok n (N := N) hN ps [] hrp okp rd_nil slok_none hgp (fun _ h => by cases h) (by omega) (by simp)) ?_
 rintro _ _ ⟨bE, cE, bEo, cEo, vsE, ⟨hokE, hleE, hokEo, hleEo, hvlE⟩, rfl, rfl⟩
 refine tm rfl (mv_alloc Try.zeroValue25 rfl) ?_
 rintro _ _ ⟨b1, rfl, rfl⟩
 refine ts (sv_blkAgg (news := [(.int .i64 ((N : Nat) : Int)), (.slice bE N cE), (.slice bEo N cEo)]) Try.sizeOf25 rfl rfl rfl rfl (Nat.le_of_ble_eq_true rfl) rfl) ?_
 refine t_done ?_
 refine q_then_n (hK3 _ _ ?_)
 refine c_seq (fun K4 hK4 => ?_)
 refine c_seq (fun K5 hK5 => ?_)
 refine c_region ?_
 have hN64 : N ≤ 64 := by omega
 have hfm := made_fok hN64 (ps.take 200) []
 have hlx := madeG_rows N (ps.take 200) (by rw [List.length_take]; omega)
 obtain ⟨es, hes⟩ : ∃ x, madeG N (ps.take 200) = x := ⟨_, rfl⟩
 rw [hes] at hfm hlx ⊢
 rw [show madeO N [] = fives N 0 from fives_zero N]
 have hfo := fives_fok hfm
 have hel := hfo.le
 have hin := hfo.in_
 refine t_f2 ?_
 refine t_f1 ?_
 refine t_learn (fun _ h => gridR_own (L := (SlV 23 1 (.slice bE N cE) N vsE) :: (Join (rowsL vsE es)) :: R) (.head _) (.tail _ (.head _)) (by omega) (h.drop.drop)) (fun hG => ?_)
 have hG0 := hG
 obtain ⟨vsG, hvlG, hvsG, hrowG⟩ := hG0
 refine tp rfl (lv_assign rfl) ?_
 refine t_done ?_
 refine q_then_n (hK5 _ _ ?_)
 refine c_block ?_
 refine c_loop (γ := (Nat)) (fun (i0 : Nat) => i0 ≤ N) (fun (i0 : Nat) => [(0, (.int .i64 n)), (1, (.slice bp ps.length cp)), (2, (.int .i64 one)), (3, (.bool failed)), (8, (.bool false)), (9, (.bool true)), (10, (.pointer (some ⟨b1, 0, none⟩))), (11, (.int .i64 ((i0 : Nat) : Int)))]) (fun (i0 : Nat) => (Blk b1 [(.int .i64 ((N : Nat) : Int)), (.slice bE N cE), (.slice bEo N cEo)] 25) :: (SlV 3 1 (.slice bEo N cEo) N (ints .i64 (fives N i0))) :: (SlV 23 1 (.slice bE N cE) N vsE) :: (Join (rowsL vsE es)) :: R) (fun (i0 : Nat) => N - i0) (0) (by omega) ⟨rfl, rfl, rfl, rfl, rfl, rfl, rfl, rfl, trivial⟩ (fun _ h => h) ?_
 rintro i0 K6 hF hK6
 try dsimp only at hF hK6 ⊢
 have hfl := fives_len N i0
 refine c_seq (fun K7 hK7 => ?_)
 refine c_seq (fun K8 hK8 => ?_)
 refine c_region ?_
 refine tp rfl (lv_move rfl) ?_
 refine tp rfl (lv_fieldAddr (o' := 0) Try.underlying25 rfl Try.sizeOf3 rfl rfl) ?_
 refine tp rfl (lv_load Try.isAgg3 rfl (gives_blk (.head _) rfl)) ?_
 by_cases h2 : ((i0 : Nat) : Int) < ((N : Nat) : Int)
 · -- yes
  refine tp rfl (lv_lss rfl rfl (decide_eq_true h2)) ?_
  refine t_done ?_
  refine q_then_n (hK8 _ _ ?_)
  refine c_true rfl ?_
  refine c_skip ?_
  refine q_then_n (hK7 _ _ ?_)
  refine c_seq (fun K9 hK9 => ?_)
  refine c_block ?_
  refine c_region ?_
  refine tp rfl (lv_fieldAddr (o' := 2) Try.underlying25 rfl Try.sizeOf23 rfl rfl) ?_
  refine tp rfl (lv_load Try.isAgg23 rfl (gives_blk (.head _) rfl)) ?_
  refine tp rfl (lv_move rfl) ?_
  refine tp rfl (lv_indexAddr (k' := i0) Try.underlying23 Try.sizeOf3 rfl rfl hokEo (by omega) (by omega) (by omega)) ?_
  refine t_f1 ?_
  refine ts (sv_sl Try.sizeOf3 rfl rfl rfl (by rw [ints_length]; omega) ints_set) ?_
  refine t_done ?_
  refine q_in_n ?_
  refine q_then_n (hK9 _ _ ?_)
  refine c_region ?_
  refine tp rfl (lv_move rfl) ?_
  refine tp rfl (lv_add (c := ((i0 + 1 : Nat) : Int)) rfl rfl (wr_i64_succ (by omega))) ?_
  refine tp rfl (lv_assign rfl) ?_
  refine t_done ?_
  refine q_then_n ?_
  refine t_f1 ?_
  rw [show (fives N i0).set i0 5 = fives N (i0 + 1) from fives_succ (by omega)]
  exact t_weak (by exact ⟨rfl, rfl, rfl, rfl, rfl, rfl, rfl, rfl, trivial⟩) ((hK6 (i0 + 1) (by omega) (by omega)))
 · -- no
  refine tp rfl (lv_lss rfl rfl (decide_eq_false h2)) ?_
  refine t_done ?_
  refine q_then_n (hK8 _ _ ?_)
  refine c_false rfl ?_
  refine c_exit ?_
  refine q_then_x ?_
  refine q_then_x ?_
  refine q_in_x ?_
  refine q_then_n (hK4 _ _ ?_)
  refine c_seq (fun K9 hK9 => ?_)
  refine c_region ?_
  rw [show fives N i0 = fives N N from by rw [show i0 = N by omega]]
  have hfl := fives_len N N
  have hvl := (verL_len es (fives N N)).trans hel
  refine tp rfl (lv_loadAgg (cs := [(.int .i64 ((N : Nat) : Int)), (.slice bE N cE), (.slice bEo N cEo)]) Try.isAgg25 Try.sizeOf25 rfl (gives_all3 (gives_blk (.head _) rfl) (gives_blk (.head _) rfl) (gives_blk (.head _) rfl))) ?_
  refine tc rfl (en_fn Try.call11 rfl) (of_ok (N := N) (es := es) (own := (fives N N)) (hfo) ((hG.cons).cons) hokE (rd_sl (.tail _ (.head _))) hokEo hlx) ?_
  rintro _ _ ⟨bs3, cp4, hok5, hle6, rfl, rfl⟩
  refine tp rfl (lv_move rfl) ?_
  refine tp rfl (lv_extract rfl rfl) ?_
  refine tp rfl (lv_extract rfl rfl) ?_
  refine tp rfl (lv_assign rfl) ?_
  refine tp rfl (lv_assign rfl) ?_
  refine t_done ?_
  refine q_then_n (hK9 _ _ ?_)
  refine c_seq (fun K10 hK10 => ?_)
  refine c_seq (fun K11 hK11 => ?_)
  refine c_region ?_
  refine tp rfl (lv_move rfl) ?_
  refine tp rfl (lv_neq (r := false) rfl rfl (by decide)) ?_
  refine tp rfl (lv_move rfl) ?_
  refine t_guard rfl rfl ?_
  refine tp rfl (lv_move rfl) ?_
  refine t_guard rfl rfl ?_
  refine tp rfl (lv_len Try.underlying23 rfl rfl) ?_
  refine t_guard rfl rfl ?_
  refine tp rfl (lv_fieldAddr (o' := 0) Try.underlying25 rfl Try.sizeOf3 rfl rfl) ?_
  refine t_guard rfl rfl ?_
  refine tp rfl (lv_load Try.isAgg3 rfl (gives_blk (.tail _ (.head _)) rfl)) ?_
  refine t_guard rfl rfl ?_
  refine tp rfl (lv_neq rfl rfl (bne_eq_false_iff_eq.2 rfl)) ?_
  refine tp rfl (lv_pick_f rfl rfl) ?_
  refine t_done ?_
  refine q_then_n (hK11 _ _ ?_)
  refine c_false rfl ?_
  refine c_skip ?_
  refine q_then_n (hK10 _ _ ?_)
  refine c_seq (fun K12 hK12 => ?_)
  refine c_seq (fun K13 hK13 => ?_)
  refine c_region ?_
  refine tp rfl (lv_assign rfl) ?_
  refine t_done ?_
  refine q_then_n (hK13 _ _ ?_)
  refine c_block ?_
  refine c_loop (γ := (Nat)) (fun (i1 : Nat) => i1 ≤ N) (fun (i1 : Nat) => [(0, (.int .i64 n)), (1, (.slice bp ps.length cp)), (2, (.int .i64 one)), (3, (.bool failed)), (9, (.bool true)), (10, (.pointer (some ⟨b1, 0, none⟩))), (11, (.int .i64 ((i0 : Nat) : Int))), (12, (.slice bs3 N cp4)), (13, (.int .i64 0)), (14, (.int .i64 ((i1 : Nat) : Int))), (32, (.bool false)), (52, (.bool false))]) (fun (i1 : Nat) => (SlV 3 1 (.slice bs3 N cp4) N (ints .i64 (verL es (fives N N)))) :: (Blk b1 [(.int .i64 ((N : Nat) : Int)), (.slice bE N cE), (.slice bEo N cEo)] 25) :: (SlV 3 1 (.slice bEo N cEo) N (ints .i64 (fives N N))) :: (SlV 23 1 (.slice bE N cE) N vsE) :: (Join (rowsL vsE es)) :: R) (fun (i1 : Nat) => N - i1) (0) (by omega) ⟨rfl, rfl, rfl, rfl, rfl, rfl, rfl, rfl, rfl, rfl, rfl, rfl, trivial⟩ (fun _ h => h) ?_
  rintro i1 K14 hF hK14
  try dsimp only at hF hK14 ⊢
  refine c_seq (fun K15 hK15 => ?_)
  refine c_seq (fun K16 hK16 => ?_)
  refine c_region ?_
  refine tp rfl (lv_move rfl) ?_
  refine tp rfl (lv_fieldAddr (o' := 0) Try.underlying25 rfl Try.sizeOf3 rfl rfl) ?_
  refine tp rfl (lv_load Try.isAgg3 rfl (gives_blk (.tail _ (.head _)) rfl)) ?_
  by_cases h7 : ((i1 : Nat) : Int) < ((N : Nat) : Int)
  · -- yes
   refine tp rfl (lv_lss rfl rfl (decide_eq_true h7)) ?_
   refine t_done ?_
   refine q_then_n (hK16 _ _ ?_)
   refine c_true rfl ?_
   refine c_skip ?_
   refine q_then_n (hK15 _ _ ?_)
   refine c_seq (fun K17 hK17 => ?_)
   refine c_block ?_
   refine c_seq (fun K18 hK18 => ?_)
   refine c_region ?_
   refine tp rfl (lv_move rfl) ?_
   refine tp rfl (lv_move rfl) ?_
   refine tp rfl (lv_indexAddr (k' := i1) Try.underlying23 Try.sizeOf3 rfl rfl hok5 (by omega) (by omega) (by omega)) ?_
   refine tp rfl (lv_load Try.isAgg3 rfl (gives_sl (.head _) (ints_get (by omega)))) ?_
   by_cases hn5 : ((verL es (fives N N)).getD i1 0) = 5
   · -- yes
    refine tp rfl (lv_neq rfl rfl (bne_eq_false_iff_eq.2 hn5)) ?_
    refine tp rfl (lv_move rfl) ?_
    refine t_skip rfl rfl rfl ?_
    refine t_skip rfl rfl rfl ?_
    refine t_skip rfl rfl rfl ?_
    refine t_skip rfl rfl rfl ?_
    refine t_skip rfl rfl rfl ?_
    refine tp rfl (lv_pick_f rfl rfl) ?_
    refine t_done ?_
    refine q_then_n (hK18 _ _ ?_)
    refine c_false rfl ?_
    refine c_skip ?_
    refine q_in_n ?_
    refine q_then_n (hK17 _ _ ?_)
    refine c_region ?_
    refine tp rfl (lv_move rfl) ?_
    refine tp rfl (lv_add (c := ((i1 + 1 : Nat) : Int)) rfl rfl (wr_i64_succ (by omega))) ?_
    refine tp rfl (lv_assign rfl) ?_
    refine t_done ?_
    refine q_then_n ?_
    exact t_weak (by exact ⟨rfl, rfl, rfl, rfl, rfl, rfl, rfl, rfl, rfl, rfl, rfl, rfl, trivial⟩) ((hK14 (i1 + 1) (by omega) (by omega)))
   · -- no
    refine tp rfl (lv_neq rfl rfl (bne_iff_ne.2 hn5)) ?_
    refine tp rfl (lv_move rfl) ?_
    refine t_guard rfl rfl ?_
    refine tp rfl (lv_move rfl) ?_
    refine t_guard rfl rfl ?_
    refine tp rfl (lv_move rfl) ?_
    refine t_guard rfl rfl ?_
    refine tp rfl (lv_indexAddr (k' := i1) Try.underlying23 Try.sizeOf3 rfl rfl hok5 (by omega) (by omega) (by omega)) ?_
    refine t_guard rfl rfl ?_
    refine tp rfl (lv_load Try.isAgg3 rfl (gives_sl (.head _) (ints_get (by omega)))) ?_
    refine t_guard rfl rfl ?_
    refine tp rfl (lv_neq rfl rfl (bne_eq_false_iff_eq.2 ((v57L hfo (by omega)).resolve_left hn5))) ?_
    refine tp rfl (lv_pick_t rfl rfl) ?_
    refine t_done ?_
    refine q_then_n (hK18 _ _ ?_)
    refine c_false rfl ?_
    refine c_skip ?_
    refine q_in_n ?_
    refine q_then_n (hK17 _ _ ?_)
    refine c_region ?_
    refine tp rfl (lv_move rfl) ?_
    refine tp rfl (lv_add (c := ((i1 + 1 : Nat) : Int)) rfl rfl (wr_i64_succ (by omega))) ?_
    refine tp rfl (lv_assign rfl) ?_
    refine t_done ?_
    refine q_then_n ?_
    exact t_weak (by exact ⟨rfl, rfl, rfl, rfl, rfl, rfl, rfl, rfl, rfl, rfl, rfl, rfl, trivial⟩) ((hK14 (i1 + 1) (by omega) (by omega)))
  · -- no
   refine tp rfl (lv_lss rfl rfl (decide_eq_false h7)) ?_
   refine t_done ?_
   refine q_then_n (hK16 _ _ ?_)
   refine c_false rfl ?_
   refine c_exit ?_
   refine q_then_x ?_
   refine q_then_x ?_
   refine q_in_x ?_
   refine q_then_n (hK12 _ _ ?_)
   refine c_seq (fun K17 hK17 => ?_)
   refine c_seq (fun K18 hK18 => ?_)
   refine c_region ?_
   refine tp rfl (lv_fieldAddr (o' := 0) Try.underlying25 rfl Try.sizeOf3 rfl rfl) ?_
   refine tp rfl (lv_load Try.isAgg3 rfl (gives_blk (.tail _ (.head _)) rfl)) ?_
   by_cases hN0 : ((N : Nat) : Int) = 0
   · -- yes
    refine tp rfl (lv_eql rfl rfl (beq_iff_eq.2 hN0)) ?_
    refine t_done ?_
    refine q_then_n (hK18 _ _ ?_)
    refine c_true rfl ?_
    refine c_seq (fun K19 hK19 => ?_)
    refine c_region ?_
    refine tp rfl (lv_move rfl) ?_
    refine tp rfl (lv_assign rfl) ?_
    refine t_done ?_
    refine q_then_n (hK19 _ _ ?_)
    refine c_ret ?_
    refine q_then_r ?_
    refine t_drop ?_
    refine t_drop ?_
    refine t_drop ?_
    refine t_drop ?_
    refine t_drop ?_
    refine q_ret rfl rfl ?_
    exact ⟨rfl, rfl⟩
   · -- no
    refine tp rfl (lv_eql rfl rfl (beq_eq_false_iff_ne.2 hN0)) ?_
    refine t_done ?_
    refine q_then_n (hK18 _ _ ?_)
    refine c_false rfl ?_
    refine c_skip ?_
    refine q_then_n (hK17 _ _ ?_)
    refine c_seq (fun K19 hK19 => ?_)
    refine c_region ?_
    obtain ⟨k, hk⟩ : ∃ k : Nat, one % 65536 % (N : Int) = (k : Int) := ⟨_, (Int.toNat_of_nonneg (Int.emod_nonneg _ (by omega))).symm⟩
    have hkN : k < N := by have := Int.emod_lt_of_pos (one % 65536) (show (0 : Int) < N by omega); omega
    refine tp rfl (lv_move rfl) ?_
    refine tp rfl (lv_and (c := one % 65536) rfl rfl (and_ffff one)) ?_
    refine tp rfl (lv_fieldAddr (o' := 0) Try.underlying25 rfl Try.sizeOf3 rfl rfl) ?_
    refine tp rfl (lv_load Try.isAgg3 rfl (gives_blk (.tail _ (.head _)) rfl)) ?_
    refine tp rfl (lv_rem (c := ((k : Nat) : Int)) rfl rfl (by omega) ((Int.tmod_eq_emod_of_nonneg (by omega)).trans hk)) ?_
    refine tp rfl (lv_assign rfl) ?_
    refine t_done ?_
    refine q_then_n (hK19 _ _ ?_)
    refine c_seq (fun K20 hK20 => ?_)
    refine c_region ?_
    refine tp rfl (lv_assign rfl) ?_
    refine t_done ?_
    refine q_then_n (hK20 _ _ ?_)
    refine c_seq (fun K21 hK21 => ?_)
    have hM21 : ∀ (w : Int), (w = 0 ∨ w = 6) ∧ True → Tri K21 W 170 [(0, (.int .i64 n)), (1, (.slice bp ps.length cp)), (2, (.int .i64 one)), (3, (.bool failed)), (9, (.bool true)), (10, (.pointer (some ⟨b1, 0, none⟩))), (11, (.int .i64 ((i0 : Nat) : Int))), (12, (.slice bs3 N cp4)), (13, (.int .i64 0)), (14, (.int .i64 ((i1 : Nat) : Int))), (15, (.int .i64 ((k : Nat) : Int))), (16, (.int .i64 w)), (32, (.bool false)), (52, (.bool false)), (56, (.bool false)), (73, (.bool false))] ((SlV 3 1 (.slice bs3 N cp4) N (ints .i64 (verL es (fives N N)))) :: (Blk b1 [(.int .i64 ((N : Nat) : Int)), (.slice bE N cE), (.slice bEo N cEo)] 25) :: (SlV 3 1 (.slice bEo N cEo) N (ints .i64 (fives N N))) :: (SlV 23 1 (.slice bE N cE) N vsE) :: (Join (rowsL vsE es)) :: R) := by
     rintro w hF
     obtain ⟨hw, _⟩ := hF
     refine hK21 _ _ ?_
     refine c_seq (fun K22 hK22 => ?_)
     refine c_region ?_
     refine tp rfl (lv_fieldAddr (o' := 2) Try.underlying25 rfl Try.sizeOf23 rfl rfl) ?_
     refine tp rfl (lv_load Try.isAgg23 rfl (gives_blk (.tail _ (.head _)) rfl)) ?_
     refine tp rfl (lv_move rfl) ?_
     refine tp rfl (lv_move rfl) ?_
     refine tp rfl (lv_indexAddr (k' := k) Try.underlying23 Try.sizeOf3 rfl rfl hokEo (by omega) (by omega) (by omega)) ?_
     refine t_f2 ?_
     refine ts (sv_sl Try.sizeOf3 rfl rfl rfl (by rw [ints_length]; omega) ints_set) ?_
     refine t_done ?_
     refine q_then_n (hK22 _ _ ?_)
     refine c_seq (fun K23 hK23 => ?_)
     refine c_region ?_
     have hfw := fives_set hfm hkN hw
     have hwl := (verL_len es ((fives N N).set k w)).trans hel
     refine tp rfl (lv_loadAgg (cs := [(.int .i64 ((N : Nat) : Int)), (.slice bE N cE), (.slice bEo N cEo)]) Try.isAgg25 Try.sizeOf25 rfl (gives_all3 (gives_blk (.tail _ (.tail _ (.head _))) rfl) (gives_blk (.tail _ (.tail _ (.head _))) rfl) (gives_blk (.tail _ (.tail _ (.head _))) rfl))) ?_
     refine tc rfl (en_fn Try.call11 rfl) (of_ok (N := N) (es := es) (own := (((fives N N)).set k w)) (hfw) (((hG.cons).cons).cons) hokE (rd_sl (.head _)) hokEo hlx) ?_
     rintro _ _ ⟨bs8, cp9, hok10, hle11, rfl, rfl⟩
     refine tp rfl (lv_move rfl) ?_
     refine tp rfl (lv_extract rfl rfl) ?_
     refine tp rfl (lv_extract rfl rfl) ?_
     refine tp rfl (lv_assign rfl) ?_
     refine tp rfl (lv_assign rfl) ?_
     refine t_done ?_
     refine q_then_n (hK23 _ _ ?_)
     refine c_seq (fun K24 hK24 => ?_)
     refine c_seq (fun K25 hK25 => ?_)
     refine c_region ?_
     refine tp rfl (lv_move rfl) ?_
     refine tp rfl (lv_neq (r := false) rfl rfl (by decide)) ?_
     refine t_done ?_
     refine q_then_n (hK25 _ _ ?_)
     refine c_false rfl ?_
     refine c_skip ?_
     refine q_then_n (hK24 _ _ ?_)
     refine c_seq (fun K26 hK26 => ?_)
     refine c_region ?_
     refine tp rfl (lv_fieldAddr (o' := 0) Try.underlying25 rfl Try.sizeOf3 rfl rfl) ?_
     refine tp rfl (lv_load Try.isAgg3 rfl (gives_blk (.tail _ (.tail _ (.tail _ (.head _)))) rfl)) ?_
     refine tm rfl (mv_makeSlice (i := Try.t4) Try.underlying38 Try.type4 rfl rfl rfl rfl rfl (by omega) (by rw [show Try.t4.bytes = 1 from rfl]; omega) (by omega)) ?_
     rintro _ _ ⟨bs12, cp13, hok14, hle15, rfl, rfl⟩
     rw [show (((N : Nat) : Int)).toNat = N from rfl] at hok14 hle15 ⊢
     rw [bools_rep]
     refine tp rfl (lv_assign rfl) ?_
     refine t_done ?_
     refine q_then_n (hK26 _ _ ?_)
     refine c_seq (fun K27 hK27 => ?_)
     refine c_region ?_
     refine tp rfl (lv_move rfl) ?_
     refine tp rfl (lv_move rfl) ?_
     refine tp rfl (lv_indexAddr (k' := k) Try.underlying38 Try.sizeOf4 rfl rfl hok14 (by omega) (by omega) (by omega)) ?_
     refine ts (sv_sl Try.sizeOf4 rfl rfl rfl (by first | (simp; omega) | omega) bools_set) ?_
     refine t_done ?_
     refine q_then_n (hK27 _ _ ?_)
     refine c_seq (fun K28 hK28 => ?_)
     refine c_seq (fun K29 hK29 => ?_)
     refine c_region ?_
     refine tp rfl (lv_assign rfl) ?_
     refine t_done ?_
     refine q_then_n (hK29 _ _ ?_)
     refine c_block ?_
     refine c_loop (γ := (Nat) × (List Bool)) (fun (r, s) => r ≤ N ∧ RInv N (Bwd es) (fun j => j = k ∨ Sp.Way es j k) r s ∧ s.getD k false = true) (fun (r, s) => [(0, (.int .i64 n)), (1, (.slice bp ps.length cp)), (2, (.int .i64 one)), (3, (.bool failed)), (9, (.bool true)), (10, (.pointer (some ⟨b1, 0, none⟩))), (11, (.int .i64 ((i0 : Nat) : Int))), (12, (.slice bs3 N cp4)), (13, (.int .i64 0)), (14, (.int .i64 ((i1 : Nat) : Int))), (15, (.int .i64 ((k : Nat) : Int))), (16, (.int .i64 w)), (17, (.slice bs8 N cp9)), (18, (.int .i64 0)), (19, (.slice bs12 N cp13)), (20, (.int .i64 ((r : Nat) : Int))), (32, (.bool false)), (52, (.bool false)), (56, (.bool false)), (73, (.bool false)), (92, (.bool false))]) (fun (r, s) => (SlV 4 1 (.slice bs12 N cp13) N (bools s)) :: (SlV 3 1 (.slice bs8 N cp9) N (ints .i64 (verL es (((fives N N)).set k w)))) :: (SlV 3 1 (.slice bEo N cEo) N (ints .i64 (((fives N N)).set k w))) :: (SlV 3 1 (.slice bs3 N cp4) N (ints .i64 (verL es (fives N N)))) :: (Blk b1 [(.int .i64 ((N : Nat) : Int)), (.slice bE N cE), (.slice bEo N cEo)] 25) :: (SlV 23 1 (.slice bE N cE) N vsE) :: (Join (rowsL vsE es)) :: R) (fun (r, s) => N - r) (0, (List.replicate N false).set k true) ⟨by omega, RInv.start hkN (.inl rfl), by rw [setB (by simpa using hkN), if_pos rfl]⟩ ⟨rfl, rfl, rfl, rfl, rfl, rfl, rfl, rfl, rfl, rfl, rfl, rfl, rfl, rfl, rfl, rfl, rfl, rfl, rfl, rfl, rfl, trivial⟩ (fun _ h => h) ?_
     rintro ⟨r, s⟩ K30 hF hK30
     try dsimp only at hF hK30 ⊢
     obtain ⟨hr, hri, hsk⟩ := hF
     have hsl := hri.len
     refine c_seq (fun K31 hK31 => ?_)
     refine c_seq (fun K32 hK32 => ?_)
     refine c_region ?_
     refine tp rfl (lv_move rfl) ?_
     refine tp rfl (lv_fieldAddr (o' := 0) Try.underlying25 rfl Try.sizeOf3 rfl rfl) ?_
     refine tp rfl (lv_load Try.isAgg3 rfl (gives_blk (.tail _ (.tail _ (.tail _ (.tail _ (.head _))))) rfl)) ?_
     by_cases h16 : ((r : Nat) : Int) < ((N : Nat) : Int)
     · -- yes
      refine tp rfl (lv_lss rfl rfl (decide_eq_true h16)) ?_
      refine t_done ?_
      refine q_then_n (hK32 _ _ ?_)
      refine c_true rfl ?_
      refine c_skip ?_
      refine q_then_n (hK31 _ _ ?_)
      refine c_seq (fun K33 hK33 => ?_)
      refine c_block ?_
      refine c_seq (fun K34 hK34 => ?_)
      refine c_region ?_
      refine tp rfl (lv_assign rfl) ?_
      refine t_done ?_
      refine q_then_n (hK34 _ _ ?_)
      refine c_block ?_
      refine c_loop (γ := (Nat) × (List Bool)) (fun (i, s2) => i ≤ N ∧ RMid N (Bwd es) (DoneB es i 0) (fun j => j = k ∨ Sp.Way es j k) s s2) (fun (i, s2) => [(0, (.int .i64 n)), (1, (.slice bp ps.length cp)), (2, (.int .i64 one)), (3, (.bool failed)), (9, (.bool true)), (10, (.pointer (some ⟨b1, 0, none⟩))), (11, (.int .i64 ((i0 : Nat) : Int))), (12, (.slice bs3 N cp4)), (13, (.int .i64 0)), (14, (.int .i64 ((i1 : Nat) : Int))), (15, (.int .i64 ((k : Nat) : Int))), (16, (.int .i64 w)), (17, (.slice bs8 N cp9)), (18, (.int .i64 0)), (19, (.slice bs12 N cp13)), (20, (.int .i64 ((r : Nat) : Int))), (21, (.int .i64 ((i : Nat) : Int))), (32, (.bool false)), (52, (.bool false)), (56, (.bool false)), (73, (.bool false)), (92, (.bool false)), (102, (.bool true))]) (fun (i, s2) => (SlV 4 1 (.slice bs12 N cp13) N (bools s2)) :: (SlV 3 1 (.slice bs8 N cp9) N (ints .i64 (verL es (((fives N N)).set k w)))) :: (SlV 3 1 (.slice bEo N cEo) N (ints .i64 (((fives N N)).set k w))) :: (SlV 3 1 (.slice bs3 N cp4) N (ints .i64 (verL es (fives N N)))) :: (Blk b1 [(.int .i64 ((N : Nat) : Int)), (.slice bE N cE), (.slice bEo N cEo)] 25) :: (SlV 23 1 (.slice bE N cE) N vsE) :: (Join (rowsL vsE es)) :: R) (fun (i, s2) => N - i) (0, s) ⟨by omega, RMid.start hri (fun a b h => doneF_zero b a h)⟩ ⟨rfl, rfl, rfl, rfl, rfl, rfl, rfl, rfl, rfl, rfl, rfl, rfl, rfl, rfl, rfl, rfl, rfl, rfl, rfl, rfl, rfl, rfl, rfl, trivial⟩ (fun _ h => h) ?_
      rintro ⟨i, s2⟩ K35 hF hK35
      try dsimp only at hF hK35 ⊢
      obtain ⟨hi, hmi⟩ := hF
      have hsl2 := hmi.len
      refine c_seq (fun K36 hK36 => ?_)
      refine c_seq (fun K37 hK37 => ?_)
      refine c_region ?_
      refine tp rfl (lv_move rfl) ?_
      refine tp rfl (lv_fieldAddr (o' := 0) Try.underlying25 rfl Try.sizeOf3 rfl rfl) ?_
      refine tp rfl (lv_load Try.isAgg3 rfl (gives_blk (.tail _ (.tail _ (.tail _ (.tail _ (.head _))))) rfl)) ?_
      by_cases h17 : ((i : Nat) : Int) < ((N : Nat) : Int)
      · -- yes
       refine tp rfl (lv_lss rfl rfl (decide_eq_true h17)) ?_
       refine t_done ?_
       refine q_then_n (hK37 _ _ ?_)
       refine c_true rfl ?_
       refine c_skip ?_
       refine q_then_n (hK36 _ _ ?_)
       refine c_seq (fun K38 hK38 => ?_)
       refine c_block ?_
       refine c_seq (fun K39 hK39 => ?_)
       refine c_region ?_
       obtain ⟨bi, ci, hoki, hlei, hvi, hri⟩ := hrowG i (by omega)
       have hlk := hlx _ (row_at_mem (show i < es.length by omega))
       refine tp rfl (lv_assign rfl) ?_
       refine t_done ?_
       refine q_then_n (hK39 _ _ ?_)
       refine c_block ?_
       refine c_loop (γ := (Nat) × (List Bool)) (fun (m, s3) => m ≤ (es.getD i []).length ∧ RMid N (Bwd es) (DoneB es i m) (fun j => j = k ∨ Sp.Way es j k) s s3) (fun (m, s3) => [(0, (.int .i64 n)), (1, (.slice bp ps.length cp)), (2, (.int .i64 one)), (3, (.bool failed)), (9, (.bool true)), (10, (.pointer (some ⟨b1, 0, none⟩))), (11, (.int .i64 ((i0 : Nat) : Int))), (12, (.slice bs3 N cp4)), (13, (.int .i64 0)), (14, (.int .i64 ((i1 : Nat) : Int))), (15, (.int .i64 ((k : Nat) : Int))), (16, (.int .i64 w)), (17, (.slice bs8 N cp9)), (18, (.int .i64 0)), (19, (.slice bs12 N cp13)), (20, (.int .i64 ((r : Nat) : Int))), (21, (.int .i64 ((i : Nat) : Int))), (22, (.int .i64 ((m : Nat) : Int))), (32, (.bool false)), (52, (.bool false)), (56, (.bool false)), (73, (.bool false)), (92, (.bool false)), (102, (.bool true)), (108, (.bool true))]) (fun (m, s3) => (SlV 4 1 (.slice bs12 N cp13) N (bools s3)) :: (SlV 3 1 (.slice bs8 N cp9) N (ints .i64 (verL es (((fives N N)).set k w)))) :: (SlV 3 1 (.slice bEo N cEo) N (ints .i64 (((fives N N)).set k w))) :: (SlV 3 1 (.slice bs3 N cp4) N (ints .i64 (verL es (fives N N)))) :: (Blk b1 [(.int .i64 ((N : Nat) : Int)), (.slice bE N cE), (.slice bEo N cEo)] 25) :: (SlV 23 1 (.slice bE N cE) N vsE) :: (Join (rowsL vsE es)) :: R) (fun (m, s3) => (es.getD i []).length - m) (0, s2) ⟨by omega, hmi⟩ ⟨rfl, rfl, rfl, rfl, rfl, rfl, rfl, rfl, rfl, rfl, rfl, rfl, rfl, rfl, rfl, rfl, rfl, rfl, rfl, rfl, rfl, rfl, rfl, rfl, rfl, trivial⟩ (fun _ h => h) ?_
       rintro ⟨m, s3⟩ K40 hF hK40
       try dsimp only at hF hK40 ⊢
       obtain ⟨hm, hmm⟩ := hF
       have hsl3 := hmm.len
       refine c_seq (fun K41 hK41 => ?_)
       refine c_seq (fun K42 hK42 => ?_)
       refine c_region ?_
       refine tp rfl (lv_move rfl) ?_
       refine tp rfl (lv_fieldAddr (o' := 1) Try.underlying25 rfl Try.sizeOf22 rfl rfl) ?_
       refine tp rfl (lv_load Try.isAgg22 rfl (gives_blk (.tail _ (.tail _ (.tail _ (.tail _ (.head _))))) rfl)) ?_
       refine tp rfl (lv_move rfl) ?_
       refine tp rfl (lv_indexAddr (k' := i) Try.underlying22 Try.sizeOf23 rfl rfl hokE (by omega) (by omega) (by omega)) ?_
       refine tp rfl (lv_load Try.isAgg23 rfl (gives_as hvi (Rd.gives (Rd.cons (Rd.cons (Rd.cons (Rd.cons (Rd.cons hvsG))))) (vals_get (by omega))))) ?_
       refine tp rfl (lv_len Try.underlying23 rfl rfl) ?_
       by_cases h18 : ((m : Nat) : Int) < (((es.getD i []).length : Nat) : Int)
       · -- yes
        refine tp rfl (lv_lss rfl rfl (decide_eq_true h18)) ?_
        refine t_done ?_
        refine q_then_n (hK42 _ _ ?_)
        refine c_true rfl ?_
        refine c_skip ?_
        refine q_then_n (hK41 _ _ ?_)
        refine c_seq (fun K43 hK43 => ?_)
        refine c_block ?_
        refine c_region ?_
        have hat := hfo.at_ (i := i) (k := m) (by omega)
        refine tp rfl (lv_move rfl) ?_
        refine tp rfl (lv_move rfl) ?_
        refine tp rfl (lv_move rfl) ?_
        refine tp rfl (lv_move rfl) ?_
        refine tp rfl (lv_indexAddr (k' := i) Try.underlying38 Try.sizeOf4 rfl rfl hok14 (by omega) (by omega) (by omega)) ?_
        refine tp rfl (lv_load Try.isAgg4 rfl (gives_sl (.head _) (bools_get (by omega)))) ?_
        refine tp rfl (lv_move rfl) ?_
        rcases hb19 : (s3).getD i false with _ | _
        · -- false
         refine t_guard rfl rfl ?_
         refine tp rfl (lv_move rfl) ?_
         refine t_guard rfl rfl ?_
         refine tp rfl (lv_fieldAddr (o' := 1) Try.underlying25 rfl Try.sizeOf22 rfl rfl) ?_
         refine t_guard rfl rfl ?_
         refine tp rfl (lv_load Try.isAgg22 rfl (gives_blk (.tail _ (.tail _ (.tail _ (.tail _ (.head _))))) rfl)) ?_
         refine t_guard rfl rfl ?_
         refine tp rfl (lv_move rfl) ?_
         refine t_guard rfl rfl ?_
         refine tp rfl (lv_indexAddr (k' := i) Try.underlying22 Try.sizeOf23 rfl rfl hokE (by omega) (by omega) (by omega)) ?_
         refine t_guard rfl rfl ?_
         refine tp rfl (lv_load Try.isAgg23 rfl (gives_as hvi (Rd.gives (Rd.cons (Rd.cons (Rd.cons (Rd.cons (Rd.cons hvsG))))) (vals_get (by omega))))) ?_
         refine t_guard rfl rfl ?_
         refine tp rfl (lv_move rfl) ?_
         refine t_guard rfl rfl ?_
         refine tp rfl (lv_indexAddr (k' := m) Try.underlying23 Try.sizeOf3 rfl rfl hoki (by omega) (by omega) (by omega)) ?_
         refine t_guard rfl rfl ?_
         refine tp rfl (lv_load Try.isAgg3 rfl (Rd.gives (Rd.cons (Rd.cons (Rd.cons (Rd.cons (Rd.cons hri))))) (ints_get (by omega)))) ?_
         refine t_guard rfl rfl ?_
         refine tp rfl (lv_indexAddr (k' := ((es.getD i []).getD m 0).toNat) Try.underlying38 Try.sizeOf4 rfl rfl hok14 (by omega) (by omega) (by omega)) ?_
         refine t_guard rfl rfl ?_
         refine tp rfl (lv_load Try.isAgg4 rfl (gives_sl (.head _) (bools_get (by omega)))) ?_
         refine tp rfl (lv_pick_f rfl rfl) ?_
         refine tp rfl (lv_indexAddr (k' := i) Try.underlying38 Try.sizeOf4 rfl rfl hok14 (by omega) (by omega) (by omega)) ?_
         refine ts (sv_sl Try.sizeOf4 rfl rfl rfl (by rw [bools_length]; omega) bools_set) ?_
         refine t_done ?_
         refine q_in_n ?_
         refine q_then_n (hK43 _ _ ?_)
         refine c_region ?_
         refine tp rfl (lv_move rfl) ?_
         refine tp rfl (lv_add (c := ((m + 1 : Nat) : Int)) rfl rfl (wr_i64_succ (by omega))) ?_
         refine tp rfl (lv_assign rfl) ?_
         refine t_done ?_
         refine q_then_n ?_
         exact t_weak (by exact ⟨rfl, rfl, rfl, rfl, rfl, rfl, rfl, rfl, rfl, rfl, rfl, rfl, rfl, rfl, rfl, rfl, rfl, rfl, rfl, rfl, rfl, rfl, rfl, rfl, rfl, trivial⟩) ((hK40 (m + 1, (s3).set i ((s3).getD (((es.getD i []).getD m 0).toNat) false)) ⟨by dsimp only; omega, hmm.put (a := ((es.getD i []).getD m 0).toNat) (edge_of hin (getD_mem_i (by omega))) (by omega) (fun q => .inr (q.elim (fun e => .one (e ▸ edge_of hin (getD_mem_i (by omega)))) (fun e => .cons (edge_of hin (getD_mem_i (by omega))) e))) ⟨fun q => .inr q, fun q => q.elim (fun e => by rw [hb19] at e; cases e) id⟩ (fun x y h => (doneF_succ (by omega) h).imp id (fun q => ⟨q.2, q.1⟩))⟩ (by dsimp only; omega)))
        · -- true
         refine t_skip rfl rfl rfl ?_
         refine t_skip rfl rfl rfl ?_
         refine t_skip rfl rfl rfl ?_
         refine t_skip rfl rfl rfl ?_
         refine t_skip rfl rfl rfl ?_
         refine t_skip rfl rfl rfl ?_
         refine t_skip rfl rfl rfl ?_
         refine t_skip rfl rfl rfl ?_
         refine t_skip rfl rfl rfl ?_
         refine t_skip rfl rfl rfl ?_
         refine t_skip rfl rfl rfl ?_
         refine tp rfl (lv_pick_t rfl rfl) ?_
         refine tp rfl (lv_indexAddr (k' := i) Try.underlying38 Try.sizeOf4 rfl rfl hok14 (by omega) (by omega) (by omega)) ?_
         refine ts (sv_sl Try.sizeOf4 rfl rfl rfl (by rw [bools_length]; omega) bools_set) ?_
         refine t_done ?_
         refine q_in_n ?_
         refine q_then_n (hK43 _ _ ?_)
         refine c_region ?_
         refine tp rfl (lv_move rfl) ?_
         refine tp rfl (lv_add (c := ((m + 1 : Nat) : Int)) rfl rfl (wr_i64_succ (by omega))) ?_
         refine tp rfl (lv_assign rfl) ?_
         refine t_done ?_
         refine q_then_n ?_
         exact t_weak (by exact ⟨rfl, rfl, rfl, rfl, rfl, rfl, rfl, rfl, rfl, rfl, rfl, rfl, rfl, rfl, rfl, rfl, rfl, rfl, rfl, rfl, rfl, rfl, rfl, rfl, rfl, trivial⟩) ((hK40 (m + 1, (s3).set i true) ⟨by dsimp only; omega, hmm.put (a := ((es.getD i []).getD m 0).toNat) (edge_of hin (getD_mem_i (by omega))) (by omega) (fun q => .inr (q.elim (fun e => .one (e ▸ edge_of hin (getD_mem_i (by omega)))) (fun e => .cons (edge_of hin (getD_mem_i (by omega))) e))) ⟨fun _ => .inl hb19, fun _ => rfl⟩ (fun x y h => (doneF_succ (by omega) h).imp id (fun q => ⟨q.2, q.1⟩))⟩ (by dsimp only; omega)))
       · -- no
        refine tp rfl (lv_lss rfl rfl (decide_eq_false h18)) ?_
        refine t_done ?_
        refine q_then_n (hK42 _ _ ?_)
        refine c_false rfl ?_
        refine c_exit ?_
        refine q_then_x ?_
        refine q_then_x ?_
        refine q_in_x ?_
        refine q_in_n ?_
        refine q_then_n (hK38 _ _ ?_)
        refine c_region ?_
        refine tp rfl (lv_move rfl) ?_
        refine tp rfl (lv_add (c := ((i + 1 : Nat) : Int)) rfl rfl (wr_i64_succ (by omega))) ?_
        refine tp rfl (lv_assign rfl) ?_
        refine t_done ?_
        refine q_then_n ?_
        exact t_weak (by exact ⟨rfl, rfl, rfl, rfl, rfl, rfl, rfl, rfl, rfl, rfl, rfl, rfl, rfl, rfl, rfl, rfl, rfl, rfl, rfl, rfl, rfl, rfl, rfl, trivial⟩) ((hK35 (i + 1, s3) ⟨by dsimp only; omega, hmm.skip (fun x y h => .inl (doneF_row (by omega) h))⟩ (by dsimp only; omega)))
      · -- no
       refine tp rfl (lv_lss rfl rfl (decide_eq_false h17)) ?_
       refine t_done ?_
       refine q_then_n (hK37 _ _ ?_)
       refine c_false rfl ?_
       refine c_exit ?_
       refine q_then_x ?_
       refine q_then_x ?_
       refine q_in_x ?_
       refine q_in_n ?_
       refine q_then_n (hK33 _ _ ?_)
       refine c_region ?_
       refine tp rfl (lv_move rfl) ?_
       refine tp rfl (lv_add (c := ((r + 1 : Nat) : Int)) rfl rfl (wr_i64_succ (by omega))) ?_
       refine tp rfl (lv_assign rfl) ?_
       refine t_done ?_
       refine q_then_n ?_
       exact t_weak (by exact ⟨rfl, rfl, rfl, rfl, rfl, rfl, rfl, rfl, rfl, rfl, rfl, rfl, rfl, rfl, rfl, rfl, rfl, rfl, rfl, rfl, rfl, trivial⟩) ((hK30 (r + 1, s2) ⟨by dsimp only; omega, hmi.end_ hri (fun a b h => doneF_all hel (by omega) h), hmi.keep hsk⟩ (by dsimp only; omega)))
     · -- no
      refine tp rfl (lv_lss rfl rfl (decide_eq_false h16)) ?_
      refine t_done ?_
      refine q_then_n (hK32 _ _ ?_)
      refine c_false rfl ?_
      refine c_exit ?_
      refine q_then_x ?_
      refine q_then_x ?_
      refine q_in_x ?_
      refine q_then_n (hK28 _ _ ?_)
      refine c_seq (fun K33 hK33 => ?_)
      refine c_seq (fun K34 hK34 => ?_)
      refine c_region ?_
      have hrN : RInv N (Bwd es) (fun j => j = k ∨ Sp.Way es j k) N s := (show r = N by omega) ▸ hri
      refine tp rfl (lv_assign rfl) ?_
      refine t_done ?_
      refine q_then_n (hK34 _ _ ?_)
      refine c_block ?_
      refine c_loop (γ := (Nat)) (fun (i2 : Nat) => i2 ≤ N) (fun (i2 : Nat) => [(0, (.int .i64 n)), (1, (.slice bp ps.length cp)), (2, (.int .i64 one)), (3, (.bool failed)), (9, (.bool true)), (10, (.pointer (some ⟨b1, 0, none⟩))), (11, (.int .i64 ((i0 : Nat) : Int))), (12, (.slice bs3 N cp4)), (13, (.int .i64 0)), (14, (.int .i64 ((i1 : Nat) : Int))), (15, (.int .i64 ((k : Nat) : Int))), (16, (.int .i64 w)), (17, (.slice bs8 N cp9)), (18, (.int .i64 0)), (19, (.slice bs12 N cp13)), (20, (.int .i64 ((r : Nat) : Int))), (23, (.int .i64 ((i2 : Nat) : Int))), (32, (.bool false)), (52, (.bool false)), (56, (.bool false)), (73, (.bool false)), (92, (.bool false)), (102, (.bool false))]) (fun (i2 : Nat) => (SlV 4 1 (.slice bs12 N cp13) N (bools s)) :: (SlV 3 1 (.slice bs8 N cp9) N (ints .i64 (verL es (((fives N N)).set k w)))) :: (SlV 3 1 (.slice bEo N cEo) N (ints .i64 (((fives N N)).set k w))) :: (SlV 3 1 (.slice bs3 N cp4) N (ints .i64 (verL es (fives N N)))) :: (Blk b1 [(.int .i64 ((N : Nat) : Int)), (.slice bE N cE), (.slice bEo N cEo)] 25) :: (SlV 23 1 (.slice bE N cE) N vsE) :: (Join (rowsL vsE es)) :: R) (fun (i2 : Nat) => N - i2) (0) (by omega) ⟨rfl, rfl, rfl, rfl, rfl, rfl, rfl, rfl, rfl, rfl, rfl, rfl, rfl, rfl, rfl, rfl, rfl, rfl, rfl, rfl, rfl, rfl, rfl, trivial⟩ (fun _ h => h) ?_
      rintro i2 K35 hF hK35
      try dsimp only at hF hK35 ⊢
      have hsl := hri.len
      refine c_seq (fun K36 hK36 => ?_)
      refine c_seq (fun K37 hK37 => ?_)
      refine c_region ?_
      refine tp rfl (lv_move rfl) ?_
      refine tp rfl (lv_fieldAddr (o' := 0) Try.underlying25 rfl Try.sizeOf3 rfl rfl) ?_
      refine tp rfl (lv_load Try.isAgg3 rfl (gives_blk (.tail _ (.tail _ (.tail _ (.tail _ (.head _))))) rfl)) ?_
      by_cases h20 : ((i2 : Nat) : Int) < ((N : Nat) : Int)
      · -- yes
       refine tp rfl (lv_lss rfl rfl (decide_eq_true h20)) ?_
       refine t_done ?_
       refine q_then_n (hK37 _ _ ?_)
       refine c_true rfl ?_
       refine c_skip ?_
       refine q_then_n (hK36 _ _ ?_)
       refine c_seq (fun K38 hK38 => ?_)
       refine c_block ?_
       refine c_seq (fun K39 hK39 => ?_)
       refine c_region ?_
       refine tp rfl (lv_move rfl) ?_
       refine tp rfl (lv_move rfl) ?_
       refine tp rfl (lv_indexAddr (k' := i2) Try.underlying23 Try.sizeOf3 rfl rfl hok5 (by omega) (by omega) (by omega)) ?_
       refine tp rfl (lv_load Try.isAgg3 rfl (gives_sl (.tail _ (.tail _ (.tail _ (.head _)))) (ints_get (by omega)))) ?_
       refine tp rfl (lv_assign rfl) ?_
       refine t_done ?_
       refine q_then_n (hK39 _ _ ?_)
       refine c_seq (fun K40 hK40 => ?_)
       refine c_seq (fun K41 hK41 => ?_)
       refine c_region ?_
       refine tp rfl (lv_move rfl) ?_
       refine tp rfl (lv_move rfl) ?_
       refine tp rfl (lv_indexAddr (k' := i2) Try.underlying38 Try.sizeOf4 rfl rfl hok14 (by omega) (by omega) (by omega)) ?_
       refine tp rfl (lv_load Try.isAgg4 rfl (gives_sl (.head _) (bools_get (by omega)))) ?_
       refine tp rfl (lv_move rfl) ?_
       rcases hb21 : (s).getD i2 false with _ | _
       · -- false
        refine t_skip rfl rfl rfl ?_
        refine t_skip rfl rfl rfl ?_
        refine t_skip rfl rfl rfl ?_
        refine t_skip rfl rfl rfl ?_
        refine t_skip rfl rfl rfl ?_
        refine tp rfl (lv_pick_f rfl rfl) ?_
        refine t_done ?_
        refine q_then_n (hK41 _ _ ?_)
        refine c_false rfl ?_
        refine c_skip ?_
        refine q_then_n (hK40 _ _ ?_)
        refine c_seq (fun K42 hK42 => ?_)
        refine c_region ?_
        refine tp rfl (lv_move rfl) ?_
        refine tp rfl (lv_move rfl) ?_
        refine tp rfl (lv_indexAddr (k' := i2) Try.underlying23 Try.sizeOf3 rfl rfl hok10 (by omega) (by omega) (by omega)) ?_
        refine tp rfl (lv_load Try.isAgg3 rfl (gives_sl (.tail _ (.head _)) (ints_get (by omega)))) ?_
        refine tp rfl (lv_move rfl) ?_
        refine tp rfl (lv_neq rfl rfl (bne_eq_false_iff_eq.2 (by rw [all_wantL hfo hfw hkN hw (by omega) hrN hsk, if_neg (fun q => by rw [hb21] at q; cases q.1)]))) ?_
        refine t_done ?_
        refine q_then_n (hK42 _ _ ?_)
        refine c_false rfl ?_
        refine c_skip ?_
        refine q_in_n ?_
        refine q_then_n (hK38 _ _ ?_)
        refine c_region ?_
        refine tp rfl (lv_move rfl) ?_
        refine tp rfl (lv_add (c := ((i2 + 1 : Nat) : Int)) rfl rfl (wr_i64_succ (by omega))) ?_
        refine tp rfl (lv_assign rfl) ?_
        refine t_done ?_
        refine q_then_n ?_
        exact t_weak (by exact ⟨rfl, rfl, rfl, rfl, rfl, rfl, rfl, rfl, rfl, rfl, rfl, rfl, rfl, rfl, rfl, rfl, rfl, rfl, rfl, rfl, rfl, rfl, rfl, trivial⟩) ((hK35 (i2 + 1) (by omega) (by omega)))
       · -- true
        refine t_guard rfl rfl ?_
        refine tp rfl (lv_move rfl) ?_
        refine t_guard rfl rfl ?_
        refine tp rfl (lv_move rfl) ?_
        refine t_guard rfl rfl ?_
        refine tp rfl (lv_indexAddr (k' := i2) Try.underlying23 Try.sizeOf3 rfl rfl hok5 (by omega) (by omega) (by omega)) ?_
        refine t_guard rfl rfl ?_
        refine tp rfl (lv_load Try.isAgg3 rfl (gives_sl (.tail _ (.tail _ (.tail _ (.head _)))) (ints_get (by omega)))) ?_
        refine t_guard rfl rfl ?_
        by_cases h22 : ((verL es (fives N N)).getD i2 0) = 5
        · -- yes
         refine tp rfl (lv_eql rfl rfl (beq_iff_eq.2 h22)) ?_
         refine tp rfl (lv_pick_t rfl rfl) ?_
         refine t_done ?_
         refine q_then_n (hK41 _ _ ?_)
         refine c_true rfl ?_
         refine c_region ?_
         refine tp rfl (lv_move rfl) ?_
         refine tp rfl (lv_assign rfl) ?_
         refine t_done ?_
         refine q_then_n (hK40 _ _ ?_)
         refine c_seq (fun K42 hK42 => ?_)
         refine c_region ?_
         refine tp rfl (lv_move rfl) ?_
         refine tp rfl (lv_move rfl) ?_
         refine tp rfl (lv_indexAddr (k' := i2) Try.underlying23 Try.sizeOf3 rfl rfl hok10 (by omega) (by omega) (by omega)) ?_
         refine tp rfl (lv_load Try.isAgg3 rfl (gives_sl (.tail _ (.head _)) (ints_get (by omega)))) ?_
         refine tp rfl (lv_move rfl) ?_
         refine tp rfl (lv_neq rfl rfl (bne_eq_false_iff_eq.2 (by rw [all_wantL hfo hfw hkN hw (by omega) hrN hsk, if_pos ⟨hb21, h22⟩]))) ?_
         refine t_done ?_
         refine q_then_n (hK42 _ _ ?_)
         refine c_false rfl ?_
         refine c_skip ?_
         refine q_in_n ?_
         refine q_then_n (hK38 _ _ ?_)
         refine c_region ?_
         refine tp rfl (lv_move rfl) ?_
         refine tp rfl (lv_add (c := ((i2 + 1 : Nat) : Int)) rfl rfl (wr_i64_succ (by omega))) ?_
         refine tp rfl (lv_assign rfl) ?_
         refine t_done ?_
         refine q_then_n ?_
         exact t_weak (by exact ⟨rfl, rfl, rfl, rfl, rfl, rfl, rfl, rfl, rfl, rfl, rfl, rfl, rfl, rfl, rfl, rfl, rfl, rfl, rfl, rfl, rfl, rfl, rfl, trivial⟩) ((hK35 (i2 + 1) (by omega) (by omega)))
        · -- no
         refine tp rfl (lv_eql rfl rfl (beq_eq_false_iff_ne.2 h22)) ?_
         refine tp rfl (lv_pick_t rfl rfl) ?_
         refine t_done ?_
         refine q_then_n (hK41 _ _ ?_)
         refine c_false rfl ?_
         refine c_skip ?_
         refine q_then_n (hK40 _ _ ?_)
         refine c_seq (fun K42 hK42 => ?_)
         refine c_region ?_
         refine tp rfl (lv_move rfl) ?_
         refine tp rfl (lv_move rfl) ?_
         refine tp rfl (lv_indexAddr (k' := i2) Try.underlying23 Try.sizeOf3 rfl rfl hok10 (by omega) (by omega) (by omega)) ?_
         refine tp rfl (lv_load Try.isAgg3 rfl (gives_sl (.tail _ (.head _)) (ints_get (by omega)))) ?_
         refine tp rfl (lv_move rfl) ?_
         refine tp rfl (lv_neq rfl rfl (bne_eq_false_iff_eq.2 (by rw [all_wantL hfo hfw hkN hw (by omega) hrN hsk, if_neg (fun q => h22 q.2)]))) ?_
         refine t_done ?_
         refine q_then_n (hK42 _ _ ?_)
         refine c_false rfl ?_
         refine c_skip ?_
         refine q_in_n ?_
         refine q_then_n (hK38 _ _ ?_)
         refine c_region ?_
         refine tp rfl (lv_move rfl) ?_
         refine tp rfl (lv_add (c := ((i2 + 1 : Nat) : Int)) rfl rfl (wr_i64_succ (by omega))) ?_
         refine tp rfl (lv_assign rfl) ?_
         refine t_done ?_
         refine q_then_n ?_
         exact t_weak (by exact ⟨rfl, rfl, rfl, rfl, rfl, rfl, rfl, rfl, rfl, rfl, rfl, rfl, rfl, rfl, rfl, rfl, rfl, rfl, rfl, rfl, rfl, rfl, rfl, trivial⟩) ((hK35 (i2 + 1) (by omega) (by omega)))
      · -- no
       refine tp rfl (lv_lss rfl rfl (decide_eq_false h20)) ?_
       refine t_done ?_
       refine q_then_n (hK37 _ _ ?_)
       refine c_false rfl ?_
       refine c_exit ?_
       refine q_then_x ?_
       refine q_then_x ?_
       refine q_in_x ?_
       refine q_then_n (hK33 _ _ ?_)
       refine c_seq (fun K38 hK38 => ?_)
       refine c_region ?_
       refine tp rfl (lv_move rfl) ?_
       refine tp rfl (lv_assign rfl) ?_
       refine t_done ?_
       refine q_then_n (hK38 _ _ ?_)
       refine c_ret ?_
       refine t_drop ?_
       refine t_drop ?_
       refine t_drop ?_
       refine t_drop ?_
       refine t_drop ?_
       refine t_drop ?_
       refine t_drop ?_
       refine q_ret rfl rfl ?_
       exact ⟨rfl, rfl⟩
    refine c_seq (fun K22 hK22 => ?_)
    refine c_region ?_
    refine tp rfl (lv_move rfl) ?_
    refine t_done ?_
    refine q_then_n (hK22 _ _ ?_)
    refine c_split rfl (fun c23 => ?_) (fun c23 => ?_)
    · -- true
     refine c_region ?_
     refine tp rfl (lv_assign rfl) ?_
     refine t_done ?_
     refine q_then_n ?_
     exact t_weak (by exact ⟨rfl, rfl, rfl, rfl, rfl, rfl, rfl, rfl, rfl, rfl, rfl, rfl, rfl, rfl, rfl, rfl, trivial⟩) (hM21 6 ⟨by omega, trivial⟩)
    · -- false
     refine c_skip ?_
     refine q_then_n ?_
     exact t_weak (by exact ⟨rfl, rfl, rfl, rfl, rfl, rfl, rfl, rfl, rfl, rfl, rfl, rfl, rfl, rfl, rfl, rfl, trivial⟩) (hM21 0 ⟨by omega, trivial⟩)
end Go.Proofs.Ytljnaefaahphaaa
