/- VerdictFixed: the law's walk. -/
import Derived.Test.YtljnaefaahphaaaLa
import Derived.Test.YtljnaefaahphaaaVde
set_option maxRecDepth 100000
set_option linter.unusedVariables false
set_option linter.unusedSimpArgs false
namespace Go.Proofs.Ytljnaefaahphaaa
open Go Go.Proofs Sp
set_option maxHeartbeats 4000000 in
theorem fixed_law {R : List HP} {bp bw : Option Addr} {cp cw : Nat} (n : Int) {N : Nat} (hN : n % 65536 % 65 = N) (ps : List (Int × Int)) (ow : List Int) (hrp : Rd R bp (recs pu8F ps)) (okp : SlOk bp ps.length) (hrw : Rd R bw (ints .u8 ow)) (okw : SlOk bw ow.length) (hgp : ∀ e ∈ ps, (0 ≤ e.1 ∧ e.1 ≤ 255) ∧ 0 ≤ e.2 ∧ e.2 ≤ 255) (hgw : ∀ x ∈ ow, 0 ≤ x ∧ x ≤ 255) (lp : ps.length ≤ 9223372036854775807) (lw : ow.length ≤ 9223372036854775807) :
    Ok Try.prog 4 [(.int .i64 n), (.slice bp ps.length cp), (.slice bw ow.length cw)] R
      (fun v M => v = .bool true ∧ M = R) := by
 refine ok_of (N := 105) Try.func4 rfl rfl rfl (fun W => ?_)
 refine c_seq (fun K1 hK1 => ?_)
 refine c_region ?_
 refine tp rfl (lv_assign rfl) ?_
 refine t_done ?_
 refine q_then_n (hK1 _ _ ?_)
 refine c_seq (fun K2 hK2 => ?_)
 refine c_region ?_
 refine tc rfl (en_fn Try.call9 rfl) (shown_ok) ?_
 rintro _ _ ⟨rfl, hMR⟩
 rw [hMR]; clear hMR
 refine tp rfl (lv_assign rfl) ?_
 refine t_done ?_
 refine q_then_n (hK2 _ _ ?_)
 refine c_seq (fun K3 hK3 => ?_)
 refine c_region ?_
 refine tp rfl (lv_move rfl) ?_
 refine tp rfl (lv_move rfl) ?_
 refine tp rfl (lv_move rfl) ?_
 refine tc rfl (en_fn Try.call14 rfl) (made_ok n (N := N) hN ps ow hrp okp hrw okw hgp hgw (by omega) (by omega)) ?_
 rintro _ _ ⟨bE, cE, bEo, cEo, vsE, ⟨hokE, hleE, hokEo, hleEo, hvlE⟩, rfl, rfl⟩
 refine tm rfl (mv_alloc Try.zeroValue25 rfl) ?_
 rintro _ _ ⟨b1, rfl, rfl⟩
 refine ts (sv_blkAgg (news := [(.int .i64 ((N : Nat) : Int)), (.slice bE N cE), (.slice bEo N cEo)]) Try.sizeOf25 rfl rfl rfl rfl (Nat.le_of_ble_eq_true rfl) rfl) ?_
 refine t_done ?_
 refine q_then_n (hK3 _ _ ?_)
 refine c_seq (fun K4 hK4 => ?_)
 refine c_region ?_
 have hN64 : N ≤ 64 := by omega
 have hfo := made_fok hN64 (ps.take 200) ow
 have hlx := madeG_rows N (ps.take 200) (by rw [List.length_take]; omega)
 obtain ⟨es, hes⟩ : ∃ x, madeG N (ps.take 200) = x := ⟨_, rfl⟩
 rw [hes] at hfo hlx ⊢
 obtain ⟨own, hown⟩ : ∃ x, madeO N ow = x := ⟨_, rfl⟩
 rw [hown] at hfo ⊢
 have hel := hfo.le
 have hol := hfo.lo
 have hin := hfo.in_
 refine t_f2 ?_
 refine t_f1 ?_
 refine t_learn (fun _ h => gridR_own (L := (SlV 23 1 (.slice bE N cE) N vsE) :: (Join (rowsL vsE es)) :: R) (.head _) (.tail _ (.head _)) (by omega) (h.drop.drop)) (fun hG => ?_)
 have hG0 := hG
 obtain ⟨vsG, hvlG, hvsG, hrowG⟩ := hG0
 refine tp rfl (lv_loadAgg (cs := [(.int .i64 ((N : Nat) : Int)), (.slice bE N cE), (.slice bEo N cEo)]) Try.isAgg25 Try.sizeOf25 rfl (gives_all3 (gives_blk (.head _) rfl) (gives_blk (.head _) rfl) (gives_blk (.head _) rfl))) ?_
 refine tc rfl (en_fn Try.call11 rfl) (of_ok (N := N) (es := es) (own := own) (hfo) ((hG.cons).cons) hokE (rd_sl (.tail _ (.head _))) hokEo hlx) ?_
 rintro _ _ ⟨bs2, cp3, hok4, hle5, rfl, rfl⟩
 refine tp rfl (lv_move rfl) ?_
 refine tp rfl (lv_extract rfl rfl) ?_
 refine tp rfl (lv_extract rfl rfl) ?_
 refine tp rfl (lv_assign rfl) ?_
 refine tp rfl (lv_assign rfl) ?_
 refine t_done ?_
 refine q_then_n (hK4 _ _ ?_)
 refine c_seq (fun K5 hK5 => ?_)
 refine c_seq (fun K6 hK6 => ?_)
 refine c_region ?_
 refine tp rfl (lv_move rfl) ?_
 refine tp rfl (lv_neq (r := false) rfl rfl (by decide)) ?_
 refine tp rfl (lv_move rfl) ?_
 refine t_guard rfl rfl ?_
 refine tp rfl (lv_move rfl) ?_
 refine t_guard rfl rfl ?_
 refine tp rfl (lv_len Try.underlying23 rfl rfl) ?_
 refine t_guard rfl rfl ?_
 refine tp rfl (lv_fieldAddr (o' := 0) Try.underlying25 rfl Try.sizeOf3 rfl rfl) ?_
 refine t_guard rfl rfl ?_
 refine tp rfl (lv_load Try.isAgg3 rfl (gives_blk (.tail _ (.head _)) rfl)) ?_
 refine t_guard rfl rfl ?_
 refine tp rfl (lv_neq rfl rfl (bne_eq_false_iff_eq.2 rfl)) ?_
 refine tp rfl (lv_pick_f rfl rfl) ?_
 refine t_done ?_
 refine q_then_n (hK6 _ _ ?_)
 refine c_false rfl ?_
 refine c_skip ?_
 refine q_then_n (hK5 _ _ ?_)
 refine c_seq (fun K7 hK7 => ?_)
 refine c_seq (fun K8 hK8 => ?_)
 refine c_region ?_
 refine tp rfl (lv_assign rfl) ?_
 refine t_done ?_
 refine q_then_n (hK8 _ _ ?_)
 refine c_block ?_
 refine c_loop (γ := (Nat)) (fun (i : Nat) => i ≤ N) (fun (i : Nat) => [(0, (.int .i64 n)), (1, (.slice bp ps.length cp)), (2, (.slice bw ow.length cw)), (7, (.bool true)), (8, (.pointer (some ⟨b1, 0, none⟩))), (9, (.slice bs2 N cp3)), (10, (.int .i64 0)), (11, (.int .i64 ((i : Nat) : Int))), (36, (.bool false))]) (fun (i : Nat) => (SlV 3 1 (.slice bs2 N cp3) N (ints .i64 (verL es own))) :: (Blk b1 [(.int .i64 ((N : Nat) : Int)), (.slice bE N cE), (.slice bEo N cEo)] 25) :: (SlV 3 1 (.slice bEo N cEo) N (ints .i64 own)) :: (SlV 23 1 (.slice bE N cE) N vsE) :: (Join (rowsL vsE es)) :: R) (fun (i : Nat) => N - i) (0) (by omega) ⟨rfl, rfl, rfl, rfl, rfl, rfl, rfl, rfl, rfl, trivial⟩ (fun _ h => h) ?_
 rintro i K9 hF hK9
 try dsimp only at hF hK9 ⊢
 refine c_seq (fun K10 hK10 => ?_)
 refine c_seq (fun K11 hK11 => ?_)
 refine c_region ?_
 refine tp rfl (lv_move rfl) ?_
 refine tp rfl (lv_fieldAddr (o' := 0) Try.underlying25 rfl Try.sizeOf3 rfl rfl) ?_
 refine tp rfl (lv_load Try.isAgg3 rfl (gives_blk (.tail _ (.head _)) rfl)) ?_
 by_cases h6 : ((i : Nat) : Int) < ((N : Nat) : Int)
 · -- yes
  refine tp rfl (lv_lss rfl rfl (decide_eq_true h6)) ?_
  refine t_done ?_
  refine q_then_n (hK11 _ _ ?_)
  refine c_true rfl ?_
  refine c_skip ?_
  refine q_then_n (hK10 _ _ ?_)
  refine c_seq (fun K12 hK12 => ?_)
  refine c_block ?_
  refine c_seq (fun K13 hK13 => ?_)
  refine c_region ?_
  refine tp rfl (lv_assign rfl) ?_
  refine t_done ?_
  refine q_then_n (hK13 _ _ ?_)
  refine c_seq (fun K14 hK14 => ?_)
  refine c_region ?_
  refine tp rfl (lv_assign rfl) ?_
  refine t_done ?_
  refine q_then_n (hK14 _ _ ?_)
  refine c_seq (fun K15 hK15 => ?_)
  refine c_region ?_
  refine tp rfl (lv_assign rfl) ?_
  refine t_done ?_
  refine q_then_n (hK15 _ _ ?_)
  refine c_seq (fun K16 hK16 => ?_)
  refine c_seq (fun K17 hK17 => ?_)
  refine c_region ?_
  obtain ⟨bi, ci, hoki, hlei, hvi, hri⟩ := hrowG i (by omega)
  have hlk := hlx _ (row_at_mem (show i < es.length by omega))
  refine tp rfl (lv_assign rfl) ?_
  refine t_done ?_
  refine q_then_n (hK17 _ _ ?_)
  refine c_block ?_
  refine c_loop (γ := (Nat) × (Bool) × (Bool) × (Bool)) (fun (k, d, f, c) => k ≤ (es.getD i []).length ∧ FixI es own i k d f c) (fun (k, d, f, c) => [(0, (.int .i64 n)), (1, (.slice bp ps.length cp)), (2, (.slice bw ow.length cw)), (7, (.bool true)), (8, (.pointer (some ⟨b1, 0, none⟩))), (9, (.slice bs2 N cp3)), (10, (.int .i64 0)), (11, (.int .i64 ((i : Nat) : Int))), (12, (.bool d)), (13, (.bool f)), (14, (.bool c)), (15, (.int .i64 ((k : Nat) : Int))), (36, (.bool false)), (40, (.bool true))]) (fun (k, d, f, c) => (SlV 3 1 (.slice bs2 N cp3) N (ints .i64 (verL es own))) :: (Blk b1 [(.int .i64 ((N : Nat) : Int)), (.slice bE N cE), (.slice bEo N cEo)] 25) :: (SlV 3 1 (.slice bEo N cEo) N (ints .i64 own)) :: (SlV 23 1 (.slice bE N cE) N vsE) :: (Join (rowsL vsE es)) :: R) (fun (k, d, f, c) => (es.getD i []).length - k) (0, true, false, false) ⟨by omega, FixI.start es own i⟩ ⟨rfl, rfl, rfl, rfl, rfl, rfl, rfl, rfl, rfl, rfl, rfl, rfl, rfl, rfl, trivial⟩ (fun _ h => h) ?_
  rintro ⟨k, d, f, c⟩ K18 hF hK18
  try dsimp only at hF hK18 ⊢
  obtain ⟨hk, hfx⟩ := hF
  refine c_seq (fun K19 hK19 => ?_)
  refine c_seq (fun K20 hK20 => ?_)
  refine c_region ?_
  refine tp rfl (lv_move rfl) ?_
  refine tp rfl (lv_fieldAddr (o' := 1) Try.underlying25 rfl Try.sizeOf22 rfl rfl) ?_
  refine tp rfl (lv_load Try.isAgg22 rfl (gives_blk (.tail _ (.head _)) rfl)) ?_
  refine tp rfl (lv_move rfl) ?_
  refine tp rfl (lv_indexAddr (k' := i) Try.underlying22 Try.sizeOf23 rfl rfl hokE (by omega) (by omega) (by omega)) ?_
  refine tp rfl (lv_load Try.isAgg23 rfl (gives_as hvi (Rd.gives (Rd.cons (Rd.cons (Rd.cons hvsG))) (vals_get (by omega))))) ?_
  refine tp rfl (lv_len Try.underlying23 rfl rfl) ?_
  by_cases h7 : ((k : Nat) : Int) < (((es.getD i []).length : Nat) : Int)
  · -- yes
   refine tp rfl (lv_lss rfl rfl (decide_eq_true h7)) ?_
   refine t_done ?_
   refine q_then_n (hK20 _ _ ?_)
   refine c_true rfl ?_
   refine c_skip ?_
   refine q_then_n (hK19 _ _ ?_)
   refine c_seq (fun K21 hK21 => ?_)
   refine c_block ?_
   refine c_seq (fun K22 hK22 => ?_)
   refine c_region ?_
   have hat := hfo.at_ (i := i) (k := k) (by omega)
   have hvl2 := verL_len es own
   refine tp rfl (lv_move rfl) ?_
   refine tp rfl (lv_fieldAddr (o' := 1) Try.underlying25 rfl Try.sizeOf22 rfl rfl) ?_
   refine tp rfl (lv_load Try.isAgg22 rfl (gives_blk (.tail _ (.head _)) rfl)) ?_
   refine tp rfl (lv_move rfl) ?_
   refine tp rfl (lv_indexAddr (k' := i) Try.underlying22 Try.sizeOf23 rfl rfl hokE (by omega) (by omega) (by omega)) ?_
   refine tp rfl (lv_load Try.isAgg23 rfl (gives_as hvi (Rd.gives (Rd.cons (Rd.cons (Rd.cons hvsG))) (vals_get (by omega))))) ?_
   refine tp rfl (lv_move rfl) ?_
   refine tp rfl (lv_indexAddr (k' := k) Try.underlying23 Try.sizeOf3 rfl rfl hoki (by omega) (by omega) (by omega)) ?_
   refine tp rfl (lv_load Try.isAgg3 rfl (Rd.gives (Rd.cons (Rd.cons (Rd.cons hri))) (ints_get (by omega)))) ?_
   refine tp rfl (lv_indexAddr (k' := ((es.getD i []).getD k 0).toNat) Try.underlying23 Try.sizeOf3 rfl rfl hok4 (by omega) (by omega) (by omega)) ?_
   refine tp rfl (lv_load Try.isAgg3 rfl (gives_as (congrArg (Value.int .i64) (verL_get (by omega))) (gives_sl (.head _) (ints_get (by rw [verL_len]; omega))))) ?_
   refine tp rfl (lv_assign rfl) ?_
   refine t_done ?_
   refine q_then_n (hK22 _ _ ?_)
   refine c_seq (fun K23 hK23 => ?_)
   refine c_region ?_
   refine tp rfl (lv_move rfl) ?_
   refine tp rfl (lv_move rfl) ?_
   rcases hb8 : d with _ | _
   · -- false
    refine t_skip rfl rfl rfl ?_
    refine t_skip rfl rfl rfl ?_
    refine tp rfl (lv_pick_f rfl rfl) ?_
    refine tp rfl (lv_assign rfl) ?_
    refine t_done ?_
    refine q_then_n (hK23 _ _ ?_)
    refine c_seq (fun K24 hK24 => ?_)
    refine c_region ?_
    refine tp rfl (lv_move rfl) ?_
    refine tp rfl (lv_move rfl) ?_
    rcases hb9 : f with _ | _
    · -- false
     refine t_guard rfl rfl ?_
     refine tp rfl (lv_move rfl) ?_
     refine t_guard rfl rfl ?_
     refine tp rfl (lv_eql rfl rfl rfl) ?_
     refine tp rfl (lv_pick_f rfl rfl) ?_
     refine tp rfl (lv_assign rfl) ?_
     refine t_done ?_
     refine q_then_n (hK24 _ _ ?_)
     refine c_region ?_
     refine tp rfl (lv_move rfl) ?_
     refine tp rfl (lv_move rfl) ?_
     rcases hb10 : c with _ | _
     · -- false
      refine t_guard rfl rfl ?_
      refine tp rfl (lv_move rfl) ?_
      refine t_guard rfl rfl ?_
      refine tp rfl (lv_eql rfl rfl rfl) ?_
      refine tp rfl (lv_pick_f rfl rfl) ?_
      refine tp rfl (lv_assign rfl) ?_
      refine t_done ?_
      refine q_in_n ?_
      refine q_then_n (hK21 _ _ ?_)
      refine c_region ?_
      refine tp rfl (lv_move rfl) ?_
      refine tp rfl (lv_add (c := ((k + 1 : Nat) : Int)) rfl rfl (wr_i64_succ (by omega))) ?_
      refine tp rfl (lv_assign rfl) ?_
      refine t_done ?_
      refine q_then_n ?_
      exact t_weak (by exact ⟨rfl, rfl, rfl, rfl, rfl, rfl, rfl, rfl, rfl, rfl, rfl, rfl, rfl, rfl, trivial⟩) ((hK18 (k + 1, false, (ver es own ((es.getD i []).getD k 0).toNat) == 6, (ver es own ((es.getD i []).getD k 0).toNat) == 7) ⟨by dsimp only; omega, by have q := hfx.next (show k < (es.getD i []).length by omega); rw [hb8, hb9, hb10] at q; exact q⟩ (by dsimp only; omega)))
     · -- true
      refine t_skip rfl rfl rfl ?_
      refine t_skip rfl rfl rfl ?_
      refine tp rfl (lv_pick_t rfl rfl) ?_
      refine tp rfl (lv_assign rfl) ?_
      refine t_done ?_
      refine q_in_n ?_
      refine q_then_n (hK21 _ _ ?_)
      refine c_region ?_
      refine tp rfl (lv_move rfl) ?_
      refine tp rfl (lv_add (c := ((k + 1 : Nat) : Int)) rfl rfl (wr_i64_succ (by omega))) ?_
      refine tp rfl (lv_assign rfl) ?_
      refine t_done ?_
      refine q_then_n ?_
      exact t_weak (by exact ⟨rfl, rfl, rfl, rfl, rfl, rfl, rfl, rfl, rfl, rfl, rfl, rfl, rfl, rfl, trivial⟩) ((hK18 (k + 1, false, (ver es own ((es.getD i []).getD k 0).toNat) == 6, true) ⟨by dsimp only; omega, by have q := hfx.next (show k < (es.getD i []).length by omega); rw [hb8, hb9, hb10] at q; exact q⟩ (by dsimp only; omega)))
    · -- true
     refine t_skip rfl rfl rfl ?_
     refine t_skip rfl rfl rfl ?_
     refine tp rfl (lv_pick_t rfl rfl) ?_
     refine tp rfl (lv_assign rfl) ?_
     refine t_done ?_
     refine q_then_n (hK24 _ _ ?_)
     refine c_region ?_
     refine tp rfl (lv_move rfl) ?_
     refine tp rfl (lv_move rfl) ?_
     rcases hb11 : c with _ | _
     · -- false
      refine t_guard rfl rfl ?_
      refine tp rfl (lv_move rfl) ?_
      refine t_guard rfl rfl ?_
      refine tp rfl (lv_eql rfl rfl rfl) ?_
      refine tp rfl (lv_pick_f rfl rfl) ?_
      refine tp rfl (lv_assign rfl) ?_
      refine t_done ?_
      refine q_in_n ?_
      refine q_then_n (hK21 _ _ ?_)
      refine c_region ?_
      refine tp rfl (lv_move rfl) ?_
      refine tp rfl (lv_add (c := ((k + 1 : Nat) : Int)) rfl rfl (wr_i64_succ (by omega))) ?_
      refine tp rfl (lv_assign rfl) ?_
      refine t_done ?_
      refine q_then_n ?_
      exact t_weak (by exact ⟨rfl, rfl, rfl, rfl, rfl, rfl, rfl, rfl, rfl, rfl, rfl, rfl, rfl, rfl, trivial⟩) ((hK18 (k + 1, false, true, (ver es own ((es.getD i []).getD k 0).toNat) == 7) ⟨by dsimp only; omega, by have q := hfx.next (show k < (es.getD i []).length by omega); rw [hb8, hb9, hb11] at q; exact q⟩ (by dsimp only; omega)))
     · -- true
      refine t_skip rfl rfl rfl ?_
      refine t_skip rfl rfl rfl ?_
      refine tp rfl (lv_pick_t rfl rfl) ?_
      refine tp rfl (lv_assign rfl) ?_
      refine t_done ?_
      refine q_in_n ?_
      refine q_then_n (hK21 _ _ ?_)
      refine c_region ?_
      refine tp rfl (lv_move rfl) ?_
      refine tp rfl (lv_add (c := ((k + 1 : Nat) : Int)) rfl rfl (wr_i64_succ (by omega))) ?_
      refine tp rfl (lv_assign rfl) ?_
      refine t_done ?_
      refine q_then_n ?_
      exact t_weak (by exact ⟨rfl, rfl, rfl, rfl, rfl, rfl, rfl, rfl, rfl, rfl, rfl, rfl, rfl, rfl, trivial⟩) ((hK18 (k + 1, false, true, true) ⟨by dsimp only; omega, by have q := hfx.next (show k < (es.getD i []).length by omega); rw [hb8, hb9, hb11] at q; exact q⟩ (by dsimp only; omega)))
   · -- true
    refine t_guard rfl rfl ?_
    refine tp rfl (lv_move rfl) ?_
    refine t_guard rfl rfl ?_
    refine tp rfl (lv_eql rfl rfl rfl) ?_
    refine tp rfl (lv_pick_t rfl rfl) ?_
    refine tp rfl (lv_assign rfl) ?_
    refine t_done ?_
    refine q_then_n (hK23 _ _ ?_)
    refine c_seq (fun K24 hK24 => ?_)
    refine c_region ?_
    refine tp rfl (lv_move rfl) ?_
    refine tp rfl (lv_move rfl) ?_
    rcases hb12 : f with _ | _
    · -- false
     refine t_guard rfl rfl ?_
     refine tp rfl (lv_move rfl) ?_
     refine t_guard rfl rfl ?_
     refine tp rfl (lv_eql rfl rfl rfl) ?_
     refine tp rfl (lv_pick_f rfl rfl) ?_
     refine tp rfl (lv_assign rfl) ?_
     refine t_done ?_
     refine q_then_n (hK24 _ _ ?_)
     refine c_region ?_
     refine tp rfl (lv_move rfl) ?_
     refine tp rfl (lv_move rfl) ?_
     rcases hb13 : c with _ | _
     · -- false
      refine t_guard rfl rfl ?_
      refine tp rfl (lv_move rfl) ?_
      refine t_guard rfl rfl ?_
      refine tp rfl (lv_eql rfl rfl rfl) ?_
      refine tp rfl (lv_pick_f rfl rfl) ?_
      refine tp rfl (lv_assign rfl) ?_
      refine t_done ?_
      refine q_in_n ?_
      refine q_then_n (hK21 _ _ ?_)
      refine c_region ?_
      refine tp rfl (lv_move rfl) ?_
      refine tp rfl (lv_add (c := ((k + 1 : Nat) : Int)) rfl rfl (wr_i64_succ (by omega))) ?_
      refine tp rfl (lv_assign rfl) ?_
      refine t_done ?_
      refine q_then_n ?_
      exact t_weak (by exact ⟨rfl, rfl, rfl, rfl, rfl, rfl, rfl, rfl, rfl, rfl, rfl, rfl, rfl, rfl, trivial⟩) ((hK18 (k + 1, (ver es own ((es.getD i []).getD k 0).toNat) == 5, (ver es own ((es.getD i []).getD k 0).toNat) == 6, (ver es own ((es.getD i []).getD k 0).toNat) == 7) ⟨by dsimp only; omega, by have q := hfx.next (show k < (es.getD i []).length by omega); rw [hb8, hb12, hb13] at q; exact q⟩ (by dsimp only; omega)))
     · -- true
      refine t_skip rfl rfl rfl ?_
      refine t_skip rfl rfl rfl ?_
      refine tp rfl (lv_pick_t rfl rfl) ?_
      refine tp rfl (lv_assign rfl) ?_
      refine t_done ?_
      refine q_in_n ?_
      refine q_then_n (hK21 _ _ ?_)
      refine c_region ?_
      refine tp rfl (lv_move rfl) ?_
      refine tp rfl (lv_add (c := ((k + 1 : Nat) : Int)) rfl rfl (wr_i64_succ (by omega))) ?_
      refine tp rfl (lv_assign rfl) ?_
      refine t_done ?_
      refine q_then_n ?_
      exact t_weak (by exact ⟨rfl, rfl, rfl, rfl, rfl, rfl, rfl, rfl, rfl, rfl, rfl, rfl, rfl, rfl, trivial⟩) ((hK18 (k + 1, (ver es own ((es.getD i []).getD k 0).toNat) == 5, (ver es own ((es.getD i []).getD k 0).toNat) == 6, true) ⟨by dsimp only; omega, by have q := hfx.next (show k < (es.getD i []).length by omega); rw [hb8, hb12, hb13] at q; exact q⟩ (by dsimp only; omega)))
    · -- true
     refine t_skip rfl rfl rfl ?_
     refine t_skip rfl rfl rfl ?_
     refine tp rfl (lv_pick_t rfl rfl) ?_
     refine tp rfl (lv_assign rfl) ?_
     refine t_done ?_
     refine q_then_n (hK24 _ _ ?_)
     refine c_region ?_
     refine tp rfl (lv_move rfl) ?_
     refine tp rfl (lv_move rfl) ?_
     rcases hb14 : c with _ | _
     · -- false
      refine t_guard rfl rfl ?_
      refine tp rfl (lv_move rfl) ?_
      refine t_guard rfl rfl ?_
      refine tp rfl (lv_eql rfl rfl rfl) ?_
      refine tp rfl (lv_pick_f rfl rfl) ?_
      refine tp rfl (lv_assign rfl) ?_
      refine t_done ?_
      refine q_in_n ?_
      refine q_then_n (hK21 _ _ ?_)
      refine c_region ?_
      refine tp rfl (lv_move rfl) ?_
      refine tp rfl (lv_add (c := ((k + 1 : Nat) : Int)) rfl rfl (wr_i64_succ (by omega))) ?_
      refine tp rfl (lv_assign rfl) ?_
      refine t_done ?_
      refine q_then_n ?_
      exact t_weak (by exact ⟨rfl, rfl, rfl, rfl, rfl, rfl, rfl, rfl, rfl, rfl, rfl, rfl, rfl, rfl, trivial⟩) ((hK18 (k + 1, (ver es own ((es.getD i []).getD k 0).toNat) == 5, true, (ver es own ((es.getD i []).getD k 0).toNat) == 7) ⟨by dsimp only; omega, by have q := hfx.next (show k < (es.getD i []).length by omega); rw [hb8, hb12, hb14] at q; exact q⟩ (by dsimp only; omega)))
     · -- true
      refine t_skip rfl rfl rfl ?_
      refine t_skip rfl rfl rfl ?_
      refine tp rfl (lv_pick_t rfl rfl) ?_
      refine tp rfl (lv_assign rfl) ?_
      refine t_done ?_
      refine q_in_n ?_
      refine q_then_n (hK21 _ _ ?_)
      refine c_region ?_
      refine tp rfl (lv_move rfl) ?_
      refine tp rfl (lv_add (c := ((k + 1 : Nat) : Int)) rfl rfl (wr_i64_succ (by omega))) ?_
      refine tp rfl (lv_assign rfl) ?_
      refine t_done ?_
      refine q_then_n ?_
      exact t_weak (by exact ⟨rfl, rfl, rfl, rfl, rfl, rfl, rfl, rfl, rfl, rfl, rfl, rfl, rfl, rfl, trivial⟩) ((hK18 (k + 1, (ver es own ((es.getD i []).getD k 0).toNat) == 5, true, true) ⟨by dsimp only; omega, by have q := hfx.next (show k < (es.getD i []).length by omega); rw [hb8, hb12, hb14] at q; exact q⟩ (by dsimp only; omega)))
  · -- no
   refine tp rfl (lv_lss rfl rfl (decide_eq_false h7)) ?_
   refine t_done ?_
   refine q_then_n (hK20 _ _ ?_)
   refine c_false rfl ?_
   refine c_exit ?_
   refine q_then_x ?_
   refine q_then_x ?_
   refine q_in_x ?_
   refine q_then_n (hK16 _ _ ?_)
   refine c_seq (fun K21 hK21 => ?_)
   refine c_region ?_
   refine tp rfl (lv_assign rfl) ?_
   refine t_done ?_
   refine q_then_n (hK21 _ _ ?_)
   refine c_seq (fun K22 hK22 => ?_)
   refine c_seq (fun K23 hK23 => ?_)
   refine c_region ?_
   refine tp rfl (lv_fieldAddr (o' := 2) Try.underlying25 rfl Try.sizeOf23 rfl rfl) ?_
   refine tp rfl (lv_load Try.isAgg23 rfl (gives_blk (.tail _ (.head _)) rfl)) ?_
   refine tp rfl (lv_move rfl) ?_
   refine tp rfl (lv_indexAddr (k' := i) Try.underlying23 Try.sizeOf3 rfl rfl hokEo (by omega) (by omega) (by omega)) ?_
   refine tp rfl (lv_load Try.isAgg3 rfl (gives_sl (.tail _ (.tail _ (.head _))) (ints_get (by omega)))) ?_
   by_cases h15 : ((own).getD i 0) = 5
   · -- yes
    refine tp rfl (lv_eql rfl rfl (beq_iff_eq.2 h15)) ?_
    refine tp rfl (lv_move rfl) ?_
    refine t_guard rfl rfl ?_
    refine tp rfl (lv_move rfl) ?_
    refine tp rfl (lv_pick_t rfl rfl) ?_
    refine t_done ?_
    refine q_then_n (hK23 _ _ ?_)
    refine c_split rfl (fun c16 => ?_) (fun c16 => ?_)
    · -- true
     refine c_region ?_
     refine tp rfl (lv_assign rfl) ?_
     refine t_done ?_
     refine q_then_n (hK22 _ _ ?_)
     refine c_seq (fun K24 hK24 => ?_)
     refine c_seq (fun K25 hK25 => ?_)
     refine c_region ?_
     refine tp rfl (lv_fieldAddr (o' := 2) Try.underlying25 rfl Try.sizeOf23 rfl rfl) ?_
     refine tp rfl (lv_load Try.isAgg23 rfl (gives_blk (.tail _ (.head _)) rfl)) ?_
     refine tp rfl (lv_move rfl) ?_
     refine tp rfl (lv_indexAddr (k' := i) Try.underlying23 Try.sizeOf3 rfl rfl hokEo (by omega) (by omega) (by omega)) ?_
     refine tp rfl (lv_load Try.isAgg3 rfl (gives_sl (.tail _ (.tail _ (.head _))) (ints_get (by omega)))) ?_
     by_cases h17 : ((own).getD i 0) = 6
     · -- yes
      refine tp rfl (lv_eql rfl rfl (beq_iff_eq.2 h17)) ?_
      refine tp rfl (lv_move rfl) ?_
      refine t_skip rfl rfl rfl ?_
      refine tp rfl (lv_pick_t rfl rfl) ?_
      refine t_done ?_
      refine q_then_n (hK25 _ _ ?_)
      refine c_true rfl ?_
      refine c_region ?_
      refine tp rfl (lv_assign rfl) ?_
      refine t_done ?_
      refine q_then_n (hK24 _ _ ?_)
      refine c_seq (fun K26 hK26 => ?_)
      refine c_seq (fun K27 hK27 => ?_)
      refine c_region ?_
      refine tp rfl (lv_move rfl) ?_
      refine t_done ?_
      refine q_then_n (hK27 _ _ ?_)
      refine c_split rfl (fun c18 => ?_) (fun c18 => ?_)
      · -- true
       refine c_region ?_
       refine tp rfl (lv_assign rfl) ?_
       refine t_done ?_
       refine q_then_n (hK26 _ _ ?_)
       refine c_seq (fun K28 hK28 => ?_)
       refine c_region ?_
       refine tp rfl (lv_move rfl) ?_
       refine tp rfl (lv_move rfl) ?_
       refine tp rfl (lv_indexAddr (k' := i) Try.underlying23 Try.sizeOf3 rfl rfl hok4 (by omega) (by omega) (by omega)) ?_
       refine tp rfl (lv_load Try.isAgg3 rfl (gives_sl (.head _) (ints_get (by rw [verL_len]; omega)))) ?_
       refine tp rfl (lv_move rfl) ?_
       refine tp rfl (lv_neq rfl rfl (bne_eq_false_iff_eq.2 (by rw [fix_want hfo (by omega) hfx (by omega), if_pos c18]))) ?_
       refine t_done ?_
       refine q_then_n (hK28 _ _ ?_)
       refine c_false rfl ?_
       refine c_skip ?_
       refine q_in_n ?_
       refine q_then_n (hK12 _ _ ?_)
       refine c_region ?_
       refine tp rfl (lv_move rfl) ?_
       refine tp rfl (lv_add (c := ((i + 1 : Nat) : Int)) rfl rfl (wr_i64_succ (by omega))) ?_
       refine tp rfl (lv_assign rfl) ?_
       refine t_done ?_
       refine q_then_n ?_
       exact t_weak (by exact ⟨rfl, rfl, rfl, rfl, rfl, rfl, rfl, rfl, rfl, trivial⟩) ((hK9 (i + 1) (by omega) (by omega)))
      · -- false
       refine c_skip ?_
       refine q_then_n (hK26 _ _ ?_)
       refine c_seq (fun K28 hK28 => ?_)
       refine c_region ?_
       refine tp rfl (lv_move rfl) ?_
       refine tp rfl (lv_move rfl) ?_
       refine tp rfl (lv_indexAddr (k' := i) Try.underlying23 Try.sizeOf3 rfl rfl hok4 (by omega) (by omega) (by omega)) ?_
       refine tp rfl (lv_load Try.isAgg3 rfl (gives_sl (.head _) (ints_get (by rw [verL_len]; omega)))) ?_
       refine tp rfl (lv_move rfl) ?_
       refine tp rfl (lv_neq rfl rfl (bne_eq_false_iff_eq.2 (by rw [fix_want hfo (by omega) hfx (by omega), if_neg (fun e => by rw [c18] at e; cases e), if_pos (.inl h17)]))) ?_
       refine t_done ?_
       refine q_then_n (hK28 _ _ ?_)
       refine c_false rfl ?_
       refine c_skip ?_
       refine q_in_n ?_
       refine q_then_n (hK12 _ _ ?_)
       refine c_region ?_
       refine tp rfl (lv_move rfl) ?_
       refine tp rfl (lv_add (c := ((i + 1 : Nat) : Int)) rfl rfl (wr_i64_succ (by omega))) ?_
       refine tp rfl (lv_assign rfl) ?_
       refine t_done ?_
       refine q_then_n ?_
       exact t_weak (by exact ⟨rfl, rfl, rfl, rfl, rfl, rfl, rfl, rfl, rfl, trivial⟩) ((hK9 (i + 1) (by omega) (by omega)))
     · -- no
      refine tp rfl (lv_eql rfl rfl (beq_eq_false_iff_ne.2 h17)) ?_
      refine tp rfl (lv_move rfl) ?_
      refine t_guard rfl rfl ?_
      refine tp rfl (lv_move rfl) ?_
      refine tp rfl (lv_pick_f rfl rfl) ?_
      refine t_done ?_
      refine q_then_n (hK25 _ _ ?_)
      refine c_split rfl (fun c19 => ?_) (fun c19 => ?_)
      · -- true
       refine c_region ?_
       refine tp rfl (lv_assign rfl) ?_
       refine t_done ?_
       refine q_then_n (hK24 _ _ ?_)
       refine c_seq (fun K26 hK26 => ?_)
       refine c_seq (fun K27 hK27 => ?_)
       refine c_region ?_
       refine tp rfl (lv_move rfl) ?_
       refine t_done ?_
       refine q_then_n (hK27 _ _ ?_)
       refine c_split rfl (fun c20 => ?_) (fun c20 => ?_)
       · -- true
        refine c_region ?_
        refine tp rfl (lv_assign rfl) ?_
        refine t_done ?_
        refine q_then_n (hK26 _ _ ?_)
        refine c_seq (fun K28 hK28 => ?_)
        refine c_region ?_
        refine tp rfl (lv_move rfl) ?_
        refine tp rfl (lv_move rfl) ?_
        refine tp rfl (lv_indexAddr (k' := i) Try.underlying23 Try.sizeOf3 rfl rfl hok4 (by omega) (by omega) (by omega)) ?_
        refine tp rfl (lv_load Try.isAgg3 rfl (gives_sl (.head _) (ints_get (by rw [verL_len]; omega)))) ?_
        refine tp rfl (lv_move rfl) ?_
        refine tp rfl (lv_neq rfl rfl (bne_eq_false_iff_eq.2 (by rw [fix_want hfo (by omega) hfx (by omega), if_pos c20]))) ?_
        refine t_done ?_
        refine q_then_n (hK28 _ _ ?_)
        refine c_false rfl ?_
        refine c_skip ?_
        refine q_in_n ?_
        refine q_then_n (hK12 _ _ ?_)
        refine c_region ?_
        refine tp rfl (lv_move rfl) ?_
        refine tp rfl (lv_add (c := ((i + 1 : Nat) : Int)) rfl rfl (wr_i64_succ (by omega))) ?_
        refine tp rfl (lv_assign rfl) ?_
        refine t_done ?_
        refine q_then_n ?_
        exact t_weak (by exact ⟨rfl, rfl, rfl, rfl, rfl, rfl, rfl, rfl, rfl, trivial⟩) ((hK9 (i + 1) (by omega) (by omega)))
       · -- false
        refine c_skip ?_
        refine q_then_n (hK26 _ _ ?_)
        refine c_seq (fun K28 hK28 => ?_)
        refine c_region ?_
        refine tp rfl (lv_move rfl) ?_
        refine tp rfl (lv_move rfl) ?_
        refine tp rfl (lv_indexAddr (k' := i) Try.underlying23 Try.sizeOf3 rfl rfl hok4 (by omega) (by omega) (by omega)) ?_
        refine tp rfl (lv_load Try.isAgg3 rfl (gives_sl (.head _) (ints_get (by rw [verL_len]; omega)))) ?_
        refine tp rfl (lv_move rfl) ?_
        refine tp rfl (lv_neq rfl rfl (bne_eq_false_iff_eq.2 (by rw [fix_want hfo (by omega) hfx (by omega), if_neg (fun e => by rw [c20] at e; cases e), if_pos (.inr c19)]))) ?_
        refine t_done ?_
        refine q_then_n (hK28 _ _ ?_)
        refine c_false rfl ?_
        refine c_skip ?_
        refine q_in_n ?_
        refine q_then_n (hK12 _ _ ?_)
        refine c_region ?_
        refine tp rfl (lv_move rfl) ?_
        refine tp rfl (lv_add (c := ((i + 1 : Nat) : Int)) rfl rfl (wr_i64_succ (by omega))) ?_
        refine tp rfl (lv_assign rfl) ?_
        refine t_done ?_
        refine q_then_n ?_
        exact t_weak (by exact ⟨rfl, rfl, rfl, rfl, rfl, rfl, rfl, rfl, rfl, trivial⟩) ((hK9 (i + 1) (by omega) (by omega)))
      · -- false
       refine c_skip ?_
       refine q_then_n (hK24 _ _ ?_)
       refine c_seq (fun K26 hK26 => ?_)
       refine c_seq (fun K27 hK27 => ?_)
       refine c_region ?_
       refine tp rfl (lv_move rfl) ?_
       refine t_done ?_
       refine q_then_n (hK27 _ _ ?_)
       refine c_split rfl (fun c21 => ?_) (fun c21 => ?_)
       · -- true
        refine c_region ?_
        refine tp rfl (lv_assign rfl) ?_
        refine t_done ?_
        refine q_then_n (hK26 _ _ ?_)
        refine c_seq (fun K28 hK28 => ?_)
        refine c_region ?_
        refine tp rfl (lv_move rfl) ?_
        refine tp rfl (lv_move rfl) ?_
        refine tp rfl (lv_indexAddr (k' := i) Try.underlying23 Try.sizeOf3 rfl rfl hok4 (by omega) (by omega) (by omega)) ?_
        refine tp rfl (lv_load Try.isAgg3 rfl (gives_sl (.head _) (ints_get (by rw [verL_len]; omega)))) ?_
        refine tp rfl (lv_move rfl) ?_
        refine tp rfl (lv_neq rfl rfl (bne_eq_false_iff_eq.2 (by rw [fix_want hfo (by omega) hfx (by omega), if_pos c21]))) ?_
        refine t_done ?_
        refine q_then_n (hK28 _ _ ?_)
        refine c_false rfl ?_
        refine c_skip ?_
        refine q_in_n ?_
        refine q_then_n (hK12 _ _ ?_)
        refine c_region ?_
        refine tp rfl (lv_move rfl) ?_
        refine tp rfl (lv_add (c := ((i + 1 : Nat) : Int)) rfl rfl (wr_i64_succ (by omega))) ?_
        refine tp rfl (lv_assign rfl) ?_
        refine t_done ?_
        refine q_then_n ?_
        exact t_weak (by exact ⟨rfl, rfl, rfl, rfl, rfl, rfl, rfl, rfl, rfl, trivial⟩) ((hK9 (i + 1) (by omega) (by omega)))
       · -- false
        refine c_skip ?_
        refine q_then_n (hK26 _ _ ?_)
        refine c_seq (fun K28 hK28 => ?_)
        refine c_region ?_
        refine tp rfl (lv_move rfl) ?_
        refine tp rfl (lv_move rfl) ?_
        refine tp rfl (lv_indexAddr (k' := i) Try.underlying23 Try.sizeOf3 rfl rfl hok4 (by omega) (by omega) (by omega)) ?_
        refine tp rfl (lv_load Try.isAgg3 rfl (gives_sl (.head _) (ints_get (by rw [verL_len]; omega)))) ?_
        refine tp rfl (lv_move rfl) ?_
        refine tp rfl (lv_neq rfl rfl (bne_eq_false_iff_eq.2 (by rw [fix_want hfo (by omega) hfx (by omega), if_neg (fun e => by rw [c21] at e; cases e), if_neg (fun q => q.elim h17 (fun e => by rw [c19] at e; cases e)), if_pos ⟨h15, c16⟩]))) ?_
        refine t_done ?_
        refine q_then_n (hK28 _ _ ?_)
        refine c_false rfl ?_
        refine c_skip ?_
        refine q_in_n ?_
        refine q_then_n (hK12 _ _ ?_)
        refine c_region ?_
        refine tp rfl (lv_move rfl) ?_
        refine tp rfl (lv_add (c := ((i + 1 : Nat) : Int)) rfl rfl (wr_i64_succ (by omega))) ?_
        refine tp rfl (lv_assign rfl) ?_
        refine t_done ?_
        refine q_then_n ?_
        exact t_weak (by exact ⟨rfl, rfl, rfl, rfl, rfl, rfl, rfl, rfl, rfl, trivial⟩) ((hK9 (i + 1) (by omega) (by omega)))
    · -- false
     refine c_skip ?_
     refine q_then_n (hK22 _ _ ?_)
     refine c_seq (fun K24 hK24 => ?_)
     refine c_seq (fun K25 hK25 => ?_)
     refine c_region ?_
     refine tp rfl (lv_fieldAddr (o' := 2) Try.underlying25 rfl Try.sizeOf23 rfl rfl) ?_
     refine tp rfl (lv_load Try.isAgg23 rfl (gives_blk (.tail _ (.head _)) rfl)) ?_
     refine tp rfl (lv_move rfl) ?_
     refine tp rfl (lv_indexAddr (k' := i) Try.underlying23 Try.sizeOf3 rfl rfl hokEo (by omega) (by omega) (by omega)) ?_
     refine tp rfl (lv_load Try.isAgg3 rfl (gives_sl (.tail _ (.tail _ (.head _))) (ints_get (by omega)))) ?_
     by_cases h22 : ((own).getD i 0) = 6
     · -- yes
      refine tp rfl (lv_eql rfl rfl (beq_iff_eq.2 h22)) ?_
      refine tp rfl (lv_move rfl) ?_
      refine t_skip rfl rfl rfl ?_
      refine tp rfl (lv_pick_t rfl rfl) ?_
      refine t_done ?_
      refine q_then_n (hK25 _ _ ?_)
      refine c_true rfl ?_
      refine c_region ?_
      refine tp rfl (lv_assign rfl) ?_
      refine t_done ?_
      refine q_then_n (hK24 _ _ ?_)
      refine c_seq (fun K26 hK26 => ?_)
      refine c_seq (fun K27 hK27 => ?_)
      refine c_region ?_
      refine tp rfl (lv_move rfl) ?_
      refine t_done ?_
      refine q_then_n (hK27 _ _ ?_)
      refine c_split rfl (fun c23 => ?_) (fun c23 => ?_)
      · -- true
       refine c_region ?_
       refine tp rfl (lv_assign rfl) ?_
       refine t_done ?_
       refine q_then_n (hK26 _ _ ?_)
       refine c_seq (fun K28 hK28 => ?_)
       refine c_region ?_
       refine tp rfl (lv_move rfl) ?_
       refine tp rfl (lv_move rfl) ?_
       refine tp rfl (lv_indexAddr (k' := i) Try.underlying23 Try.sizeOf3 rfl rfl hok4 (by omega) (by omega) (by omega)) ?_
       refine tp rfl (lv_load Try.isAgg3 rfl (gives_sl (.head _) (ints_get (by rw [verL_len]; omega)))) ?_
       refine tp rfl (lv_move rfl) ?_
       refine tp rfl (lv_neq rfl rfl (bne_eq_false_iff_eq.2 (by rw [fix_want hfo (by omega) hfx (by omega), if_pos c23]))) ?_
       refine t_done ?_
       refine q_then_n (hK28 _ _ ?_)
       refine c_false rfl ?_
       refine c_skip ?_
       refine q_in_n ?_
       refine q_then_n (hK12 _ _ ?_)
       refine c_region ?_
       refine tp rfl (lv_move rfl) ?_
       refine tp rfl (lv_add (c := ((i + 1 : Nat) : Int)) rfl rfl (wr_i64_succ (by omega))) ?_
       refine tp rfl (lv_assign rfl) ?_
       refine t_done ?_
       refine q_then_n ?_
       exact t_weak (by exact ⟨rfl, rfl, rfl, rfl, rfl, rfl, rfl, rfl, rfl, trivial⟩) ((hK9 (i + 1) (by omega) (by omega)))
      · -- false
       refine c_skip ?_
       refine q_then_n (hK26 _ _ ?_)
       refine c_seq (fun K28 hK28 => ?_)
       refine c_region ?_
       refine tp rfl (lv_move rfl) ?_
       refine tp rfl (lv_move rfl) ?_
       refine tp rfl (lv_indexAddr (k' := i) Try.underlying23 Try.sizeOf3 rfl rfl hok4 (by omega) (by omega) (by omega)) ?_
       refine tp rfl (lv_load Try.isAgg3 rfl (gives_sl (.head _) (ints_get (by rw [verL_len]; omega)))) ?_
       refine tp rfl (lv_move rfl) ?_
       refine tp rfl (lv_neq rfl rfl (bne_eq_false_iff_eq.2 (by rw [fix_want hfo (by omega) hfx (by omega), if_neg (fun e => by rw [c23] at e; cases e), if_pos (.inl h22)]))) ?_
       refine t_done ?_
       refine q_then_n (hK28 _ _ ?_)
       refine c_false rfl ?_
       refine c_skip ?_
       refine q_in_n ?_
       refine q_then_n (hK12 _ _ ?_)
       refine c_region ?_
       refine tp rfl (lv_move rfl) ?_
       refine tp rfl (lv_add (c := ((i + 1 : Nat) : Int)) rfl rfl (wr_i64_succ (by omega))) ?_
       refine tp rfl (lv_assign rfl) ?_
       refine t_done ?_
       refine q_then_n ?_
       exact t_weak (by exact ⟨rfl, rfl, rfl, rfl, rfl, rfl, rfl, rfl, rfl, trivial⟩) ((hK9 (i + 1) (by omega) (by omega)))
     · -- no
      refine tp rfl (lv_eql rfl rfl (beq_eq_false_iff_ne.2 h22)) ?_
      refine tp rfl (lv_move rfl) ?_
      refine t_guard rfl rfl ?_
      refine tp rfl (lv_move rfl) ?_
      refine tp rfl (lv_pick_f rfl rfl) ?_
      refine t_done ?_
      refine q_then_n (hK25 _ _ ?_)
      refine c_split rfl (fun c24 => ?_) (fun c24 => ?_)
      · -- true
       refine c_region ?_
       refine tp rfl (lv_assign rfl) ?_
       refine t_done ?_
       refine q_then_n (hK24 _ _ ?_)
       refine c_seq (fun K26 hK26 => ?_)
       refine c_seq (fun K27 hK27 => ?_)
       refine c_region ?_
       refine tp rfl (lv_move rfl) ?_
       refine t_done ?_
       refine q_then_n (hK27 _ _ ?_)
       refine c_split rfl (fun c25 => ?_) (fun c25 => ?_)
       · -- true
        refine c_region ?_
        refine tp rfl (lv_assign rfl) ?_
        refine t_done ?_
        refine q_then_n (hK26 _ _ ?_)
        refine c_seq (fun K28 hK28 => ?_)
        refine c_region ?_
        refine tp rfl (lv_move rfl) ?_
        refine tp rfl (lv_move rfl) ?_
        refine tp rfl (lv_indexAddr (k' := i) Try.underlying23 Try.sizeOf3 rfl rfl hok4 (by omega) (by omega) (by omega)) ?_
        refine tp rfl (lv_load Try.isAgg3 rfl (gives_sl (.head _) (ints_get (by rw [verL_len]; omega)))) ?_
        refine tp rfl (lv_move rfl) ?_
        refine tp rfl (lv_neq rfl rfl (bne_eq_false_iff_eq.2 (by rw [fix_want hfo (by omega) hfx (by omega), if_pos c25]))) ?_
        refine t_done ?_
        refine q_then_n (hK28 _ _ ?_)
        refine c_false rfl ?_
        refine c_skip ?_
        refine q_in_n ?_
        refine q_then_n (hK12 _ _ ?_)
        refine c_region ?_
        refine tp rfl (lv_move rfl) ?_
        refine tp rfl (lv_add (c := ((i + 1 : Nat) : Int)) rfl rfl (wr_i64_succ (by omega))) ?_
        refine tp rfl (lv_assign rfl) ?_
        refine t_done ?_
        refine q_then_n ?_
        exact t_weak (by exact ⟨rfl, rfl, rfl, rfl, rfl, rfl, rfl, rfl, rfl, trivial⟩) ((hK9 (i + 1) (by omega) (by omega)))
       · -- false
        refine c_skip ?_
        refine q_then_n (hK26 _ _ ?_)
        refine c_seq (fun K28 hK28 => ?_)
        refine c_region ?_
        refine tp rfl (lv_move rfl) ?_
        refine tp rfl (lv_move rfl) ?_
        refine tp rfl (lv_indexAddr (k' := i) Try.underlying23 Try.sizeOf3 rfl rfl hok4 (by omega) (by omega) (by omega)) ?_
        refine tp rfl (lv_load Try.isAgg3 rfl (gives_sl (.head _) (ints_get (by rw [verL_len]; omega)))) ?_
        refine tp rfl (lv_move rfl) ?_
        refine tp rfl (lv_neq rfl rfl (bne_eq_false_iff_eq.2 (by rw [fix_want hfo (by omega) hfx (by omega), if_neg (fun e => by rw [c25] at e; cases e), if_pos (.inr c24)]))) ?_
        refine t_done ?_
        refine q_then_n (hK28 _ _ ?_)
        refine c_false rfl ?_
        refine c_skip ?_
        refine q_in_n ?_
        refine q_then_n (hK12 _ _ ?_)
        refine c_region ?_
        refine tp rfl (lv_move rfl) ?_
        refine tp rfl (lv_add (c := ((i + 1 : Nat) : Int)) rfl rfl (wr_i64_succ (by omega))) ?_
        refine tp rfl (lv_assign rfl) ?_
        refine t_done ?_
        refine q_then_n ?_
        exact t_weak (by exact ⟨rfl, rfl, rfl, rfl, rfl, rfl, rfl, rfl, rfl, trivial⟩) ((hK9 (i + 1) (by omega) (by omega)))
      · -- false
       refine c_skip ?_
       refine q_then_n (hK24 _ _ ?_)
       refine c_seq (fun K26 hK26 => ?_)
       refine c_seq (fun K27 hK27 => ?_)
       refine c_region ?_
       refine tp rfl (lv_move rfl) ?_
       refine t_done ?_
       refine q_then_n (hK27 _ _ ?_)
       refine c_split rfl (fun c26 => ?_) (fun c26 => ?_)
       · -- true
        refine c_region ?_
        refine tp rfl (lv_assign rfl) ?_
        refine t_done ?_
        refine q_then_n (hK26 _ _ ?_)
        refine c_seq (fun K28 hK28 => ?_)
        refine c_region ?_
        refine tp rfl (lv_move rfl) ?_
        refine tp rfl (lv_move rfl) ?_
        refine tp rfl (lv_indexAddr (k' := i) Try.underlying23 Try.sizeOf3 rfl rfl hok4 (by omega) (by omega) (by omega)) ?_
        refine tp rfl (lv_load Try.isAgg3 rfl (gives_sl (.head _) (ints_get (by rw [verL_len]; omega)))) ?_
        refine tp rfl (lv_move rfl) ?_
        refine tp rfl (lv_neq rfl rfl (bne_eq_false_iff_eq.2 (by rw [fix_want hfo (by omega) hfx (by omega), if_pos c26]))) ?_
        refine t_done ?_
        refine q_then_n (hK28 _ _ ?_)
        refine c_false rfl ?_
        refine c_skip ?_
        refine q_in_n ?_
        refine q_then_n (hK12 _ _ ?_)
        refine c_region ?_
        refine tp rfl (lv_move rfl) ?_
        refine tp rfl (lv_add (c := ((i + 1 : Nat) : Int)) rfl rfl (wr_i64_succ (by omega))) ?_
        refine tp rfl (lv_assign rfl) ?_
        refine t_done ?_
        refine q_then_n ?_
        exact t_weak (by exact ⟨rfl, rfl, rfl, rfl, rfl, rfl, rfl, rfl, rfl, trivial⟩) ((hK9 (i + 1) (by omega) (by omega)))
       · -- false
        refine c_skip ?_
        refine q_then_n (hK26 _ _ ?_)
        refine c_seq (fun K28 hK28 => ?_)
        refine c_region ?_
        refine tp rfl (lv_move rfl) ?_
        refine tp rfl (lv_move rfl) ?_
        refine tp rfl (lv_indexAddr (k' := i) Try.underlying23 Try.sizeOf3 rfl rfl hok4 (by omega) (by omega) (by omega)) ?_
        refine tp rfl (lv_load Try.isAgg3 rfl (gives_sl (.head _) (ints_get (by rw [verL_len]; omega)))) ?_
        refine tp rfl (lv_move rfl) ?_
        refine tp rfl (lv_neq rfl rfl (bne_eq_false_iff_eq.2 (by rw [fix_want hfo (by omega) hfx (by omega), if_neg (fun e => by rw [c26] at e; cases e), if_neg (fun q => q.elim h22 (fun e => by rw [c24] at e; cases e)), if_neg (fun q => (fun e => by rw [c16] at e; cases e) q.2)]))) ?_
        refine t_done ?_
        refine q_then_n (hK28 _ _ ?_)
        refine c_false rfl ?_
        refine c_skip ?_
        refine q_in_n ?_
        refine q_then_n (hK12 _ _ ?_)
        refine c_region ?_
        refine tp rfl (lv_move rfl) ?_
        refine tp rfl (lv_add (c := ((i + 1 : Nat) : Int)) rfl rfl (wr_i64_succ (by omega))) ?_
        refine tp rfl (lv_assign rfl) ?_
        refine t_done ?_
        refine q_then_n ?_
        exact t_weak (by exact ⟨rfl, rfl, rfl, rfl, rfl, rfl, rfl, rfl, rfl, trivial⟩) ((hK9 (i + 1) (by omega) (by omega)))
   · -- no
    refine tp rfl (lv_eql rfl rfl (beq_eq_false_iff_ne.2 h15)) ?_
    refine tp rfl (lv_move rfl) ?_
    refine t_skip rfl rfl rfl ?_
    refine tp rfl (lv_pick_f rfl rfl) ?_
    refine t_done ?_
    refine q_then_n (hK23 _ _ ?_)
    refine c_false rfl ?_
    refine c_skip ?_
    refine q_then_n (hK22 _ _ ?_)
    refine c_seq (fun K24 hK24 => ?_)
    refine c_seq (fun K25 hK25 => ?_)
    refine c_region ?_
    refine tp rfl (lv_fieldAddr (o' := 2) Try.underlying25 rfl Try.sizeOf23 rfl rfl) ?_
    refine tp rfl (lv_load Try.isAgg23 rfl (gives_blk (.tail _ (.head _)) rfl)) ?_
    refine tp rfl (lv_move rfl) ?_
    refine tp rfl (lv_indexAddr (k' := i) Try.underlying23 Try.sizeOf3 rfl rfl hokEo (by omega) (by omega) (by omega)) ?_
    refine tp rfl (lv_load Try.isAgg3 rfl (gives_sl (.tail _ (.tail _ (.head _))) (ints_get (by omega)))) ?_
    by_cases h27 : ((own).getD i 0) = 6
    · -- yes
     refine tp rfl (lv_eql rfl rfl (beq_iff_eq.2 h27)) ?_
     refine tp rfl (lv_move rfl) ?_
     refine t_skip rfl rfl rfl ?_
     refine tp rfl (lv_pick_t rfl rfl) ?_
     refine t_done ?_
     refine q_then_n (hK25 _ _ ?_)
     refine c_true rfl ?_
     refine c_region ?_
     refine tp rfl (lv_assign rfl) ?_
     refine t_done ?_
     refine q_then_n (hK24 _ _ ?_)
     refine c_seq (fun K26 hK26 => ?_)
     refine c_seq (fun K27 hK27 => ?_)
     refine c_region ?_
     refine tp rfl (lv_move rfl) ?_
     refine t_done ?_
     refine q_then_n (hK27 _ _ ?_)
     refine c_split rfl (fun c28 => ?_) (fun c28 => ?_)
     · -- true
      refine c_region ?_
      refine tp rfl (lv_assign rfl) ?_
      refine t_done ?_
      refine q_then_n (hK26 _ _ ?_)
      refine c_seq (fun K28 hK28 => ?_)
      refine c_region ?_
      refine tp rfl (lv_move rfl) ?_
      refine tp rfl (lv_move rfl) ?_
      refine tp rfl (lv_indexAddr (k' := i) Try.underlying23 Try.sizeOf3 rfl rfl hok4 (by omega) (by omega) (by omega)) ?_
      refine tp rfl (lv_load Try.isAgg3 rfl (gives_sl (.head _) (ints_get (by rw [verL_len]; omega)))) ?_
      refine tp rfl (lv_move rfl) ?_
      refine tp rfl (lv_neq rfl rfl (bne_eq_false_iff_eq.2 (by rw [fix_want hfo (by omega) hfx (by omega), if_pos c28]))) ?_
      refine t_done ?_
      refine q_then_n (hK28 _ _ ?_)
      refine c_false rfl ?_
      refine c_skip ?_
      refine q_in_n ?_
      refine q_then_n (hK12 _ _ ?_)
      refine c_region ?_
      refine tp rfl (lv_move rfl) ?_
      refine tp rfl (lv_add (c := ((i + 1 : Nat) : Int)) rfl rfl (wr_i64_succ (by omega))) ?_
      refine tp rfl (lv_assign rfl) ?_
      refine t_done ?_
      refine q_then_n ?_
      exact t_weak (by exact ⟨rfl, rfl, rfl, rfl, rfl, rfl, rfl, rfl, rfl, trivial⟩) ((hK9 (i + 1) (by omega) (by omega)))
     · -- false
      refine c_skip ?_
      refine q_then_n (hK26 _ _ ?_)
      refine c_seq (fun K28 hK28 => ?_)
      refine c_region ?_
      refine tp rfl (lv_move rfl) ?_
      refine tp rfl (lv_move rfl) ?_
      refine tp rfl (lv_indexAddr (k' := i) Try.underlying23 Try.sizeOf3 rfl rfl hok4 (by omega) (by omega) (by omega)) ?_
      refine tp rfl (lv_load Try.isAgg3 rfl (gives_sl (.head _) (ints_get (by rw [verL_len]; omega)))) ?_
      refine tp rfl (lv_move rfl) ?_
      refine tp rfl (lv_neq rfl rfl (bne_eq_false_iff_eq.2 (by rw [fix_want hfo (by omega) hfx (by omega), if_neg (fun e => by rw [c28] at e; cases e), if_pos (.inl h27)]))) ?_
      refine t_done ?_
      refine q_then_n (hK28 _ _ ?_)
      refine c_false rfl ?_
      refine c_skip ?_
      refine q_in_n ?_
      refine q_then_n (hK12 _ _ ?_)
      refine c_region ?_
      refine tp rfl (lv_move rfl) ?_
      refine tp rfl (lv_add (c := ((i + 1 : Nat) : Int)) rfl rfl (wr_i64_succ (by omega))) ?_
      refine tp rfl (lv_assign rfl) ?_
      refine t_done ?_
      refine q_then_n ?_
      exact t_weak (by exact ⟨rfl, rfl, rfl, rfl, rfl, rfl, rfl, rfl, rfl, trivial⟩) ((hK9 (i + 1) (by omega) (by omega)))
    · -- no
     refine tp rfl (lv_eql rfl rfl (beq_eq_false_iff_ne.2 h27)) ?_
     refine tp rfl (lv_move rfl) ?_
     refine t_guard rfl rfl ?_
     refine tp rfl (lv_move rfl) ?_
     refine tp rfl (lv_pick_f rfl rfl) ?_
     refine t_done ?_
     refine q_then_n (hK25 _ _ ?_)
     refine c_split rfl (fun c29 => ?_) (fun c29 => ?_)
     · -- true
      refine c_region ?_
      refine tp rfl (lv_assign rfl) ?_
      refine t_done ?_
      refine q_then_n (hK24 _ _ ?_)
      refine c_seq (fun K26 hK26 => ?_)
      refine c_seq (fun K27 hK27 => ?_)
      refine c_region ?_
      refine tp rfl (lv_move rfl) ?_
      refine t_done ?_
      refine q_then_n (hK27 _ _ ?_)
      refine c_split rfl (fun c30 => ?_) (fun c30 => ?_)
      · -- true
       refine c_region ?_
       refine tp rfl (lv_assign rfl) ?_
       refine t_done ?_
       refine q_then_n (hK26 _ _ ?_)
       refine c_seq (fun K28 hK28 => ?_)
       refine c_region ?_
       refine tp rfl (lv_move rfl) ?_
       refine tp rfl (lv_move rfl) ?_
       refine tp rfl (lv_indexAddr (k' := i) Try.underlying23 Try.sizeOf3 rfl rfl hok4 (by omega) (by omega) (by omega)) ?_
       refine tp rfl (lv_load Try.isAgg3 rfl (gives_sl (.head _) (ints_get (by rw [verL_len]; omega)))) ?_
       refine tp rfl (lv_move rfl) ?_
       refine tp rfl (lv_neq rfl rfl (bne_eq_false_iff_eq.2 (by rw [fix_want hfo (by omega) hfx (by omega), if_pos c30]))) ?_
       refine t_done ?_
       refine q_then_n (hK28 _ _ ?_)
       refine c_false rfl ?_
       refine c_skip ?_
       refine q_in_n ?_
       refine q_then_n (hK12 _ _ ?_)
       refine c_region ?_
       refine tp rfl (lv_move rfl) ?_
       refine tp rfl (lv_add (c := ((i + 1 : Nat) : Int)) rfl rfl (wr_i64_succ (by omega))) ?_
       refine tp rfl (lv_assign rfl) ?_
       refine t_done ?_
       refine q_then_n ?_
       exact t_weak (by exact ⟨rfl, rfl, rfl, rfl, rfl, rfl, rfl, rfl, rfl, trivial⟩) ((hK9 (i + 1) (by omega) (by omega)))
      · -- false
       refine c_skip ?_
       refine q_then_n (hK26 _ _ ?_)
       refine c_seq (fun K28 hK28 => ?_)
       refine c_region ?_
       refine tp rfl (lv_move rfl) ?_
       refine tp rfl (lv_move rfl) ?_
       refine tp rfl (lv_indexAddr (k' := i) Try.underlying23 Try.sizeOf3 rfl rfl hok4 (by omega) (by omega) (by omega)) ?_
       refine tp rfl (lv_load Try.isAgg3 rfl (gives_sl (.head _) (ints_get (by rw [verL_len]; omega)))) ?_
       refine tp rfl (lv_move rfl) ?_
       refine tp rfl (lv_neq rfl rfl (bne_eq_false_iff_eq.2 (by rw [fix_want hfo (by omega) hfx (by omega), if_neg (fun e => by rw [c30] at e; cases e), if_pos (.inr c29)]))) ?_
       refine t_done ?_
       refine q_then_n (hK28 _ _ ?_)
       refine c_false rfl ?_
       refine c_skip ?_
       refine q_in_n ?_
       refine q_then_n (hK12 _ _ ?_)
       refine c_region ?_
       refine tp rfl (lv_move rfl) ?_
       refine tp rfl (lv_add (c := ((i + 1 : Nat) : Int)) rfl rfl (wr_i64_succ (by omega))) ?_
       refine tp rfl (lv_assign rfl) ?_
       refine t_done ?_
       refine q_then_n ?_
       exact t_weak (by exact ⟨rfl, rfl, rfl, rfl, rfl, rfl, rfl, rfl, rfl, trivial⟩) ((hK9 (i + 1) (by omega) (by omega)))
     · -- false
      refine c_skip ?_
      refine q_then_n (hK24 _ _ ?_)
      refine c_seq (fun K26 hK26 => ?_)
      refine c_seq (fun K27 hK27 => ?_)
      refine c_region ?_
      refine tp rfl (lv_move rfl) ?_
      refine t_done ?_
      refine q_then_n (hK27 _ _ ?_)
      refine c_split rfl (fun c31 => ?_) (fun c31 => ?_)
      · -- true
       refine c_region ?_
       refine tp rfl (lv_assign rfl) ?_
       refine t_done ?_
       refine q_then_n (hK26 _ _ ?_)
       refine c_seq (fun K28 hK28 => ?_)
       refine c_region ?_
       refine tp rfl (lv_move rfl) ?_
       refine tp rfl (lv_move rfl) ?_
       refine tp rfl (lv_indexAddr (k' := i) Try.underlying23 Try.sizeOf3 rfl rfl hok4 (by omega) (by omega) (by omega)) ?_
       refine tp rfl (lv_load Try.isAgg3 rfl (gives_sl (.head _) (ints_get (by rw [verL_len]; omega)))) ?_
       refine tp rfl (lv_move rfl) ?_
       refine tp rfl (lv_neq rfl rfl (bne_eq_false_iff_eq.2 (by rw [fix_want hfo (by omega) hfx (by omega), if_pos c31]))) ?_
       refine t_done ?_
       refine q_then_n (hK28 _ _ ?_)
       refine c_false rfl ?_
       refine c_skip ?_
       refine q_in_n ?_
       refine q_then_n (hK12 _ _ ?_)
       refine c_region ?_
       refine tp rfl (lv_move rfl) ?_
       refine tp rfl (lv_add (c := ((i + 1 : Nat) : Int)) rfl rfl (wr_i64_succ (by omega))) ?_
       refine tp rfl (lv_assign rfl) ?_
       refine t_done ?_
       refine q_then_n ?_
       exact t_weak (by exact ⟨rfl, rfl, rfl, rfl, rfl, rfl, rfl, rfl, rfl, trivial⟩) ((hK9 (i + 1) (by omega) (by omega)))
      · -- false
       refine c_skip ?_
       refine q_then_n (hK26 _ _ ?_)
       refine c_seq (fun K28 hK28 => ?_)
       refine c_region ?_
       refine tp rfl (lv_move rfl) ?_
       refine tp rfl (lv_move rfl) ?_
       refine tp rfl (lv_indexAddr (k' := i) Try.underlying23 Try.sizeOf3 rfl rfl hok4 (by omega) (by omega) (by omega)) ?_
       refine tp rfl (lv_load Try.isAgg3 rfl (gives_sl (.head _) (ints_get (by rw [verL_len]; omega)))) ?_
       refine tp rfl (lv_move rfl) ?_
       refine tp rfl (lv_neq rfl rfl (bne_eq_false_iff_eq.2 (by rw [fix_want hfo (by omega) hfx (by omega), if_neg (fun e => by rw [c31] at e; cases e), if_neg (fun q => q.elim h27 (fun e => by rw [c29] at e; cases e)), if_neg (fun q => h15 q.1)]))) ?_
       refine t_done ?_
       refine q_then_n (hK28 _ _ ?_)
       refine c_false rfl ?_
       refine c_skip ?_
       refine q_in_n ?_
       refine q_then_n (hK12 _ _ ?_)
       refine c_region ?_
       refine tp rfl (lv_move rfl) ?_
       refine tp rfl (lv_add (c := ((i + 1 : Nat) : Int)) rfl rfl (wr_i64_succ (by omega))) ?_
       refine tp rfl (lv_assign rfl) ?_
       refine t_done ?_
       refine q_then_n ?_
       exact t_weak (by exact ⟨rfl, rfl, rfl, rfl, rfl, rfl, rfl, rfl, rfl, trivial⟩) ((hK9 (i + 1) (by omega) (by omega)))
 · -- no
  refine tp rfl (lv_lss rfl rfl (decide_eq_false h6)) ?_
  refine t_done ?_
  refine q_then_n (hK11 _ _ ?_)
  refine c_false rfl ?_
  refine c_exit ?_
  refine q_then_x ?_
  refine q_then_x ?_
  refine q_in_x ?_
  refine q_then_n (hK7 _ _ ?_)
  refine c_seq (fun K12 hK12 => ?_)
  refine c_region ?_
  refine tp rfl (lv_move rfl) ?_
  refine tp rfl (lv_assign rfl) ?_
  refine t_done ?_
  refine q_then_n (hK12 _ _ ?_)
  refine c_ret ?_
  refine t_drop ?_
  refine t_drop ?_
  refine t_drop ?_
  refine t_drop ?_
  refine t_drop ?_
  refine q_ret rfl rfl ?_
  exact ⟨rfl, rfl⟩
end Go.Proofs.Ytljnaefaahphaaa
