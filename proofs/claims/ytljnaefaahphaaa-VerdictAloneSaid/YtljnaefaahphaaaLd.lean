/- VerdictAlone: the law's walk. -/
import Derived.Test.YtljnaefaahphaaaLa
import Derived.Test.YtljnaefaahphaaaVrd
set_option maxRecDepth 100000
set_option linter.unusedVariables false
set_option linter.unusedSimpArgs false
namespace Go.Proofs.Ytljnaefaahphaaa
open Go Go.Proofs Sp
set_option maxHeartbeats 4000000 in
theorem alone_law {R : List HP} {bp bw : Option Addr} {cp cw : Nat} (n : Int) {N : Nat} (hN : n % 65536 % 65 = N) (ps : List (Int × Int)) (ow : List Int) (hrp : Rd R bp (recs pu8F ps)) (okp : SlOk bp ps.length) (hrw : Rd R bw (ints .u8 ow)) (okw : SlOk bw ow.length) (hgp : ∀ e ∈ ps, (0 ≤ e.1 ∧ e.1 ≤ 255) ∧ 0 ≤ e.2 ∧ e.2 ≤ 255) (hgw : ∀ x ∈ ow, 0 ≤ x ∧ x ≤ 255) (lp : ps.length ≤ 9223372036854775807) (lw : ow.length ≤ 9223372036854775807) (task : Int) :
    Ok Try.prog 5 [(.int .i64 n), (.slice bp ps.length cp), (.slice bw ow.length cw), (.int .i64 task)] R
      (fun v M => v = .bool true ∧ M = R) := by
 refine ok_of (N := 161) Try.func5 rfl rfl rfl (fun W => ?_)
 refine c_seq (fun K1 hK1 => ?_)
 refine c_region ?_
 refine tp rfl (lv_assign rfl) ?_
 refine t_done ?_
 refine q_then_n (hK1 _ _ ?_)
 refine c_seq (fun K2 hK2 => ?_)
 refine c_region ?_
 refine tc rfl (en_fn Try.call9 rfl) (shown_ok) ?_
 rintro _ _ ⟨rfl, hMR⟩
 rw [hMR]; clear hMR
 refine tp rfl (lv_assign rfl) ?_
 refine t_done ?_
 refine q_then_n (hK2 _ _ ?_)
 refine c_seq (fun K3 hK3 => ?_)
 refine c_region ?_
 refine tp rfl (lv_move rfl) ?_
 refine tp rfl (lv_move rfl) ?_
 refine tp rfl (lv_move rfl) ?_
 refine tc rfl (en_fn Try.call14 rfl) (made_ok n (N := N) hN ps ow hrp okp hrw okw hgp hgw (by omega) (by omega)) ?_
 rintro _ _ ⟨bE, cE, bEo, cEo, vsE, ⟨hokE, hleE, hokEo, hleEo, hvlE⟩, rfl, rfl⟩
 refine tm rfl (mv_alloc Try.zeroValue25 rfl) ?_
 rintro _ _ ⟨b1, rfl, rfl⟩
 refine ts (sv_blkAgg (news := [(.int .i64 ((N : Nat) : Int)), (.slice bE N cE), (.slice bEo N cEo)]) Try.sizeOf25 rfl rfl rfl rfl (Nat.le_of_ble_eq_true rfl) rfl) ?_
 refine t_done ?_
 refine q_then_n (hK3 _ _ ?_)
 refine c_seq (fun K4 hK4 => ?_)
 refine c_seq (fun K5 hK5 => ?_)
 refine c_region ?_
 have hN64 : N ≤ 64 := by omega
 have hfo := made_fok hN64 (ps.take 200) ow
 have hlx := madeG_rows N (ps.take 200) (by rw [List.length_take]; omega)
 obtain ⟨es, hes⟩ : ∃ x, madeG N (ps.take 200) = x := ⟨_, rfl⟩
 rw [hes] at hfo hlx ⊢
 obtain ⟨own, hown⟩ : ∃ x, madeO N ow = x := ⟨_, rfl⟩
 rw [hown] at hfo ⊢
 have hel := hfo.le
 have hol := hfo.lo
 have hin := hfo.in_
 refine t_f2 ?_
 refine t_f1 ?_
 refine t_learn (fun _ h => gridR_own (L := (SlV 23 1 (.slice bE N cE) N vsE) :: (Join (rowsL vsE es)) :: R) (.head _) (.tail _ (.head _)) (by omega) (h.drop.drop)) (fun hG => ?_)
 have hG0 := hG
 obtain ⟨vsG, hvlG, hvsG, hrowG⟩ := hG0
 refine tp rfl (lv_fieldAddr (o' := 0) Try.underlying25 rfl Try.sizeOf3 rfl rfl) ?_
 refine tp rfl (lv_load Try.isAgg3 rfl (gives_blk (.head _) rfl)) ?_
 by_cases hN0 : ((N : Nat) : Int) = 0
 · -- yes
  refine tp rfl (lv_eql rfl rfl (beq_iff_eq.2 hN0)) ?_
  refine t_done ?_
  refine q_then_n (hK5 _ _ ?_)
  refine c_true rfl ?_
  refine c_seq (fun K6 hK6 => ?_)
  refine c_region ?_
  refine tp rfl (lv_move rfl) ?_
  refine tp rfl (lv_assign rfl) ?_
  refine t_done ?_
  refine q_then_n (hK6 _ _ ?_)
  refine c_ret ?_
  refine q_then_r ?_
  refine t_drop ?_
  refine t_drop ?_
  refine t_drop ?_
  refine t_drop ?_
  refine q_ret rfl rfl ?_
  exact ⟨rfl, rfl⟩
 · -- no
  refine tp rfl (lv_eql rfl rfl (beq_eq_false_iff_ne.2 hN0)) ?_
  refine t_done ?_
  refine q_then_n (hK5 _ _ ?_)
  refine c_false rfl ?_
  refine c_skip ?_
  refine q_then_n (hK4 _ _ ?_)
  refine c_seq (fun K6 hK6 => ?_)
  refine c_region ?_
  obtain ⟨k, hk⟩ : ∃ k : Nat, task % 65536 % (N : Int) = (k : Int) := ⟨_, (Int.toNat_of_nonneg (Int.emod_nonneg _ (by omega))).symm⟩
  have hkN : k < N := by have := Int.emod_lt_of_pos (task % 65536) (show (0 : Int) < N by omega); omega
  refine tp rfl (lv_move rfl) ?_
  refine tp rfl (lv_and (c := task % 65536) rfl rfl (and_ffff task)) ?_
  refine tp rfl (lv_fieldAddr (o' := 0) Try.underlying25 rfl Try.sizeOf3 rfl rfl) ?_
  refine tp rfl (lv_load Try.isAgg3 rfl (gives_blk (.head _) rfl)) ?_
  refine tp rfl (lv_rem (c := ((k : Nat) : Int)) rfl rfl (by omega) ((Int.tmod_eq_emod_of_nonneg (by omega)).trans hk)) ?_
  refine tp rfl (lv_assign rfl) ?_
  refine t_done ?_
  refine q_then_n (hK6 _ _ ?_)
  refine c_seq (fun K7 hK7 => ?_)
  refine c_region ?_
  refine tp rfl (lv_fieldAddr (o' := 0) Try.underlying25 rfl Try.sizeOf3 rfl rfl) ?_
  refine tp rfl (lv_load Try.isAgg3 rfl (gives_blk (.head _) rfl)) ?_
  refine tm rfl (mv_makeSlice (i := Try.t4) Try.underlying38 Try.type4 rfl rfl rfl rfl rfl (by omega) (by rw [show Try.t4.bytes = 1 from rfl]; omega) (by omega)) ?_
  rintro _ _ ⟨bs2, cp3, hok4, hle5, rfl, rfl⟩
  rw [show (((N : Nat) : Int)).toNat = N from rfl] at hok4 hle5 ⊢
  rw [bools_rep]
  refine tp rfl (lv_assign rfl) ?_
  refine t_done ?_
  refine q_then_n (hK7 _ _ ?_)
  refine c_seq (fun K8 hK8 => ?_)
  refine c_region ?_
  refine tp rfl (lv_move rfl) ?_
  refine tp rfl (lv_move rfl) ?_
  refine tp rfl (lv_indexAddr (k' := k) Try.underlying38 Try.sizeOf4 rfl rfl hok4 (by omega) (by omega) (by omega)) ?_
  refine ts (sv_sl Try.sizeOf4 rfl rfl rfl (by first | (simp; omega) | omega) bools_set) ?_
  refine t_done ?_
  refine q_then_n (hK8 _ _ ?_)
  refine c_seq (fun K9 hK9 => ?_)
  refine c_seq (fun K10 hK10 => ?_)
  refine c_region ?_
  refine tp rfl (lv_assign rfl) ?_
  refine t_done ?_
  refine q_then_n (hK10 _ _ ?_)
  refine c_block ?_
  refine c_loop (γ := (Nat) × (List Bool)) (fun (r, s) => r ≤ N ∧ RInv N (Fwd es) (fun _ => True) r s ∧ s.getD k false = true) (fun (r, s) => [(0, (.int .i64 n)), (1, (.slice bp ps.length cp)), (2, (.slice bw ow.length cw)), (3, (.int .i64 task)), (8, (.bool false)), (9, (.bool true)), (10, (.pointer (some ⟨b1, 0, none⟩))), (11, (.int .i64 ((k : Nat) : Int))), (12, (.slice bs2 N cp3)), (13, (.int .i64 ((r : Nat) : Int))), (29, (.bool false))]) (fun (r, s) => (SlV 4 1 (.slice bs2 N cp3) N (bools s)) :: (Blk b1 [(.int .i64 ((N : Nat) : Int)), (.slice bE N cE), (.slice bEo N cEo)] 25) :: (SlV 3 1 (.slice bEo N cEo) N (ints .i64 own)) :: (SlV 23 1 (.slice bE N cE) N vsE) :: (Join (rowsL vsE es)) :: R) (fun (r, s) => N - r) (0, (List.replicate N false).set k true) ⟨by omega, RInv.start hkN trivial, by rw [setB (by simpa using hkN), if_pos rfl]⟩ ⟨rfl, rfl, rfl, rfl, rfl, rfl, rfl, rfl, rfl, rfl, rfl, trivial⟩ (fun _ h => h) ?_
  rintro ⟨r, s⟩ K11 hF hK11
  try dsimp only at hF hK11 ⊢
  obtain ⟨hr, hri, hsk⟩ := hF
  have hsl := hri.len
  refine c_seq (fun K12 hK12 => ?_)
  refine c_seq (fun K13 hK13 => ?_)
  refine c_region ?_
  refine tp rfl (lv_move rfl) ?_
  refine tp rfl (lv_fieldAddr (o' := 0) Try.underlying25 rfl Try.sizeOf3 rfl rfl) ?_
  refine tp rfl (lv_load Try.isAgg3 rfl (gives_blk (.tail _ (.head _)) rfl)) ?_
  by_cases h6 : ((r : Nat) : Int) < ((N : Nat) : Int)
  · -- yes
   refine tp rfl (lv_lss rfl rfl (decide_eq_true h6)) ?_
   refine t_done ?_
   refine q_then_n (hK13 _ _ ?_)
   refine c_true rfl ?_
   refine c_skip ?_
   refine q_then_n (hK12 _ _ ?_)
   refine c_seq (fun K14 hK14 => ?_)
   refine c_block ?_
   refine c_seq (fun K15 hK15 => ?_)
   refine c_region ?_
   refine tp rfl (lv_assign rfl) ?_
   refine t_done ?_
   refine q_then_n (hK15 _ _ ?_)
   refine c_block ?_
   refine c_loop (γ := (Nat) × (List Bool)) (fun (i, s2) => i ≤ N ∧ RMid N (Fwd es) (DoneF es i 0) (fun _ => True) s s2) (fun (i, s2) => [(0, (.int .i64 n)), (1, (.slice bp ps.length cp)), (2, (.slice bw ow.length cw)), (3, (.int .i64 task)), (8, (.bool false)), (9, (.bool true)), (10, (.pointer (some ⟨b1, 0, none⟩))), (11, (.int .i64 ((k : Nat) : Int))), (12, (.slice bs2 N cp3)), (13, (.int .i64 ((r : Nat) : Int))), (14, (.int .i64 ((i : Nat) : Int))), (29, (.bool false)), (45, (.bool true))]) (fun (i, s2) => (SlV 4 1 (.slice bs2 N cp3) N (bools s2)) :: (Blk b1 [(.int .i64 ((N : Nat) : Int)), (.slice bE N cE), (.slice bEo N cEo)] 25) :: (SlV 3 1 (.slice bEo N cEo) N (ints .i64 own)) :: (SlV 23 1 (.slice bE N cE) N vsE) :: (Join (rowsL vsE es)) :: R) (fun (i, s2) => N - i) (0, s) ⟨by omega, RMid.start hri (fun a b h => doneF_zero a b h)⟩ ⟨rfl, rfl, rfl, rfl, rfl, rfl, rfl, rfl, rfl, rfl, rfl, rfl, rfl, trivial⟩ (fun _ h => h) ?_
   rintro ⟨i, s2⟩ K16 hF hK16
   try dsimp only at hF hK16 ⊢
   obtain ⟨hi, hmi⟩ := hF
   have hsl2 := hmi.len
   refine c_seq (fun K17 hK17 => ?_)
   refine c_seq (fun K18 hK18 => ?_)
   refine c_region ?_
   refine tp rfl (lv_move rfl) ?_
   refine tp rfl (lv_fieldAddr (o' := 0) Try.underlying25 rfl Try.sizeOf3 rfl rfl) ?_
   refine tp rfl (lv_load Try.isAgg3 rfl (gives_blk (.tail _ (.head _)) rfl)) ?_
   by_cases h7 : ((i : Nat) : Int) < ((N : Nat) : Int)
   · -- yes
    refine tp rfl (lv_lss rfl rfl (decide_eq_true h7)) ?_
    refine t_done ?_
    refine q_then_n (hK18 _ _ ?_)
    refine c_true rfl ?_
    refine c_skip ?_
    refine q_then_n (hK17 _ _ ?_)
    refine c_seq (fun K19 hK19 => ?_)
    refine c_block ?_
    refine c_seq (fun K20 hK20 => ?_)
    refine c_region ?_
    obtain ⟨bi, ci, hoki, hlei, hvi, hri⟩ := hrowG i (by omega)
    have hlk := hlx _ (row_at_mem (show i < es.length by omega))
    refine tp rfl (lv_assign rfl) ?_
    refine t_done ?_
    refine q_then_n (hK20 _ _ ?_)
    refine c_block ?_
    refine c_loop (γ := (Nat) × (List Bool)) (fun (m, s3) => m ≤ (es.getD i []).length ∧ RMid N (Fwd es) (DoneF es i m) (fun _ => True) s s3) (fun (m, s3) => [(0, (.int .i64 n)), (1, (.slice bp ps.length cp)), (2, (.slice bw ow.length cw)), (3, (.int .i64 task)), (8, (.bool false)), (9, (.bool true)), (10, (.pointer (some ⟨b1, 0, none⟩))), (11, (.int .i64 ((k : Nat) : Int))), (12, (.slice bs2 N cp3)), (13, (.int .i64 ((r : Nat) : Int))), (14, (.int .i64 ((i : Nat) : Int))), (15, (.int .i64 ((m : Nat) : Int))), (29, (.bool false)), (45, (.bool true)), (51, (.bool true))]) (fun (m, s3) => (SlV 4 1 (.slice bs2 N cp3) N (bools s3)) :: (Blk b1 [(.int .i64 ((N : Nat) : Int)), (.slice bE N cE), (.slice bEo N cEo)] 25) :: (SlV 3 1 (.slice bEo N cEo) N (ints .i64 own)) :: (SlV 23 1 (.slice bE N cE) N vsE) :: (Join (rowsL vsE es)) :: R) (fun (m, s3) => (es.getD i []).length - m) (0, s2) ⟨by omega, hmi⟩ ⟨rfl, rfl, rfl, rfl, rfl, rfl, rfl, rfl, rfl, rfl, rfl, rfl, rfl, rfl, rfl, trivial⟩ (fun _ h => h) ?_
    rintro ⟨m, s3⟩ K21 hF hK21
    try dsimp only at hF hK21 ⊢
    obtain ⟨hm, hmm⟩ := hF
    have hsl3 := hmm.len
    refine c_seq (fun K22 hK22 => ?_)
    refine c_seq (fun K23 hK23 => ?_)
    refine c_region ?_
    refine tp rfl (lv_move rfl) ?_
    refine tp rfl (lv_move rfl) ?_
    refine tp rfl (lv_indexAddr (k' := i) Try.underlying38 Try.sizeOf4 rfl rfl hok4 (by omega) (by omega) (by omega)) ?_
    refine tp rfl (lv_load Try.isAgg4 rfl (gives_sl (.head _) (bools_get (by omega)))) ?_
    refine tp rfl (lv_move rfl) ?_
    rcases hb8 : (s3).getD i false with _ | _
    · -- false
     refine t_skip rfl rfl rfl ?_
     refine t_skip rfl rfl rfl ?_
     refine t_skip rfl rfl rfl ?_
     refine t_skip rfl rfl rfl ?_
     refine t_skip rfl rfl rfl ?_
     refine t_skip rfl rfl rfl ?_
     refine t_skip rfl rfl rfl ?_
     refine t_skip rfl rfl rfl ?_
     refine tp rfl (lv_pick_f rfl rfl) ?_
     refine t_done ?_
     refine q_then_n (hK23 _ _ ?_)
     refine c_false rfl ?_
     refine c_exit ?_
     refine q_then_x ?_
     refine q_then_x ?_
     refine q_in_x ?_
     refine q_in_n ?_
     refine q_then_n (hK19 _ _ ?_)
     refine c_region ?_
     refine tp rfl (lv_move rfl) ?_
     refine tp rfl (lv_add (c := ((i + 1 : Nat) : Int)) rfl rfl (wr_i64_succ (by omega))) ?_
     refine tp rfl (lv_assign rfl) ?_
     refine t_done ?_
     refine q_then_n ?_
     exact t_weak (by exact ⟨rfl, rfl, rfl, rfl, rfl, rfl, rfl, rfl, rfl, rfl, rfl, rfl, rfl, trivial⟩) ((hK16 (i + 1, s3) ⟨by dsimp only; omega, hmm.skip (fun x y h => (doneF_cut h).imp id (fun e => by rw [e]; exact hb8))⟩ (by dsimp only; omega)))
    · -- true
     refine t_guard rfl rfl ?_
     refine tp rfl (lv_move rfl) ?_
     refine t_guard rfl rfl ?_
     refine tp rfl (lv_fieldAddr (o' := 1) Try.underlying25 rfl Try.sizeOf22 rfl rfl) ?_
     refine t_guard rfl rfl ?_
     refine tp rfl (lv_load Try.isAgg22 rfl (gives_blk (.tail _ (.head _)) rfl)) ?_
     refine t_guard rfl rfl ?_
     refine tp rfl (lv_move rfl) ?_
     refine t_guard rfl rfl ?_
     refine tp rfl (lv_indexAddr (k' := i) Try.underlying22 Try.sizeOf23 rfl rfl hokE (by omega) (by omega) (by omega)) ?_
     refine t_guard rfl rfl ?_
     refine tp rfl (lv_load Try.isAgg23 rfl (gives_as hvi (Rd.gives (Rd.cons (Rd.cons (Rd.cons hvsG))) (vals_get (by omega))))) ?_
     refine t_guard rfl rfl ?_
     refine tp rfl (lv_len Try.underlying23 rfl rfl) ?_
     refine t_guard rfl rfl ?_
     by_cases h9 : ((m : Nat) : Int) < (((es.getD i []).length : Nat) : Int)
     · -- yes
      refine tp rfl (lv_lss rfl rfl (decide_eq_true h9)) ?_
      refine tp rfl (lv_pick_t rfl rfl) ?_
      refine t_done ?_
      refine q_then_n (hK23 _ _ ?_)
      refine c_true rfl ?_
      refine c_skip ?_
      refine q_then_n (hK22 _ _ ?_)
      refine c_seq (fun K24 hK24 => ?_)
      refine c_block ?_
      refine c_region ?_
      have hat := hfo.at_ (i := i) (k := m) (by omega)
      refine tp rfl (lv_move rfl) ?_
      refine tp rfl (lv_fieldAddr (o' := 1) Try.underlying25 rfl Try.sizeOf22 rfl rfl) ?_
      refine tp rfl (lv_load Try.isAgg22 rfl (gives_blk (.tail _ (.head _)) rfl)) ?_
      refine tp rfl (lv_move rfl) ?_
      refine tp rfl (lv_indexAddr (k' := i) Try.underlying22 Try.sizeOf23 rfl rfl hokE (by omega) (by omega) (by omega)) ?_
      refine tp rfl (lv_load Try.isAgg23 rfl (gives_as hvi (Rd.gives (Rd.cons (Rd.cons (Rd.cons hvsG))) (vals_get (by omega))))) ?_
      refine tp rfl (lv_move rfl) ?_
      refine tp rfl (lv_indexAddr (k' := m) Try.underlying23 Try.sizeOf3 rfl rfl hoki (by omega) (by omega) (by omega)) ?_
      refine tp rfl (lv_load Try.isAgg3 rfl (Rd.gives (Rd.cons (Rd.cons (Rd.cons hri))) (ints_get (by omega)))) ?_
      refine tp rfl (lv_indexAddr (k' := ((es.getD i []).getD m 0).toNat) Try.underlying38 Try.sizeOf4 rfl rfl hok4 (by omega) (by omega) (by omega)) ?_
      refine ts (sv_sl Try.sizeOf4 rfl rfl rfl (by rw [bools_length]; omega) bools_set) ?_
      refine t_done ?_
      refine q_in_n ?_
      refine q_then_n (hK24 _ _ ?_)
      refine c_region ?_
      refine tp rfl (lv_move rfl) ?_
      refine tp rfl (lv_add (c := ((m + 1 : Nat) : Int)) rfl rfl (wr_i64_succ (by omega))) ?_
      refine tp rfl (lv_assign rfl) ?_
      refine t_done ?_
      refine q_then_n ?_
      exact t_weak (by exact ⟨rfl, rfl, rfl, rfl, rfl, rfl, rfl, rfl, rfl, rfl, rfl, rfl, rfl, rfl, rfl, trivial⟩) ((hK21 (m + 1, (s3).set (((es.getD i []).getD m 0).toNat) true) ⟨by dsimp only; omega, hmm.put (edge_of hin (getD_mem_i (by omega))) (by omega) (fun _ => trivial) ⟨fun _ => .inr hb8, fun _ => rfl⟩ (fun x y h => doneF_succ (by omega) h)⟩ (by dsimp only; omega)))
     · -- no
      refine tp rfl (lv_lss rfl rfl (decide_eq_false h9)) ?_
      refine tp rfl (lv_pick_t rfl rfl) ?_
      refine t_done ?_
      refine q_then_n (hK23 _ _ ?_)
      refine c_false rfl ?_
      refine c_exit ?_
      refine q_then_x ?_
      refine q_then_x ?_
      refine q_in_x ?_
      refine q_in_n ?_
      refine q_then_n (hK19 _ _ ?_)
      refine c_region ?_
      refine tp rfl (lv_move rfl) ?_
      refine tp rfl (lv_add (c := ((i + 1 : Nat) : Int)) rfl rfl (wr_i64_succ (by omega))) ?_
      refine tp rfl (lv_assign rfl) ?_
      refine t_done ?_
      refine q_then_n ?_
      exact t_weak (by exact ⟨rfl, rfl, rfl, rfl, rfl, rfl, rfl, rfl, rfl, rfl, rfl, rfl, rfl, trivial⟩) ((hK16 (i + 1, s3) ⟨by dsimp only; omega, hmm.skip (fun x y h => .inl (doneF_row (by omega) h))⟩ (by dsimp only; omega)))
   · -- no
    refine tp rfl (lv_lss rfl rfl (decide_eq_false h7)) ?_
    refine t_done ?_
    refine q_then_n (hK18 _ _ ?_)
    refine c_false rfl ?_
    refine c_exit ?_
    refine q_then_x ?_
    refine q_then_x ?_
    refine q_in_x ?_
    refine q_in_n ?_
    refine q_then_n (hK14 _ _ ?_)
    refine c_region ?_
    refine tp rfl (lv_move rfl) ?_
    refine tp rfl (lv_add (c := ((r + 1 : Nat) : Int)) rfl rfl (wr_i64_succ (by omega))) ?_
    refine tp rfl (lv_assign rfl) ?_
    refine t_done ?_
    refine q_then_n ?_
    exact t_weak (by exact ⟨rfl, rfl, rfl, rfl, rfl, rfl, rfl, rfl, rfl, rfl, rfl, trivial⟩) ((hK11 (r + 1, s2) ⟨by dsimp only; omega, hmi.end_ hri (fun a b h => doneF_all hel (by omega) h), hmi.keep hsk⟩ (by dsimp only; omega)))
  · -- no
   refine tp rfl (lv_lss rfl rfl (decide_eq_false h6)) ?_
   refine t_done ?_
   refine q_then_n (hK13 _ _ ?_)
   refine c_false rfl ?_
   refine c_exit ?_
   refine q_then_x ?_
   refine q_then_x ?_
   refine q_in_x ?_
   refine q_then_n (hK9 _ _ ?_)
   refine c_seq (fun K14 hK14 => ?_)
   refine c_draw (γ := Option Addr × Nat × Option Addr × Nat × Nat) (n := 11) Try.mixed rfl rfl (fun (bs10, cp11, bs14, cp15, b18) S => (S 4 = true → SlOk bs10 N) ∧ (S 4 = true → N ≤ cp11) ∧ (S 7 = true → SlOk bs14 N) ∧ (S 7 = true → N ≤ cp15)) (fun (bs10, cp11, bs14, cp15, b18) => [(0, 80, (.pointer (some ⟨b1, 0, none⟩))), (1, 81, (.int .i64 ((N : Nat) : Int))), (2, 82, (.pointer (some ⟨b1, 0, none⟩))), (3, 83, (.int .i64 ((N : Nat) : Int))), (4, 84, (.slice bs10 N cp11)), (5, 85, (.pointer (some ⟨b1, 0, none⟩))), (6, 86, (.int .i64 ((N : Nat) : Int))), (7, 87, (.slice bs14 N cp15)), (8, 88, (.agg #[(.int .i64 ((N : Nat) : Int)), (.slice bs10 N cp11), (.slice bs14 N cp15)])), (9, 16, (.pointer (some ⟨b18, 0, none⟩)))]) (fun (bs10, cp11, bs14, cp15, b18) S => (SlV 4 1 (.slice bs2 N cp3) N (bools s)) :: (Blk b1 [(.int .i64 ((N : Nat) : Int)), (.slice bE N cE), (.slice bEo N cEo)] 25) :: (SlV 3 1 (.slice bEo N cEo) N (ints .i64 own)) :: (bif S 4 then (SlV 23 1 (.slice bs10 N cp11) N (List.replicate N (.slice none 0 0))) else Emp) :: (bif S 7 then (SlV 3 1 (.slice bs14 N cp15) N (ints .i64 (List.replicate N 0))) else Emp) :: (bif S 10 then (Blk b18 [(.int .i64 ((N : Nat) : Int)), (.slice bs10 N cp11), (.slice bs14 N cp15)] 25) else (bif S 9 then (Blk b18 [(.int .i64 0), (.slice none 0 0), (.slice none 0 0)] 25) else Emp)) :: (SlV 23 1 (.slice bE N cE) N vsE) :: (Join (rowsL vsE es)) :: R) (none, 0, none, 0, 0) (by simp [Nat.ble]) (fun _ h => sat_emps [_, _, _] 3 h) (fun _ _ h => h) ?_ ?_
   · -- steps
    refine ⟨?_, ?_, ?_, ?_, ?_, ?_, ?_, ?_, ?_, ?_, ?_, trivial⟩
    · -- 0
     rintro ⟨bs10, cp11, bs14, cp15, b18⟩ S hF hS D hp K hK
     try dsimp only at hF ⊢
     obtain ⟨hf0, hf1, hf2, hf3⟩ := hF
     refine d_need (small := [(10, (.pointer (some ⟨b1, 0, none⟩)))]) ⟨look_b rfl rfl, trivial⟩ ?_
     refine tp rfl (lv_fieldAddr (o' := 0) Try.underlying25 rfl Try.sizeOf3 rfl rfl) ?_
     exact d_closes ⟨look_b rfl rfl, trivial⟩ 0 rfl rfl rfl hS (AgreeR.refl _) (t_sat (fun _ h => h) (hK (bs10, cp11, bs14, cp15, b18) ⟨hf0, hf1, hf2, hf3⟩))
    · -- 1
     rintro ⟨bs10, cp11, bs14, cp15, b18⟩ S hF hS D hp K hK
     try dsimp only at hF ⊢
     obtain ⟨hf0, hf1, hf2, hf3⟩ := hF
     have s0 := hp 0 rfl
     refine d_need (small := [(80, (.pointer (some ⟨b1, 0, none⟩)))]) ⟨look_row rfl 0 rfl s0, trivial⟩ ?_
     refine tp rfl (lv_load Try.isAgg3 rfl (gives_blk (.tail _ (.head _)) rfl)) ?_
     exact d_closes ⟨look_row rfl 0 rfl s0, trivial⟩ 1 rfl rfl rfl hS (AgreeR.refl _) (t_sat (fun _ h => h) (hK (bs10, cp11, bs14, cp15, b18) ⟨hf0, hf1, hf2, hf3⟩))
    · -- 2
     rintro ⟨bs10, cp11, bs14, cp15, b18⟩ S hF hS D hp K hK
     try dsimp only at hF ⊢
     obtain ⟨hf0, hf1, hf2, hf3⟩ := hF
     refine d_need (small := [(10, (.pointer (some ⟨b1, 0, none⟩)))]) ⟨look_b rfl rfl, trivial⟩ ?_
     refine tp rfl (lv_fieldAddr (o' := 0) Try.underlying25 rfl Try.sizeOf3 rfl rfl) ?_
     exact d_closes ⟨look_b rfl rfl, trivial⟩ 2 rfl rfl rfl hS (AgreeR.refl _) (t_sat (fun _ h => h) (hK (bs10, cp11, bs14, cp15, b18) ⟨hf0, hf1, hf2, hf3⟩))
    · -- 3
     rintro ⟨bs10, cp11, bs14, cp15, b18⟩ S hF hS D hp K hK
     try dsimp only at hF ⊢
     obtain ⟨hf0, hf1, hf2, hf3⟩ := hF
     have s2 := hp 2 rfl
     refine d_need (small := [(82, (.pointer (some ⟨b1, 0, none⟩)))]) ⟨look_row rfl 2 rfl s2, trivial⟩ ?_
     refine tp rfl (lv_load Try.isAgg3 rfl (gives_blk (.tail _ (.head _)) rfl)) ?_
     exact d_closes ⟨look_row rfl 2 rfl s2, trivial⟩ 3 rfl rfl rfl hS (AgreeR.refl _) (t_sat (fun _ h => h) (hK (bs10, cp11, bs14, cp15, b18) ⟨hf0, hf1, hf2, hf3⟩))
    · -- 4
     rintro ⟨bs10, cp11, bs14, cp15, b18⟩ S hF hS D hp K hK
     try dsimp only at hF ⊢
     obtain ⟨hf0, hf1, hf2, hf3⟩ := hF
     have s3 := hp 3 rfl
     refine d_need (small := [(83, (.int .i64 ((N : Nat) : Int)))]) ⟨look_row rfl 3 rfl s3, trivial⟩ ?_
     refine t_f5 ?_
     refine t_cF (nf hS D (k := 10) (i := 4) rfl) ?_
     refine tm rfl (mv_makeSlice (i := Try.t23) Try.underlying22 Try.type23 rfl rfl rfl rfl rfl (by omega) (by rw [show Try.t23.bytes = 24 from rfl]; omega) (by omega)) ?_
     rintro _ _ ⟨bs10, cp11, hok12, hle13, rfl, rfl⟩
     rw [show (((N : Nat) : Int)).toNat = N from rfl] at hok12 hle13 ⊢
     refine t_f1 ?_
     refine t_wF (A := (Blk b18 [(.int .i64 ((N : Nat) : Int)), (.slice bs10 N cp11), (.slice bs14 N cp15)] 25)) (nf hS D (k := 10) (i := 4) rfl) ?_
     refine t_f6 ?_
     refine t_f6 ?_
     refine t_f6 ?_
     refine t_f6 ?_
     refine t_f6 ?_
     refine t_f6 ?_
     refine t_sat (fun _ h => sat_put [_, _, _] h) ?_
     exact d_closes ⟨look_row rfl 3 rfl s3, trivial⟩ 4 rfl rfl rfl hS (by exact ⟨.inl rfl, .inl rfl, .inl rfl, .inl rfl, .inr ⟨rfl, rfl, hS⟩, .inl rfl, .inl rfl, .inl rfl, .inr ⟨rfl, rfl, (nf hS D (k := 8) (i := 4) rfl)⟩, .inl rfl, trivial⟩) (t_sat (fun _ h => h) (hK (bs10, cp11, bs14, cp15, b18) ⟨(fun _ => hok12), (fun _ => hle13), hf2, hf3⟩))
    · -- 5
     rintro ⟨bs10, cp11, bs14, cp15, b18⟩ S hF hS D hp K hK
     try dsimp only at hF ⊢
     obtain ⟨hf0, hf1, hf2, hf3⟩ := hF
     refine d_need (small := [(10, (.pointer (some ⟨b1, 0, none⟩)))]) ⟨look_b rfl rfl, trivial⟩ ?_
     refine tp rfl (lv_fieldAddr (o' := 0) Try.underlying25 rfl Try.sizeOf3 rfl rfl) ?_
     exact d_closes ⟨look_b rfl rfl, trivial⟩ 5 rfl rfl rfl hS (AgreeR.refl _) (t_sat (fun _ h => h) (hK (bs10, cp11, bs14, cp15, b18) ⟨hf0, hf1, hf2, hf3⟩))
    · -- 6
     rintro ⟨bs10, cp11, bs14, cp15, b18⟩ S hF hS D hp K hK
     try dsimp only at hF ⊢
     obtain ⟨hf0, hf1, hf2, hf3⟩ := hF
     have s5 := hp 5 rfl
     refine d_need (small := [(85, (.pointer (some ⟨b1, 0, none⟩)))]) ⟨look_row rfl 5 rfl s5, trivial⟩ ?_
     refine tp rfl (lv_load Try.isAgg3 rfl (gives_blk (.tail _ (.head _)) rfl)) ?_
     exact d_closes ⟨look_row rfl 5 rfl s5, trivial⟩ 6 rfl rfl rfl hS (AgreeR.refl _) (t_sat (fun _ h => h) (hK (bs10, cp11, bs14, cp15, b18) ⟨hf0, hf1, hf2, hf3⟩))
    · -- 7
     rintro ⟨bs10, cp11, bs14, cp15, b18⟩ S hF hS D hp K hK
     try dsimp only at hF ⊢
     obtain ⟨hf0, hf1, hf2, hf3⟩ := hF
     have s6 := hp 6 rfl
     refine d_need (small := [(86, (.int .i64 ((N : Nat) : Int)))]) ⟨look_row rfl 6 rfl s6, trivial⟩ ?_
     refine t_f5 ?_
     refine t_cF (nf hS D (k := 10) (i := 7) rfl) ?_
     refine tm rfl (mv_makeSlice (i := Try.t3) Try.underlying23 Try.type3 rfl rfl rfl rfl rfl (by omega) (by rw [show Try.t3.bytes = 8 from rfl]; omega) (by omega)) ?_
     rintro _ _ ⟨bs14, cp15, hok16, hle17, rfl, rfl⟩
     rw [show (((N : Nat) : Int)).toNat = N from rfl] at hok16 hle17 ⊢
     rw [ints_rep]
     refine t_f1 ?_
     refine t_wF (A := (Blk b18 [(.int .i64 ((N : Nat) : Int)), (.slice bs10 N cp11), (.slice bs14 N cp15)] 25)) (nf hS D (k := 10) (i := 7) rfl) ?_
     refine t_f6 ?_
     refine t_f6 ?_
     refine t_f6 ?_
     refine t_f6 ?_
     refine t_f6 ?_
     refine t_f6 ?_
     refine t_sat (fun _ h => sat_put [_, _, _, _] h) ?_
     exact d_closes ⟨look_row rfl 6 rfl s6, trivial⟩ 7 rfl rfl rfl hS (by exact ⟨.inl rfl, .inl rfl, .inl rfl, .inl rfl, .inl rfl, .inl rfl, .inl rfl, .inr ⟨rfl, rfl, hS⟩, .inr ⟨rfl, rfl, (nf hS D (k := 8) (i := 7) rfl)⟩, .inl rfl, trivial⟩) (t_sat (fun _ h => h) (hK (bs10, cp11, bs14, cp15, b18) ⟨hf0, hf1, (fun _ => hok16), (fun _ => hle17)⟩))
    · -- 8
     rintro ⟨bs10, cp11, bs14, cp15, b18⟩ S hF hS D hp K hK
     try dsimp only at hF ⊢
     obtain ⟨hf0, hf1, hf2, hf3⟩ := hF
     have s4 := hp 4 rfl
     have hok12 := hf0 s4
     have hle13 := hf1 s4
     have s7 := hp 7 rfl
     have hok16 := hf2 s7
     have hle17 := hf3 s7
     have s1 := hp 1 rfl
     refine d_need (small := [(81, (.int .i64 ((N : Nat) : Int))), (84, (.slice bs10 N cp11)), (87, (.slice bs14 N cp15))]) ⟨look_row rfl 1 rfl s1, look_row rfl 4 rfl s4, look_row rfl 7 rfl s7, trivial⟩ ?_
     refine tp rfl (lv_build (cs := [(.int .i64 ((N : Nat) : Int)), (.slice bs10 N cp11), (.slice bs14 N cp15)]) (pl := [(0, 1), (1, 1), (2, 1)]) Try.underlying25 Try.zeroValue25 (fun _ => by simp) rfl rfl) ?_
     exact d_closes ⟨look_row rfl 1 rfl s1, look_row rfl 4 rfl s4, look_row rfl 7 rfl s7, trivial⟩ 8 rfl rfl rfl hS (AgreeR.refl _) (t_sat (fun _ h => h) (hK (bs10, cp11, bs14, cp15, b18) ⟨hf0, hf1, hf2, hf3⟩))
    · -- 9
     rintro ⟨bs10, cp11, bs14, cp15, b18⟩ S hF hS D hp K hK
     try dsimp only at hF ⊢
     obtain ⟨hf0, hf1, hf2, hf3⟩ := hF
     refine d_need (small := []) trivial ?_
     refine t_f5 ?_
     refine t_cF (nf hS D (k := 10) (i := 9) rfl) ?_
     refine t_cF hS ?_
     refine tm rfl (mv_alloc Try.zeroValue25 rfl) ?_
     rintro _ _ ⟨b18, rfl, rfl⟩
     refine t_f1 ?_
     refine t_wF (A := (Blk b18 [(.int .i64 0), (.slice none 0 0), (.slice none 0 0)] 25)) hS ?_
     refine t_wF (A := (Blk b18 [(.int .i64 ((N : Nat) : Int)), (.slice bs10 N cp11), (.slice bs14 N cp15)] 25)) (nf hS D (k := 10) (i := 9) rfl) ?_
     refine t_f1 ?_
     refine t_wF (A := (Blk b18 [(.int .i64 ((N : Nat) : Int)), (.slice bs10 N cp11), (.slice bs14 N cp15)] 25)) (nf hS D (k := 10) (i := 9) rfl) ?_
     refine t_f1 ?_
     refine t_f6 ?_
     refine t_f6 ?_
     refine t_f6 ?_
     refine t_f6 ?_
     refine t_f6 ?_
     refine t_f6 ?_
     refine t_sat (fun _ h => sat_put [_, _, _, _, _] h) ?_
     exact d_closes trivial 9 rfl rfl rfl hS (by exact ⟨.inl rfl, .inl rfl, .inl rfl, .inl rfl, .inl rfl, .inl rfl, .inl rfl, .inl rfl, .inl rfl, .inr ⟨rfl, rfl, hS⟩, trivial⟩) (t_sat (fun _ h => h) (hK (bs10, cp11, bs14, cp15, b18) ⟨hf0, hf1, hf2, hf3⟩))
    · -- 10
     rintro ⟨bs10, cp11, bs14, cp15, b18⟩ S hF hS D hp K hK
     try dsimp only at hF ⊢
     obtain ⟨hf0, hf1, hf2, hf3⟩ := hF
     have s4 := hp 4 rfl
     have hok12 := hf0 s4
     have hle13 := hf1 s4
     have s7 := hp 7 rfl
     have hok16 := hf2 s7
     have hle17 := hf3 s7
     have s9 := hp 9 rfl
     have s8 := hp 8 rfl
     refine d_need (small := [(16, (.pointer (some ⟨b18, 0, none⟩))), (88, (.agg #[(.int .i64 ((N : Nat) : Int)), (.slice bs10 N cp11), (.slice bs14 N cp15)]))]) ⟨look_row rfl 9 rfl s9, look_row rfl 8 rfl s8, trivial⟩ ?_
     refine t_f5 ?_
     refine t_cF hS ?_
     refine t_cT s9 ?_
     refine ts (sv_blkAgg (news := [(.int .i64 ((N : Nat) : Int)), (.slice bs10 N cp11), (.slice bs14 N cp15)]) Try.sizeOf25 rfl rfl rfl rfl (Nat.le_of_ble_eq_true rfl) rfl) ?_
     refine t_f5 ?_
     refine t_f5 ?_
     refine t_f5 ?_
     refine t_f5 ?_
     refine t_f5 ?_
     exact d_closes0 ⟨look_row rfl 9 rfl s9, look_row rfl 8 rfl s8, trivial⟩ rfl (t_sat (fun _ h => h) (hK (bs10, cp11, bs14, cp15, b18) ⟨hf0, hf1, hf2, hf3⟩))
   · -- behind
    rintro ⟨bs10, cp11, bs14, cp15, b18⟩ hF
    try dsimp only at hF ⊢
    obtain ⟨hf0, hf1, hf2, hf3⟩ := hF
    have hok12 := hf0 rfl
    have hle13 := hf1 rfl
    have hok16 := hf2 rfl
    have hle17 := hf3 rfl
    refine t_weak (E' := [(0, (.int .i64 n)), (1, (.slice bp ps.length cp)), (2, (.slice bw ow.length cw)), (3, (.int .i64 task)), (8, (.bool false)), (9, (.bool true)), (10, (.pointer (some ⟨b1, 0, none⟩))), (11, (.int .i64 ((k : Nat) : Int))), (12, (.slice bs2 N cp3)), (13, (.int .i64 ((r : Nat) : Int))), (16, (.pointer (some ⟨b18, 0, none⟩))), (29, (.bool false)), (45, (.bool false))]) ⟨rfl, rfl, rfl, rfl, rfl, rfl, rfl, rfl, rfl, rfl, rfl, rfl, rfl, trivial⟩ ?_
    refine q_then_n (hK14 _ _ ?_)
    refine c_seq (fun K15 hK15 => ?_)
    refine c_seq (fun K16 hK16 => ?_)
    refine c_region ?_
    have hrN : RInv N (Fwd es) (fun _ => True) N s := (show r = N by omega) ▸ hri
    rw [show List.replicate N (.slice none 0 0) = partV N vsG s 0 from (partV_zero N vsG s).symm, show List.replicate N 0 = partO N own s 0 from (partO_zero N own s).symm]
    refine tp rfl (lv_assign rfl) ?_
    refine t_done ?_
    refine q_then_n (hK16 _ _ ?_)
    refine c_block ?_
    refine c_loop (γ := (Nat)) (fun (i : Nat) => i ≤ N) (fun (i : Nat) => [(0, (.int .i64 n)), (1, (.slice bp ps.length cp)), (2, (.slice bw ow.length cw)), (3, (.int .i64 task)), (8, (.bool false)), (9, (.bool true)), (10, (.pointer (some ⟨b1, 0, none⟩))), (11, (.int .i64 ((k : Nat) : Int))), (12, (.slice bs2 N cp3)), (13, (.int .i64 ((r : Nat) : Int))), (16, (.pointer (some ⟨b18, 0, none⟩))), (17, (.int .i64 ((i : Nat) : Int))), (29, (.bool false)), (45, (.bool false))]) (fun (i : Nat) => (SlV 4 1 (.slice bs2 N cp3) N (bools s)) :: (Blk b1 [(.int .i64 ((N : Nat) : Int)), (.slice bE N cE), (.slice bEo N cEo)] 25) :: (SlV 3 1 (.slice bEo N cEo) N (ints .i64 own)) :: (SlV 23 1 (.slice bs10 N cp11) N (partV N vsG s i)) :: (SlV 3 1 (.slice bs14 N cp15) N (ints .i64 (partO N own s i))) :: (Blk b18 [(.int .i64 ((N : Nat) : Int)), (.slice bs10 N cp11), (.slice bs14 N cp15)] 25) :: (SlV 23 1 (.slice bE N cE) N vsE) :: (Join (rowsL vsE es)) :: R) (fun (i : Nat) => N - i) (0) (by omega) ⟨rfl, rfl, rfl, rfl, rfl, rfl, rfl, rfl, rfl, rfl, rfl, rfl, rfl, rfl, trivial⟩ (fun _ h => h) ?_
    rintro i K17 hF hK17
    try dsimp only at hF hK17 ⊢
    have hpv := partV_len N vsG s i
    have hpo := partO_len N own s i
    have hsl := hri.len
    refine c_seq (fun K18 hK18 => ?_)
    refine c_seq (fun K19 hK19 => ?_)
    refine c_region ?_
    refine tp rfl (lv_move rfl) ?_
    refine tp rfl (lv_fieldAddr (o' := 0) Try.underlying25 rfl Try.sizeOf3 rfl rfl) ?_
    refine tp rfl (lv_load Try.isAgg3 rfl (gives_blk (.tail _ (.head _)) rfl)) ?_
    by_cases h19 : ((i : Nat) : Int) < ((N : Nat) : Int)
    · -- yes
     refine tp rfl (lv_lss rfl rfl (decide_eq_true h19)) ?_
     refine t_done ?_
     refine q_then_n (hK19 _ _ ?_)
     refine c_true rfl ?_
     refine c_skip ?_
     refine q_then_n (hK18 _ _ ?_)
     refine c_seq (fun K20 hK20 => ?_)
     refine c_block ?_
     refine c_seq (fun K21 hK21 => ?_)
     refine c_region ?_
     refine tp rfl (lv_move rfl) ?_
     refine tp rfl (lv_move rfl) ?_
     refine tp rfl (lv_indexAddr (k' := i) Try.underlying38 Try.sizeOf4 rfl rfl hok4 (by omega) (by omega) (by omega)) ?_
     refine tp rfl (lv_load Try.isAgg4 rfl (gives_sl (.head _) (bools_get (by omega)))) ?_
     refine t_done ?_
     refine q_then_n (hK21 _ _ ?_)
     refine c_split rfl (fun c20 => ?_) (fun c20 => ?_)
     · -- true
      refine c_seq (fun K22 hK22 => ?_)
      obtain ⟨bj, cj, hokj, hlej, hvj, hrj⟩ := hrowG i (by omega)
      refine c_draw (γ := Unit) (n := 10) Try.mixed rfl rfl (fun _ S => True) (fun _ => [(0, 99, (.pointer (some ⟨b18, 1, none⟩))), (1, 100, (.slice bs10 N cp11)), (2, 101, (.int .i64 ((i : Nat) : Int))), (3, 102, (.pointer (some ⟨b1, 1, none⟩))), (4, 103, (.slice bE N cE)), (5, 104, (.int .i64 ((i : Nat) : Int))), (6, 105, (.pointer (some (ad bE i)))), (7, 106, (.slice bj ((es.getD i []).length) cj)), (8, 107, (.pointer (some (ad bs10 i))))]) (fun _ S => (SlV 4 1 (.slice bs2 N cp3) N (bools s)) :: (Blk b1 [(.int .i64 ((N : Nat) : Int)), (.slice bE N cE), (.slice bEo N cEo)] 25) :: (SlV 3 1 (.slice bEo N cEo) N (ints .i64 own)) :: (bif S 9 then (SlV 23 1 (.slice bs10 N cp11) N (((partV N vsG s i)).set i (.slice bj ((es.getD i []).length) cj))) else (SlV 23 1 (.slice bs10 N cp11) N (partV N vsG s i))) :: (SlV 3 1 (.slice bs14 N cp15) N (ints .i64 (partO N own s i))) :: (Blk b18 [(.int .i64 ((N : Nat) : Int)), (.slice bs10 N cp11), (.slice bs14 N cp15)] 25) :: (SlV 23 1 (.slice bE N cE) N vsE) :: (Join (rowsL vsE es)) :: R) (()) trivial (fun _ h => h) (fun _ _ h => h) ?_ ?_
      · -- steps
       refine ⟨?_, ?_, ?_, ?_, ?_, ?_, ?_, ?_, ?_, ?_, trivial⟩
       · -- 0
        rintro _ S hF hS D hp K hK
        try dsimp only at hF ⊢
        refine d_need (small := [(16, (.pointer (some ⟨b18, 0, none⟩)))]) ⟨look_b rfl rfl, trivial⟩ ?_
        refine tp rfl (lv_fieldAddr (o' := 1) Try.underlying25 rfl Try.sizeOf22 rfl rfl) ?_
        exact d_closes ⟨look_b rfl rfl, trivial⟩ 0 rfl rfl rfl hS (AgreeR.refl _) (t_sat (fun _ h => h) (hK () trivial))
       · -- 1
        rintro _ S hF hS D hp K hK
        try dsimp only at hF ⊢
        have s0 := hp 0 rfl
        refine d_need (small := [(99, (.pointer (some ⟨b18, 1, none⟩)))]) ⟨look_row rfl 0 rfl s0, trivial⟩ ?_
        refine tp rfl (lv_load Try.isAgg22 rfl (gives_blk (.tail _ (.tail _ (.tail _ (.tail _ (.tail _ (.head _)))))) rfl)) ?_
        exact d_closes ⟨look_row rfl 0 rfl s0, trivial⟩ 1 rfl rfl rfl hS (AgreeR.refl _) (t_sat (fun _ h => h) (hK () trivial))
       · -- 2
        rintro _ S hF hS D hp K hK
        try dsimp only at hF ⊢
        refine d_need (small := [(17, (.int .i64 ((i : Nat) : Int)))]) ⟨look_b rfl rfl, trivial⟩ ?_
        refine tp rfl (lv_move rfl) ?_
        exact d_closes ⟨look_b rfl rfl, trivial⟩ 2 rfl rfl rfl hS (AgreeR.refl _) (t_sat (fun _ h => h) (hK () trivial))
       · -- 3
        rintro _ S hF hS D hp K hK
        try dsimp only at hF ⊢
        refine d_need (small := [(10, (.pointer (some ⟨b1, 0, none⟩)))]) ⟨look_b rfl rfl, trivial⟩ ?_
        refine tp rfl (lv_fieldAddr (o' := 1) Try.underlying25 rfl Try.sizeOf22 rfl rfl) ?_
        exact d_closes ⟨look_b rfl rfl, trivial⟩ 3 rfl rfl rfl hS (AgreeR.refl _) (t_sat (fun _ h => h) (hK () trivial))
       · -- 4
        rintro _ S hF hS D hp K hK
        try dsimp only at hF ⊢
        have s3 := hp 3 rfl
        refine d_need (small := [(102, (.pointer (some ⟨b1, 1, none⟩)))]) ⟨look_row rfl 3 rfl s3, trivial⟩ ?_
        refine tp rfl (lv_load Try.isAgg22 rfl (gives_blk (.tail _ (.head _)) rfl)) ?_
        exact d_closes ⟨look_row rfl 3 rfl s3, trivial⟩ 4 rfl rfl rfl hS (AgreeR.refl _) (t_sat (fun _ h => h) (hK () trivial))
       · -- 5
        rintro _ S hF hS D hp K hK
        try dsimp only at hF ⊢
        refine d_need (small := [(17, (.int .i64 ((i : Nat) : Int)))]) ⟨look_b rfl rfl, trivial⟩ ?_
        refine tp rfl (lv_move rfl) ?_
        exact d_closes ⟨look_b rfl rfl, trivial⟩ 5 rfl rfl rfl hS (AgreeR.refl _) (t_sat (fun _ h => h) (hK () trivial))
       · -- 6
        rintro _ S hF hS D hp K hK
        try dsimp only at hF ⊢
        have s4 := hp 4 rfl
        have s5 := hp 5 rfl
        refine d_need (small := [(103, (.slice bE N cE)), (104, (.int .i64 ((i : Nat) : Int)))]) ⟨look_row rfl 4 rfl s4, look_row rfl 5 rfl s5, trivial⟩ ?_
        refine tp rfl (lv_indexAddr (k' := i) Try.underlying22 Try.sizeOf23 rfl rfl hokE (by omega) (by omega) (by omega)) ?_
        exact d_closes ⟨look_row rfl 4 rfl s4, look_row rfl 5 rfl s5, trivial⟩ 6 rfl rfl rfl hS (AgreeR.refl _) (t_sat (fun _ h => h) (hK () trivial))
       · -- 7
        rintro _ S hF hS D hp K hK
        try dsimp only at hF ⊢
        have s6 := hp 6 rfl
        refine d_need (small := [(105, (.pointer (some (ad bE i))))]) ⟨look_row rfl 6 rfl s6, trivial⟩ ?_
        refine tp rfl (lv_load Try.isAgg23 rfl (gives_as hvj (Rd.gives (Rd.cons (Rd.cons (Rd.cons (Rd.cons (Rd.cons (Rd.cons hvsG)))))) (vals_get (by omega))))) ?_
        exact d_closes ⟨look_row rfl 6 rfl s6, trivial⟩ 7 rfl rfl rfl hS (AgreeR.refl _) (t_sat (fun _ h => h) (hK () trivial))
       · -- 8
        rintro _ S hF hS D hp K hK
        try dsimp only at hF ⊢
        have s1 := hp 1 rfl
        have s2 := hp 2 rfl
        refine d_need (small := [(100, (.slice bs10 N cp11)), (101, (.int .i64 ((i : Nat) : Int)))]) ⟨look_row rfl 1 rfl s1, look_row rfl 2 rfl s2, trivial⟩ ?_
        refine tp rfl (lv_indexAddr (k' := i) Try.underlying22 Try.sizeOf23 rfl rfl hok12 (by omega) (by omega) (by omega)) ?_
        exact d_closes ⟨look_row rfl 1 rfl s1, look_row rfl 2 rfl s2, trivial⟩ 8 rfl rfl rfl hS (AgreeR.refl _) (t_sat (fun _ h => h) (hK () trivial))
       · -- 9
        rintro _ S hF hS D hp K hK
        try dsimp only at hF ⊢
        have s7 := hp 7 rfl
        have s8 := hp 8 rfl
        refine d_need (small := [(106, (.slice bj ((es.getD i []).length) cj)), (107, (.pointer (some (ad bs10 i))))]) ⟨look_row rfl 7 rfl s7, look_row rfl 8 rfl s8, trivial⟩ ?_
        refine t_f3 ?_
        refine t_cF hS ?_
        refine ts (sv_sl Try.sizeOf23 rfl rfl rfl (by first | (simp; omega) | omega) rfl) ?_
        refine t_f3 ?_
        refine t_f3 ?_
        refine t_f3 ?_
        exact d_closes0 ⟨look_row rfl 7 rfl s7, look_row rfl 8 rfl s8, trivial⟩ rfl (t_sat (fun _ h => h) (hK () trivial))
      · -- behind
       rintro _ hF
       try dsimp only at hF ⊢
       refine t_weak (E' := [(0, (.int .i64 n)), (1, (.slice bp ps.length cp)), (2, (.slice bw ow.length cw)), (3, (.int .i64 task)), (8, (.bool false)), (9, (.bool true)), (10, (.pointer (some ⟨b1, 0, none⟩))), (11, (.int .i64 ((k : Nat) : Int))), (12, (.slice bs2 N cp3)), (13, (.int .i64 ((r : Nat) : Int))), (16, (.pointer (some ⟨b18, 0, none⟩))), (17, (.int .i64 ((i : Nat) : Int))), (29, (.bool false)), (45, (.bool false)), (92, (.bool true)), (98, (.bool ((s).getD i false)))]) ⟨rfl, rfl, rfl, rfl, rfl, rfl, rfl, rfl, rfl, rfl, rfl, rfl, rfl, rfl, rfl, rfl, trivial⟩ ?_
       refine q_then_n (hK22 _ _ ?_)
       refine c_draw (γ := Unit) (n := 10) Try.mixed rfl rfl (fun _ S => True) (fun _ => [(0, 108, (.pointer (some ⟨b18, 2, none⟩))), (1, 109, (.slice bs14 N cp15)), (2, 110, (.int .i64 ((i : Nat) : Int))), (3, 111, (.pointer (some ⟨b1, 2, none⟩))), (4, 112, (.slice bEo N cEo)), (5, 113, (.int .i64 ((i : Nat) : Int))), (6, 114, (.pointer (some (ad bEo i)))), (7, 115, (.int .i64 ((own).getD i 0))), (8, 116, (.pointer (some (ad bs14 i))))]) (fun _ S => (SlV 4 1 (.slice bs2 N cp3) N (bools s)) :: (Blk b1 [(.int .i64 ((N : Nat) : Int)), (.slice bE N cE), (.slice bEo N cEo)] 25) :: (SlV 3 1 (.slice bEo N cEo) N (ints .i64 own)) :: (SlV 23 1 (.slice bs10 N cp11) N (((partV N vsG s i)).set i (.slice bj ((es.getD i []).length) cj))) :: (bif S 9 then (SlV 3 1 (.slice bs14 N cp15) N (ints .i64 (((partO N own s i)).set i ((own).getD i 0)))) else (SlV 3 1 (.slice bs14 N cp15) N (ints .i64 (partO N own s i)))) :: (Blk b18 [(.int .i64 ((N : Nat) : Int)), (.slice bs10 N cp11), (.slice bs14 N cp15)] 25) :: (SlV 23 1 (.slice bE N cE) N vsE) :: (Join (rowsL vsE es)) :: R) (()) trivial (fun _ h => h) (fun _ _ h => h) ?_ ?_
       · -- steps
        refine ⟨?_, ?_, ?_, ?_, ?_, ?_, ?_, ?_, ?_, ?_, trivial⟩
        · -- 0
         rintro _ S hF hS D hp K hK
         try dsimp only at hF ⊢
         refine d_need (small := [(16, (.pointer (some ⟨b18, 0, none⟩)))]) ⟨look_b rfl rfl, trivial⟩ ?_
         refine tp rfl (lv_fieldAddr (o' := 2) Try.underlying25 rfl Try.sizeOf23 rfl rfl) ?_
         exact d_closes ⟨look_b rfl rfl, trivial⟩ 0 rfl rfl rfl hS (AgreeR.refl _) (t_sat (fun _ h => h) (hK () trivial))
        · -- 1
         rintro _ S hF hS D hp K hK
         try dsimp only at hF ⊢
         have s0 := hp 0 rfl
         refine d_need (small := [(108, (.pointer (some ⟨b18, 2, none⟩)))]) ⟨look_row rfl 0 rfl s0, trivial⟩ ?_
         refine tp rfl (lv_load Try.isAgg23 rfl (gives_blk (.tail _ (.tail _ (.tail _ (.tail _ (.tail _ (.head _)))))) rfl)) ?_
         exact d_closes ⟨look_row rfl 0 rfl s0, trivial⟩ 1 rfl rfl rfl hS (AgreeR.refl _) (t_sat (fun _ h => h) (hK () trivial))
        · -- 2
         rintro _ S hF hS D hp K hK
         try dsimp only at hF ⊢
         refine d_need (small := [(17, (.int .i64 ((i : Nat) : Int)))]) ⟨look_b rfl rfl, trivial⟩ ?_
         refine tp rfl (lv_move rfl) ?_
         exact d_closes ⟨look_b rfl rfl, trivial⟩ 2 rfl rfl rfl hS (AgreeR.refl _) (t_sat (fun _ h => h) (hK () trivial))
        · -- 3
         rintro _ S hF hS D hp K hK
         try dsimp only at hF ⊢
         refine d_need (small := [(10, (.pointer (some ⟨b1, 0, none⟩)))]) ⟨look_b rfl rfl, trivial⟩ ?_
         refine tp rfl (lv_fieldAddr (o' := 2) Try.underlying25 rfl Try.sizeOf23 rfl rfl) ?_
         exact d_closes ⟨look_b rfl rfl, trivial⟩ 3 rfl rfl rfl hS (AgreeR.refl _) (t_sat (fun _ h => h) (hK () trivial))
        · -- 4
         rintro _ S hF hS D hp K hK
         try dsimp only at hF ⊢
         have s3 := hp 3 rfl
         refine d_need (small := [(111, (.pointer (some ⟨b1, 2, none⟩)))]) ⟨look_row rfl 3 rfl s3, trivial⟩ ?_
         refine tp rfl (lv_load Try.isAgg23 rfl (gives_blk (.tail _ (.head _)) rfl)) ?_
         exact d_closes ⟨look_row rfl 3 rfl s3, trivial⟩ 4 rfl rfl rfl hS (AgreeR.refl _) (t_sat (fun _ h => h) (hK () trivial))
        · -- 5
         rintro _ S hF hS D hp K hK
         try dsimp only at hF ⊢
         refine d_need (small := [(17, (.int .i64 ((i : Nat) : Int)))]) ⟨look_b rfl rfl, trivial⟩ ?_
         refine tp rfl (lv_move rfl) ?_
         exact d_closes ⟨look_b rfl rfl, trivial⟩ 5 rfl rfl rfl hS (AgreeR.refl _) (t_sat (fun _ h => h) (hK () trivial))
        · -- 6
         rintro _ S hF hS D hp K hK
         try dsimp only at hF ⊢
         have s4 := hp 4 rfl
         have s5 := hp 5 rfl
         refine d_need (small := [(112, (.slice bEo N cEo)), (113, (.int .i64 ((i : Nat) : Int)))]) ⟨look_row rfl 4 rfl s4, look_row rfl 5 rfl s5, trivial⟩ ?_
         refine tp rfl (lv_indexAddr (k' := i) Try.underlying23 Try.sizeOf3 rfl rfl hokEo (by omega) (by omega) (by omega)) ?_
         exact d_closes ⟨look_row rfl 4 rfl s4, look_row rfl 5 rfl s5, trivial⟩ 6 rfl rfl rfl hS (AgreeR.refl _) (t_sat (fun _ h => h) (hK () trivial))
        · -- 7
         rintro _ S hF hS D hp K hK
         try dsimp only at hF ⊢
         have s6 := hp 6 rfl
         refine d_need (small := [(114, (.pointer (some (ad bEo i))))]) ⟨look_row rfl 6 rfl s6, trivial⟩ ?_
         refine tp rfl (lv_load Try.isAgg3 rfl (gives_sl (.tail _ (.tail _ (.head _))) (ints_get (by omega)))) ?_
         exact d_closes ⟨look_row rfl 6 rfl s6, trivial⟩ 7 rfl rfl rfl hS (AgreeR.refl _) (t_sat (fun _ h => h) (hK () trivial))
        · -- 8
         rintro _ S hF hS D hp K hK
         try dsimp only at hF ⊢
         have s1 := hp 1 rfl
         have s2 := hp 2 rfl
         refine d_need (small := [(109, (.slice bs14 N cp15)), (110, (.int .i64 ((i : Nat) : Int)))]) ⟨look_row rfl 1 rfl s1, look_row rfl 2 rfl s2, trivial⟩ ?_
         refine tp rfl (lv_indexAddr (k' := i) Try.underlying23 Try.sizeOf3 rfl rfl hok16 (by omega) (by omega) (by omega)) ?_
         exact d_closes ⟨look_row rfl 1 rfl s1, look_row rfl 2 rfl s2, trivial⟩ 8 rfl rfl rfl hS (AgreeR.refl _) (t_sat (fun _ h => h) (hK () trivial))
        · -- 9
         rintro _ S hF hS D hp K hK
         try dsimp only at hF ⊢
         have s7 := hp 7 rfl
         have s8 := hp 8 rfl
         refine d_need (small := [(115, (.int .i64 ((own).getD i 0))), (116, (.pointer (some (ad bs14 i))))]) ⟨look_row rfl 7 rfl s7, look_row rfl 8 rfl s8, trivial⟩ ?_
         refine t_f4 ?_
         refine t_cF hS ?_
         refine ts (sv_sl Try.sizeOf3 rfl rfl rfl (by first | (rw [ints_length]; omega) | (simp; omega) | omega) ints_set) ?_
         refine t_f4 ?_
         refine t_f4 ?_
         refine t_f4 ?_
         refine t_f4 ?_
         exact d_closes0 ⟨look_row rfl 7 rfl s7, look_row rfl 8 rfl s8, trivial⟩ rfl (t_sat (fun _ h => h) (hK () trivial))
       · -- behind
        rintro _ hF
        try dsimp only at hF ⊢
        refine t_weak (E' := [(0, (.int .i64 n)), (1, (.slice bp ps.length cp)), (2, (.slice bw ow.length cw)), (3, (.int .i64 task)), (8, (.bool false)), (9, (.bool true)), (10, (.pointer (some ⟨b1, 0, none⟩))), (11, (.int .i64 ((k : Nat) : Int))), (12, (.slice bs2 N cp3)), (13, (.int .i64 ((r : Nat) : Int))), (16, (.pointer (some ⟨b18, 0, none⟩))), (17, (.int .i64 ((i : Nat) : Int))), (29, (.bool false)), (45, (.bool false)), (92, (.bool true)), (98, (.bool ((s).getD i false)))]) ⟨rfl, rfl, rfl, rfl, rfl, rfl, rfl, rfl, rfl, rfl, rfl, rfl, rfl, rfl, rfl, rfl, trivial⟩ ?_
        refine q_in_n ?_
        refine q_then_n (hK20 _ _ ?_)
        refine c_region ?_
        refine tp rfl (lv_move rfl) ?_
        refine tp rfl (lv_add (c := ((i + 1 : Nat) : Int)) rfl rfl (wr_i64_succ (by omega))) ?_
        refine tp rfl (lv_assign rfl) ?_
        refine t_done ?_
        refine q_then_n ?_
        rw [show (partV N vsG s i).set i (.slice bj (es.getD i []).length cj) = partV N vsG s (i + 1) from by rw [← hvj]; exact partV_yes (by omega) c20, show (partO N own s i).set i (own.getD i 0) = partO N own s (i + 1) from partO_yes (by omega) c20]
        exact t_weak (by exact ⟨rfl, rfl, rfl, rfl, rfl, rfl, rfl, rfl, rfl, rfl, rfl, rfl, rfl, rfl, trivial⟩) ((hK17 (i + 1) (by omega) (by omega)))
     · -- false
      refine c_skip ?_
      refine q_in_n ?_
      refine q_then_n (hK20 _ _ ?_)
      refine c_region ?_
      refine tp rfl (lv_move rfl) ?_
      refine tp rfl (lv_add (c := ((i + 1 : Nat) : Int)) rfl rfl (wr_i64_succ (by omega))) ?_
      refine tp rfl (lv_assign rfl) ?_
      refine t_done ?_
      refine q_then_n ?_
      rw [show partV N vsG s i = partV N vsG s (i + 1) from partV_no c20, show partO N own s i = partO N own s (i + 1) from partO_no c20]
      exact t_weak (by exact ⟨rfl, rfl, rfl, rfl, rfl, rfl, rfl, rfl, rfl, rfl, rfl, rfl, rfl, rfl, trivial⟩) ((hK17 (i + 1) (by omega) (by omega)))
    · -- no
     refine tp rfl (lv_lss rfl rfl (decide_eq_false h19)) ?_
     refine t_done ?_
     refine q_then_n (hK19 _ _ ?_)
     refine c_false rfl ?_
     refine c_exit ?_
     refine q_then_x ?_
     refine q_then_x ?_
     refine q_in_x ?_
     refine q_then_n (hK15 _ _ ?_)
     refine c_seq (fun K20 hK20 => ?_)
     refine c_region ?_
     rw [show partV N vsG s i = partV N vsG s N from by rw [show i = N by omega], show partO N own s i = partO N own s N from by rw [show i = N by omega]]
     have hal := aloneL hfo hrN hkN hsk
     refine tp rfl (lv_loadAgg (cs := [(.int .i64 ((N : Nat) : Int)), (.slice bE N cE), (.slice bEo N cEo)]) Try.isAgg25 Try.sizeOf25 rfl (gives_all3 (gives_blk (.tail _ (.head _)) rfl) (gives_blk (.tail _ (.head _)) rfl) (gives_blk (.tail _ (.head _)) rfl))) ?_
     refine tc rfl (en_fn Try.call11 rfl) (of_ok (N := N) (es := es) (own := own) (hfo) ((((((hG.cons).cons).cons).cons).cons).cons) hokE (rd_sl (.tail _ (.tail _ (.head _)))) hokEo hlx) ?_
     rintro _ _ ⟨bs21, cp22, hok23, hle24, rfl, rfl⟩
     refine tp rfl (lv_move rfl) ?_
     refine tp rfl (lv_extract rfl rfl) ?_
     refine tp rfl (lv_extract rfl rfl) ?_
     refine tp rfl (lv_assign rfl) ?_
     refine tp rfl (lv_assign rfl) ?_
     refine t_done ?_
     refine q_then_n (hK20 _ _ ?_)
     refine c_seq (fun K21 hK21 => ?_)
     refine c_region ?_
     refine tp rfl (lv_loadAgg (cs := [(.int .i64 ((N : Nat) : Int)), (.slice bs10 N cp11), (.slice bs14 N cp15)]) Try.isAgg25 Try.sizeOf25 rfl (gives_all3 (gives_blk (.tail _ (.tail _ (.tail _ (.tail _ (.tail _ (.tail _ (.head _))))))) rfl) (gives_blk (.tail _ (.tail _ (.tail _ (.tail _ (.tail _ (.tail _ (.head _))))))) rfl) (gives_blk (.tail _ (.tail _ (.tail _ (.tail _ (.tail _ (.tail _ (.head _))))))) rfl))) ?_
     refine tc rfl (en_fn Try.call11 rfl) (of_ok (N := N) (es := (partE es s N)) (own := (partO N own s N)) ((part_fok hfo s N)) (gridR_part hel (fun _ _ h => ((((((h.cons).cons).cons).cons).cons).cons).cons) hrowG (rd_sl (.tail _ (.tail _ (.tail _ (.tail _ (.head _))))))) hok12 (rd_sl (.tail _ (.tail _ (.tail _ (.tail _ (.tail _ (.head _))))))) hok16 (part_rows hlx s N)) ?_
     rintro _ _ ⟨bs25, cp26, hok27, hle28, rfl, rfl⟩
     refine tp rfl (lv_move rfl) ?_
     refine tp rfl (lv_extract rfl rfl) ?_
     refine tp rfl (lv_extract rfl rfl) ?_
     refine tp rfl (lv_assign rfl) ?_
     refine tp rfl (lv_assign rfl) ?_
     refine t_done ?_
     refine q_then_n (hK21 _ _ ?_)
     refine c_seq (fun K22 hK22 => ?_)
     refine c_draw (γ := Unit) (n := 35) Try.mixed rfl rfl (fun _ S => True) (fun _ => [(0, 127, (.bool true)), (1, 128, (.bool true)), (2, 129, (.int .i64 0)), (3, 130, (.bool true)), (4, 131, (.bool true)), (5, 132, (.bool true)), (6, 133, (.int .i64 0)), (7, 134, (.bool true)), (8, 135, (.bool true)), (9, 136, (.bool true)), (10, 137, (.slice bs21 N cp22)), (11, 138, (.int .i64 ((N : Nat) : Int))), (12, 139, (.pointer (some ⟨b1, 0, none⟩))), (13, 140, (.int .i64 ((N : Nat) : Int))), (14, 141, (.bool true)), (15, 142, (.bool true)), (16, 143, (.bool true)), (17, 144, (.slice bs25 N cp26)), (18, 145, (.int .i64 ((N : Nat) : Int))), (19, 146, (.pointer (some ⟨b1, 0, none⟩))), (20, 147, (.int .i64 ((N : Nat) : Int))), (21, 148, (.bool true)), (22, 149, (.bool true)), (23, 150, (.bool true)), (24, 151, (.slice bs21 N cp22)), (25, 152, (.int .i64 ((k : Nat) : Int))), (26, 153, (.pointer (some (ad bs21 k)))), (27, 154, (.int .i64 ((verL es own).getD k 0))), (28, 155, (.slice bs25 N cp26)), (29, 156, (.int .i64 ((k : Nat) : Int))), (30, 157, (.pointer (some (ad bs25 k)))), (31, 158, (.int .i64 ((verL (partE es s N) (partO N own s N)).getD k 0))), (32, 159, (.bool true)), (33, 160, (.bool true)), (34, 8, (.bool true))]) (fun _ S => (SlV 3 1 (.slice bs25 N cp26) N (ints .i64 (verL (partE es s N) (partO N own s N)))) :: (SlV 3 1 (.slice bs21 N cp22) N (ints .i64 (verL es own))) :: (SlV 4 1 (.slice bs2 N cp3) N (bools s)) :: (Blk b1 [(.int .i64 ((N : Nat) : Int)), (.slice bE N cE), (.slice bEo N cEo)] 25) :: (SlV 3 1 (.slice bEo N cEo) N (ints .i64 own)) :: (SlV 23 1 (.slice bs10 N cp11) N (partV N vsG s N)) :: (SlV 3 1 (.slice bs14 N cp15) N (ints .i64 (partO N own s N))) :: (Blk b18 [(.int .i64 ((N : Nat) : Int)), (.slice bs10 N cp11), (.slice bs14 N cp15)] 25) :: (SlV 23 1 (.slice bE N cE) N vsE) :: (Join (rowsL vsE es)) :: R) (()) trivial (fun _ h => h) (fun _ _ h => h) ?_ ?_
     · -- steps
      refine ⟨?_, ?_, ?_, ?_, ?_, ?_, ?_, ?_, ?_, ?_, ?_, ?_, ?_, ?_, ?_, ?_, ?_, ?_, ?_, ?_, ?_, ?_, ?_, ?_, ?_, ?_, ?_, ?_, ?_, ?_, ?_, ?_, ?_, ?_, ?_, trivial⟩
      · -- 0
       rintro _ S hF hS D hp K hK
       try dsimp only at hF ⊢
       refine d_need (small := [(9, (.bool true))]) ⟨look_b rfl rfl, trivial⟩ ?_
       refine tp rfl (lv_move rfl) ?_
       exact d_closes ⟨look_b rfl rfl, trivial⟩ 0 rfl rfl rfl hS (AgreeR.refl _) (t_sat (fun _ h => h) (hK () trivial))
      · -- 1
       rintro _ S hF hS D hp K hK
       try dsimp only at hF ⊢
       have s0 := hp 0 rfl
       refine d_need (small := [(127, (.bool true))]) ⟨look_row rfl 0 rfl s0, trivial⟩ ?_
       refine tp rfl (lv_move rfl) ?_
       exact d_closes ⟨look_row rfl 0 rfl s0, trivial⟩ 1 rfl rfl rfl hS (AgreeR.refl _) (t_sat (fun _ h => h) (hK () trivial))
      · -- 2
       rintro _ S hF hS D hp K hK
       try dsimp only at hF ⊢
       have s1 := hp 1 rfl
       refine d_need (small := [(19, (.int .i64 0)), (128, (.bool true))]) ⟨look_b rfl rfl, look_row rfl 1 rfl s1, trivial⟩ ?_
       refine t_guard rfl rfl ?_
       refine tp rfl (lv_move rfl) ?_
       exact d_closes ⟨look_b rfl rfl, look_row rfl 1 rfl s1, trivial⟩ 2 rfl rfl rfl hS (AgreeR.refl _) (t_sat (fun _ h => h) (hK () trivial))
      · -- 3
       rintro _ S hF hS D hp K hK
       try dsimp only at hF ⊢
       have s1 := hp 1 rfl
       have s2 := hp 2 rfl
       refine d_need (small := [(128, (.bool true)), (129, (.int .i64 0))]) ⟨look_row rfl 1 rfl s1, look_row rfl 2 rfl s2, trivial⟩ ?_
       refine t_guard rfl rfl ?_
       refine tp rfl (lv_eql (r := true) rfl rfl (by decide)) ?_
       exact d_closes ⟨look_row rfl 1 rfl s1, look_row rfl 2 rfl s2, trivial⟩ 3 rfl rfl rfl hS (AgreeR.refl _) (t_sat (fun _ h => h) (hK () trivial))
      · -- 4
       rintro _ S hF hS D hp K hK
       try dsimp only at hF ⊢
       have s1 := hp 1 rfl
       have s3 := hp 3 rfl
       refine d_need (small := [(128, (.bool true)), (130, (.bool true))]) ⟨look_row rfl 1 rfl s1, look_row rfl 3 rfl s3, trivial⟩ ?_
       refine tp rfl (lv_pick_t rfl rfl) ?_
       exact d_closes ⟨look_row rfl 1 rfl s1, look_row rfl 3 rfl s3, trivial⟩ 4 rfl rfl rfl hS (AgreeR.refl _) (t_sat (fun _ h => h) (hK () trivial))
      · -- 5
       rintro _ S hF hS D hp K hK
       try dsimp only at hF ⊢
       have s4 := hp 4 rfl
       refine d_need (small := [(131, (.bool true))]) ⟨look_row rfl 4 rfl s4, trivial⟩ ?_
       refine tp rfl (lv_move rfl) ?_
       exact d_closes ⟨look_row rfl 4 rfl s4, trivial⟩ 5 rfl rfl rfl hS (AgreeR.refl _) (t_sat (fun _ h => h) (hK () trivial))
      · -- 6
       rintro _ S hF hS D hp K hK
       try dsimp only at hF ⊢
       have s5 := hp 5 rfl
       refine d_need (small := [(21, (.int .i64 0)), (132, (.bool true))]) ⟨look_b rfl rfl, look_row rfl 5 rfl s5, trivial⟩ ?_
       refine t_guard rfl rfl ?_
       refine tp rfl (lv_move rfl) ?_
       exact d_closes ⟨look_b rfl rfl, look_row rfl 5 rfl s5, trivial⟩ 6 rfl rfl rfl hS (AgreeR.refl _) (t_sat (fun _ h => h) (hK () trivial))
      · -- 7
       rintro _ S hF hS D hp K hK
       try dsimp only at hF ⊢
       have s5 := hp 5 rfl
       have s6 := hp 6 rfl
       refine d_need (small := [(132, (.bool true)), (133, (.int .i64 0))]) ⟨look_row rfl 5 rfl s5, look_row rfl 6 rfl s6, trivial⟩ ?_
       refine t_guard rfl rfl ?_
       refine tp rfl (lv_eql (r := true) rfl rfl (by decide)) ?_
       exact d_closes ⟨look_row rfl 5 rfl s5, look_row rfl 6 rfl s6, trivial⟩ 7 rfl rfl rfl hS (AgreeR.refl _) (t_sat (fun _ h => h) (hK () trivial))
      · -- 8
       rintro _ S hF hS D hp K hK
       try dsimp only at hF ⊢
       have s5 := hp 5 rfl
       have s7 := hp 7 rfl
       refine d_need (small := [(132, (.bool true)), (134, (.bool true))]) ⟨look_row rfl 5 rfl s5, look_row rfl 7 rfl s7, trivial⟩ ?_
       refine tp rfl (lv_pick_t rfl rfl) ?_
       exact d_closes ⟨look_row rfl 5 rfl s5, look_row rfl 7 rfl s7, trivial⟩ 8 rfl rfl rfl hS (AgreeR.refl _) (t_sat (fun _ h => h) (hK () trivial))
      · -- 9
       rintro _ S hF hS D hp K hK
       try dsimp only at hF ⊢
       have s8 := hp 8 rfl
       refine d_need (small := [(135, (.bool true))]) ⟨look_row rfl 8 rfl s8, trivial⟩ ?_
       refine tp rfl (lv_move rfl) ?_
       exact d_closes ⟨look_row rfl 8 rfl s8, trivial⟩ 9 rfl rfl rfl hS (AgreeR.refl _) (t_sat (fun _ h => h) (hK () trivial))
      · -- 10
       rintro _ S hF hS D hp K hK
       try dsimp only at hF ⊢
       have s9 := hp 9 rfl
       refine d_need (small := [(18, (.slice bs21 N cp22)), (136, (.bool true))]) ⟨look_b rfl rfl, look_row rfl 9 rfl s9, trivial⟩ ?_
       refine t_guard rfl rfl ?_
       refine tp rfl (lv_move rfl) ?_
       exact d_closes ⟨look_b rfl rfl, look_row rfl 9 rfl s9, trivial⟩ 10 rfl rfl rfl hS (AgreeR.refl _) (t_sat (fun _ h => h) (hK () trivial))
      · -- 11
       rintro _ S hF hS D hp K hK
       try dsimp only at hF ⊢
       have s9 := hp 9 rfl
       have s10 := hp 10 rfl
       refine d_need (small := [(136, (.bool true)), (137, (.slice bs21 N cp22))]) ⟨look_row rfl 9 rfl s9, look_row rfl 10 rfl s10, trivial⟩ ?_
       refine t_guard rfl rfl ?_
       refine tp rfl (lv_len Try.underlying23 rfl rfl) ?_
       exact d_closes ⟨look_row rfl 9 rfl s9, look_row rfl 10 rfl s10, trivial⟩ 11 rfl rfl rfl hS (AgreeR.refl _) (t_sat (fun _ h => h) (hK () trivial))
      · -- 12
       rintro _ S hF hS D hp K hK
       try dsimp only at hF ⊢
       have s9 := hp 9 rfl
       refine d_need (small := [(10, (.pointer (some ⟨b1, 0, none⟩))), (136, (.bool true))]) ⟨look_b rfl rfl, look_row rfl 9 rfl s9, trivial⟩ ?_
       refine t_guard rfl rfl ?_
       refine tp rfl (lv_fieldAddr (o' := 0) Try.underlying25 rfl Try.sizeOf3 rfl rfl) ?_
       exact d_closes ⟨look_b rfl rfl, look_row rfl 9 rfl s9, trivial⟩ 12 rfl rfl rfl hS (AgreeR.refl _) (t_sat (fun _ h => h) (hK () trivial))
      · -- 13
       rintro _ S hF hS D hp K hK
       try dsimp only at hF ⊢
       have s9 := hp 9 rfl
       have s12 := hp 12 rfl
       refine d_need (small := [(136, (.bool true)), (139, (.pointer (some ⟨b1, 0, none⟩)))]) ⟨look_row rfl 9 rfl s9, look_row rfl 12 rfl s12, trivial⟩ ?_
       refine t_guard rfl rfl ?_
       refine tp rfl (lv_load Try.isAgg3 rfl (gives_blk (.tail _ (.tail _ (.tail _ (.head _)))) rfl)) ?_
       exact d_closes ⟨look_row rfl 9 rfl s9, look_row rfl 12 rfl s12, trivial⟩ 13 rfl rfl rfl hS (AgreeR.refl _) (t_sat (fun _ h => h) (hK () trivial))
      · -- 14
       rintro _ S hF hS D hp K hK
       try dsimp only at hF ⊢
       have s9 := hp 9 rfl
       have s11 := hp 11 rfl
       have s13 := hp 13 rfl
       refine d_need (small := [(136, (.bool true)), (138, (.int .i64 ((N : Nat) : Int))), (140, (.int .i64 ((N : Nat) : Int)))]) ⟨look_row rfl 9 rfl s9, look_row rfl 11 rfl s11, look_row rfl 13 rfl s13, trivial⟩ ?_
       refine t_guard rfl rfl ?_
       refine tp rfl (lv_eql rfl rfl (beq_iff_eq.2 rfl)) ?_
       exact d_closes ⟨look_row rfl 9 rfl s9, look_row rfl 11 rfl s11, look_row rfl 13 rfl s13, trivial⟩ 14 rfl rfl rfl hS (AgreeR.refl _) (t_sat (fun _ h => h) (hK () trivial))
      · -- 15
       rintro _ S hF hS D hp K hK
       try dsimp only at hF ⊢
       have s9 := hp 9 rfl
       have s14 := hp 14 rfl
       refine d_need (small := [(136, (.bool true)), (141, (.bool true))]) ⟨look_row rfl 9 rfl s9, look_row rfl 14 rfl s14, trivial⟩ ?_
       refine tp rfl (lv_pick_t rfl rfl) ?_
       exact d_closes ⟨look_row rfl 9 rfl s9, look_row rfl 14 rfl s14, trivial⟩ 15 rfl rfl rfl hS (AgreeR.refl _) (t_sat (fun _ h => h) (hK () trivial))
      · -- 16
       rintro _ S hF hS D hp K hK
       try dsimp only at hF ⊢
       have s15 := hp 15 rfl
       refine d_need (small := [(142, (.bool true))]) ⟨look_row rfl 15 rfl s15, trivial⟩ ?_
       refine tp rfl (lv_move rfl) ?_
       exact d_closes ⟨look_row rfl 15 rfl s15, trivial⟩ 16 rfl rfl rfl hS (AgreeR.refl _) (t_sat (fun _ h => h) (hK () trivial))
      · -- 17
       rintro _ S hF hS D hp K hK
       try dsimp only at hF ⊢
       have s16 := hp 16 rfl
       refine d_need (small := [(20, (.slice bs25 N cp26)), (143, (.bool true))]) ⟨look_b rfl rfl, look_row rfl 16 rfl s16, trivial⟩ ?_
       refine t_guard rfl rfl ?_
       refine tp rfl (lv_move rfl) ?_
       exact d_closes ⟨look_b rfl rfl, look_row rfl 16 rfl s16, trivial⟩ 17 rfl rfl rfl hS (AgreeR.refl _) (t_sat (fun _ h => h) (hK () trivial))
      · -- 18
       rintro _ S hF hS D hp K hK
       try dsimp only at hF ⊢
       have s16 := hp 16 rfl
       have s17 := hp 17 rfl
       refine d_need (small := [(143, (.bool true)), (144, (.slice bs25 N cp26))]) ⟨look_row rfl 16 rfl s16, look_row rfl 17 rfl s17, trivial⟩ ?_
       refine t_guard rfl rfl ?_
       refine tp rfl (lv_len Try.underlying23 rfl rfl) ?_
       exact d_closes ⟨look_row rfl 16 rfl s16, look_row rfl 17 rfl s17, trivial⟩ 18 rfl rfl rfl hS (AgreeR.refl _) (t_sat (fun _ h => h) (hK () trivial))
      · -- 19
       rintro _ S hF hS D hp K hK
       try dsimp only at hF ⊢
       have s16 := hp 16 rfl
       refine d_need (small := [(10, (.pointer (some ⟨b1, 0, none⟩))), (143, (.bool true))]) ⟨look_b rfl rfl, look_row rfl 16 rfl s16, trivial⟩ ?_
       refine t_guard rfl rfl ?_
       refine tp rfl (lv_fieldAddr (o' := 0) Try.underlying25 rfl Try.sizeOf3 rfl rfl) ?_
       exact d_closes ⟨look_b rfl rfl, look_row rfl 16 rfl s16, trivial⟩ 19 rfl rfl rfl hS (AgreeR.refl _) (t_sat (fun _ h => h) (hK () trivial))
      · -- 20
       rintro _ S hF hS D hp K hK
       try dsimp only at hF ⊢
       have s16 := hp 16 rfl
       have s19 := hp 19 rfl
       refine d_need (small := [(143, (.bool true)), (146, (.pointer (some ⟨b1, 0, none⟩)))]) ⟨look_row rfl 16 rfl s16, look_row rfl 19 rfl s19, trivial⟩ ?_
       refine t_guard rfl rfl ?_
       refine tp rfl (lv_load Try.isAgg3 rfl (gives_blk (.tail _ (.tail _ (.tail _ (.head _)))) rfl)) ?_
       exact d_closes ⟨look_row rfl 16 rfl s16, look_row rfl 19 rfl s19, trivial⟩ 20 rfl rfl rfl hS (AgreeR.refl _) (t_sat (fun _ h => h) (hK () trivial))
      · -- 21
       rintro _ S hF hS D hp K hK
       try dsimp only at hF ⊢
       have s16 := hp 16 rfl
       have s18 := hp 18 rfl
       have s20 := hp 20 rfl
       refine d_need (small := [(143, (.bool true)), (145, (.int .i64 ((N : Nat) : Int))), (147, (.int .i64 ((N : Nat) : Int)))]) ⟨look_row rfl 16 rfl s16, look_row rfl 18 rfl s18, look_row rfl 20 rfl s20, trivial⟩ ?_
       refine t_guard rfl rfl ?_
       refine tp rfl (lv_eql rfl rfl (beq_iff_eq.2 rfl)) ?_
       exact d_closes ⟨look_row rfl 16 rfl s16, look_row rfl 18 rfl s18, look_row rfl 20 rfl s20, trivial⟩ 21 rfl rfl rfl hS (AgreeR.refl _) (t_sat (fun _ h => h) (hK () trivial))
      · -- 22
       rintro _ S hF hS D hp K hK
       try dsimp only at hF ⊢
       have s16 := hp 16 rfl
       have s21 := hp 21 rfl
       refine d_need (small := [(143, (.bool true)), (148, (.bool true))]) ⟨look_row rfl 16 rfl s16, look_row rfl 21 rfl s21, trivial⟩ ?_
       refine tp rfl (lv_pick_t rfl rfl) ?_
       exact d_closes ⟨look_row rfl 16 rfl s16, look_row rfl 21 rfl s21, trivial⟩ 22 rfl rfl rfl hS (AgreeR.refl _) (t_sat (fun _ h => h) (hK () trivial))
      · -- 23
       rintro _ S hF hS D hp K hK
       try dsimp only at hF ⊢
       have s22 := hp 22 rfl
       refine d_need (small := [(149, (.bool true))]) ⟨look_row rfl 22 rfl s22, trivial⟩ ?_
       refine tp rfl (lv_move rfl) ?_
       exact d_closes ⟨look_row rfl 22 rfl s22, trivial⟩ 23 rfl rfl rfl hS (AgreeR.refl _) (t_sat (fun _ h => h) (hK () trivial))
      · -- 24
       rintro _ S hF hS D hp K hK
       try dsimp only at hF ⊢
       have s23 := hp 23 rfl
       refine d_need (small := [(18, (.slice bs21 N cp22)), (150, (.bool true))]) ⟨look_b rfl rfl, look_row rfl 23 rfl s23, trivial⟩ ?_
       refine t_guard rfl rfl ?_
       refine tp rfl (lv_move rfl) ?_
       exact d_closes ⟨look_b rfl rfl, look_row rfl 23 rfl s23, trivial⟩ 24 rfl rfl rfl hS (AgreeR.refl _) (t_sat (fun _ h => h) (hK () trivial))
      · -- 25
       rintro _ S hF hS D hp K hK
       try dsimp only at hF ⊢
       have s23 := hp 23 rfl
       refine d_need (small := [(11, (.int .i64 ((k : Nat) : Int))), (150, (.bool true))]) ⟨look_b rfl rfl, look_row rfl 23 rfl s23, trivial⟩ ?_
       refine t_guard rfl rfl ?_
       refine tp rfl (lv_move rfl) ?_
       exact d_closes ⟨look_b rfl rfl, look_row rfl 23 rfl s23, trivial⟩ 25 rfl rfl rfl hS (AgreeR.refl _) (t_sat (fun _ h => h) (hK () trivial))
      · -- 26
       rintro _ S hF hS D hp K hK
       try dsimp only at hF ⊢
       have s23 := hp 23 rfl
       have s24 := hp 24 rfl
       have s25 := hp 25 rfl
       refine d_need (small := [(150, (.bool true)), (151, (.slice bs21 N cp22)), (152, (.int .i64 ((k : Nat) : Int)))]) ⟨look_row rfl 23 rfl s23, look_row rfl 24 rfl s24, look_row rfl 25 rfl s25, trivial⟩ ?_
       refine t_guard rfl rfl ?_
       refine tp rfl (lv_indexAddr (k' := k) Try.underlying23 Try.sizeOf3 rfl rfl hok23 (by omega) (by omega) (by omega)) ?_
       exact d_closes ⟨look_row rfl 23 rfl s23, look_row rfl 24 rfl s24, look_row rfl 25 rfl s25, trivial⟩ 26 rfl rfl rfl hS (AgreeR.refl _) (t_sat (fun _ h => h) (hK () trivial))
      · -- 27
       rintro _ S hF hS D hp K hK
       try dsimp only at hF ⊢
       have s23 := hp 23 rfl
       have s26 := hp 26 rfl
       refine d_need (small := [(150, (.bool true)), (153, (.pointer (some (ad bs21 k))))]) ⟨look_row rfl 23 rfl s23, look_row rfl 26 rfl s26, trivial⟩ ?_
       refine t_guard rfl rfl ?_
       refine tp rfl (lv_load Try.isAgg3 rfl (gives_sl (.tail _ (.head _)) (ints_get (by rw [verL_len]; omega)))) ?_
       exact d_closes ⟨look_row rfl 23 rfl s23, look_row rfl 26 rfl s26, trivial⟩ 27 rfl rfl rfl hS (AgreeR.refl _) (t_sat (fun _ h => h) (hK () trivial))
      · -- 28
       rintro _ S hF hS D hp K hK
       try dsimp only at hF ⊢
       have s23 := hp 23 rfl
       refine d_need (small := [(20, (.slice bs25 N cp26)), (150, (.bool true))]) ⟨look_b rfl rfl, look_row rfl 23 rfl s23, trivial⟩ ?_
       refine t_guard rfl rfl ?_
       refine tp rfl (lv_move rfl) ?_
       exact d_closes ⟨look_b rfl rfl, look_row rfl 23 rfl s23, trivial⟩ 28 rfl rfl rfl hS (AgreeR.refl _) (t_sat (fun _ h => h) (hK () trivial))
      · -- 29
       rintro _ S hF hS D hp K hK
       try dsimp only at hF ⊢
       have s23 := hp 23 rfl
       refine d_need (small := [(11, (.int .i64 ((k : Nat) : Int))), (150, (.bool true))]) ⟨look_b rfl rfl, look_row rfl 23 rfl s23, trivial⟩ ?_
       refine t_guard rfl rfl ?_
       refine tp rfl (lv_move rfl) ?_
       exact d_closes ⟨look_b rfl rfl, look_row rfl 23 rfl s23, trivial⟩ 29 rfl rfl rfl hS (AgreeR.refl _) (t_sat (fun _ h => h) (hK () trivial))
      · -- 30
       rintro _ S hF hS D hp K hK
       try dsimp only at hF ⊢
       have s23 := hp 23 rfl
       have s28 := hp 28 rfl
       have s29 := hp 29 rfl
       refine d_need (small := [(150, (.bool true)), (155, (.slice bs25 N cp26)), (156, (.int .i64 ((k : Nat) : Int)))]) ⟨look_row rfl 23 rfl s23, look_row rfl 28 rfl s28, look_row rfl 29 rfl s29, trivial⟩ ?_
       refine t_guard rfl rfl ?_
       refine tp rfl (lv_indexAddr (k' := k) Try.underlying23 Try.sizeOf3 rfl rfl hok27 (by omega) (by omega) (by omega)) ?_
       exact d_closes ⟨look_row rfl 23 rfl s23, look_row rfl 28 rfl s28, look_row rfl 29 rfl s29, trivial⟩ 30 rfl rfl rfl hS (AgreeR.refl _) (t_sat (fun _ h => h) (hK () trivial))
      · -- 31
       rintro _ S hF hS D hp K hK
       try dsimp only at hF ⊢
       have s23 := hp 23 rfl
       have s30 := hp 30 rfl
       refine d_need (small := [(150, (.bool true)), (157, (.pointer (some (ad bs25 k))))]) ⟨look_row rfl 23 rfl s23, look_row rfl 30 rfl s30, trivial⟩ ?_
       refine t_guard rfl rfl ?_
       refine tp rfl (lv_load Try.isAgg3 rfl (gives_sl (.head _) (ints_get (by rw [verL_len, partE_len]; omega)))) ?_
       exact d_closes ⟨look_row rfl 23 rfl s23, look_row rfl 30 rfl s30, trivial⟩ 31 rfl rfl rfl hS (AgreeR.refl _) (t_sat (fun _ h => h) (hK () trivial))
      · -- 32
       rintro _ S hF hS D hp K hK
       try dsimp only at hF ⊢
       have s23 := hp 23 rfl
       have s27 := hp 27 rfl
       have s31 := hp 31 rfl
       refine d_need (small := [(150, (.bool true)), (154, (.int .i64 ((verL es own).getD k 0))), (158, (.int .i64 ((verL (partE es s N) (partO N own s N)).getD k 0)))]) ⟨look_row rfl 23 rfl s23, look_row rfl 27 rfl s27, look_row rfl 31 rfl s31, trivial⟩ ?_
       refine t_guard rfl rfl ?_
       refine tp rfl (lv_eql rfl rfl (beq_iff_eq.2 hal)) ?_
       exact d_closes ⟨look_row rfl 23 rfl s23, look_row rfl 27 rfl s27, look_row rfl 31 rfl s31, trivial⟩ 32 rfl rfl rfl hS (AgreeR.refl _) (t_sat (fun _ h => h) (hK () trivial))
      · -- 33
       rintro _ S hF hS D hp K hK
       try dsimp only at hF ⊢
       have s23 := hp 23 rfl
       have s32 := hp 32 rfl
       refine d_need (small := [(150, (.bool true)), (159, (.bool true))]) ⟨look_row rfl 23 rfl s23, look_row rfl 32 rfl s32, trivial⟩ ?_
       refine tp rfl (lv_pick_t rfl rfl) ?_
       exact d_closes ⟨look_row rfl 23 rfl s23, look_row rfl 32 rfl s32, trivial⟩ 33 rfl rfl rfl hS (AgreeR.refl _) (t_sat (fun _ h => h) (hK () trivial))
      · -- 34
       rintro _ S hF hS D hp K hK
       try dsimp only at hF ⊢
       have s33 := hp 33 rfl
       refine d_need (small := [(160, (.bool true))]) ⟨look_row rfl 33 rfl s33, trivial⟩ ?_
       refine tp rfl (lv_assign rfl) ?_
       exact d_closes ⟨look_row rfl 33 rfl s33, trivial⟩ 34 rfl rfl rfl hS (AgreeR.refl _) (t_sat (fun _ h => h) (hK () trivial))
     · -- behind
      rintro _ hF
      try dsimp only at hF ⊢
      refine t_weak (E' := [(0, (.int .i64 n)), (1, (.slice bp ps.length cp)), (2, (.slice bw ow.length cw)), (3, (.int .i64 task)), (8, (.bool true)), (9, (.bool true)), (10, (.pointer (some ⟨b1, 0, none⟩))), (11, (.int .i64 ((k : Nat) : Int))), (12, (.slice bs2 N cp3)), (13, (.int .i64 ((r : Nat) : Int))), (16, (.pointer (some ⟨b18, 0, none⟩))), (17, (.int .i64 ((i : Nat) : Int))), (18, (.slice bs21 N cp22)), (19, (.int .i64 0)), (20, (.slice bs25 N cp26)), (21, (.int .i64 0)), (29, (.bool false)), (45, (.bool false)), (92, (.bool false))]) ⟨rfl, rfl, rfl, rfl, rfl, rfl, rfl, rfl, rfl, rfl, rfl, rfl, rfl, rfl, rfl, rfl, rfl, rfl, rfl, trivial⟩ ?_
      refine q_then_n (hK22 _ _ ?_)
      refine c_ret ?_
      refine t_drop ?_
      refine t_drop ?_
      refine t_drop ?_
      refine t_drop ?_
      refine t_drop ?_
      refine t_drop ?_
      refine t_drop ?_
      refine t_drop ?_
      refine t_drop ?_
      refine t_drop ?_
      refine q_ret rfl rfl ?_
      exact ⟨rfl, rfl⟩
end Go.Proofs.Ytljnaefaahphaaa
