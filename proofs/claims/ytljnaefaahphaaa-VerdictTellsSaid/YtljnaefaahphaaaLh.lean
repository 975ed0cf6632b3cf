/- VerdictTells: the law's walk. -/
import Derived.Test.YtljnaefaahphaaaLg
import Derived.Test.YtljnaefaahphaaaRb
set_option maxRecDepth 100000
set_option linter.unusedVariables false
set_option linter.unusedSimpArgs false
namespace Go.Proofs.Ytljnaefaahphaaa
open Go Go.Proofs Sp
set_option maxHeartbeats 4000000 in
theorem tells_law {R : List HP} {es : List (List Int)} {own : List Int} {be bo : Option Addr} {ce co : Nat} (n : Int) (hG : GridR R be es) (hbe : SlOk be es.length) (hce : es.length ≤ ce) (hle1 : es.length ≤ 9223372036854775807) (ho : Rd R bo (ints .i64 own)) (hbo : SlOk bo own.length) (hco : own.length ≤ co) (hle2 : own.length ≤ 9223372036854775807) :
    Ok Try.prog 3 [(.agg #[(.int .i64 n), (.slice be es.length ce), (.slice bo own.length co)])] R
      (fun v M => v = .bool true ∧ M = R) := by
 obtain ⟨q1, hq1⟩ : ∃ q, q = min es.length 70 := ⟨_, rfl⟩
 obtain ⟨q2, hq2⟩ : ∃ q, q = min own.length 70 := ⟨_, rfl⟩
 refine ok_of (N := 37) Try.func3 rfl rfl rfl (fun W => ?_)
 refine c_seq (fun K1 hK1 => ?_)
 refine c_region ?_
 refine tm rfl (mv_box rfl rfl) ?_
 rintro _ _ ⟨b1, rfl, rfl⟩
 refine tp rfl (lv_assign rfl) ?_
 refine t_done ?_
 refine q_then_n (hK1 _ _ ?_)
 refine c_seq (fun K2 hK2 => ?_)
 refine c_region ?_
 refine tc rfl (en_fn Try.call9 rfl) (shown_ok) ?_
 rintro _ _ ⟨rfl, rfl⟩
 refine tp rfl (lv_assign rfl) ?_
 refine t_done ?_
 refine q_then_n (hK2 _ _ ?_)
 refine c_seq (fun K3 hK3 => ?_)
 refine c_region ?_
 refine tp rfl (lv_loadAgg (cs := [(.int .i64 n), (.slice be es.length ce), (.slice bo own.length co)]) Try.isAgg25 Try.sizeOf25 rfl (gives_all3 (gives_blk (.head _) rfl) (gives_blk (.head _) rfl) (gives_blk (.head _) rfl))) ?_
 refine tc rfl (en_fn Try.call10 rfl) (few_ok n (hG.cons) hbe hce hle1 (ho.cons) hbo hco hle2 hq1 hq2) ?_
 rintro _ _ ⟨bF, cF, bFo, cFo, VF, ⟨hokF, hleF, hokFo, hleFo, hVF⟩, rfl, rfl⟩
 refine t_f3 ?_
 refine ts (sv_blkAgg (news := [(.int .i64 n), (.slice bF q1 cF), (.slice bFo q2 cFo)]) Try.sizeOf25 rfl rfl rfl rfl (Nat.le_of_ble_eq_true rfl) rfl) ?_
 refine t_done ?_
 refine q_then_n (hK3 _ _ ?_)
 refine c_seq (fun K4 hK4 => ?_)
 have hcl := cutE_len hq1
 have hlx := cutE_rows es
 have hol : (own.take q2).length = q2 := by rw [List.length_take]; omega
 obtain ⟨E, hE⟩ : ∃ x, cutE es = x := ⟨_, rfl⟩
 rw [hE] at hcl hlx ⊢
 obtain ⟨O, hO⟩ : ∃ x, own.take q2 = x := ⟨_, rfl⟩
 rw [hO] at hol ⊢
 refine t_f2 ?_
 refine t_f1 ?_
 refine t_learn (fun _ h => gridR_own (L := (SlV 23 1 (.slice bF q1 cF) q1 VF) :: (Join (rowsL VF E)) :: R) (.head _) (.tail _ (.head _)) (hVF.trans hcl.symm) (h.drop.drop)) (fun hG => ?_)
 have hG0 := hG
 obtain ⟨vsG, hvlG, hvsG, hrowG⟩ := hG0
 have hm1 := hcl
 have hm2 := hol
 rcases hrt : rightB n E O with _ | _
 · -- not right
  refine c_region ?_
  refine tp rfl (lv_loadAgg (cs := [(.int .i64 n), (.slice bF q1 cF), (.slice bFo q2 cFo)]) Try.isAgg25 Try.sizeOf25 rfl (gives_all3 (gives_blk (.head _) rfl) (gives_blk (.head _) rfl) (gives_blk (.head _) rfl))) ?_
  refine tc rfl (en_fn Try.call11 rfl) (of_bad (m1 := q1) (m2 := q2) (es := E) (own := O) hcl hol n hrt ((hG.cons).cons) hokF (rd_sl (.tail _ (.head _))) hokFo hlx ⟨by omega, by omega⟩) ?_
  rintro _ _ ⟨rfl, rfl⟩
  refine tp rfl (lv_move rfl) ?_
  refine tp rfl (lv_extract rfl rfl) ?_
  refine tp rfl (lv_extract rfl rfl) ?_
  refine tp rfl (lv_assign rfl) ?_
  refine tp rfl (lv_assign rfl) ?_
  refine t_done ?_
  refine q_then_n (hK4 _ _ ?_)
  refine c_seq (fun K5 hK5 => ?_)
  refine c_region ?_
  refine tp rfl (lv_fieldAddr (o' := 0) Try.underlying25 rfl Try.sizeOf3 rfl rfl) ?_
  refine tp rfl (lv_load Try.isAgg3 rfl (gives_blk (.head _) rfl)) ?_
  refine tp rfl (lv_fieldAddr (o' := 1) Try.underlying25 rfl Try.sizeOf22 rfl rfl) ?_
  refine tp rfl (lv_load Try.isAgg22 rfl (gives_blk (.head _) rfl)) ?_
  refine tp rfl (lv_fieldAddr (o' := 2) Try.underlying25 rfl Try.sizeOf23 rfl rfl) ?_
  refine tp rfl (lv_load Try.isAgg23 rfl (gives_blk (.head _) rfl)) ?_
  refine tc rfl (en_fn Try.call12 rfl) (rof_bad (m1 := q1) (m2 := q2) (es := E) (own := O) hcl hol n hrt ((hG.cons).cons) hokF (rd_sl (.tail _ (.head _))) hokFo hlx ⟨by omega, by omega⟩) ?_
  rintro _ _ ⟨rfl, rfl⟩
  refine tp rfl (lv_move rfl) ?_
  refine tp rfl (lv_extract rfl rfl) ?_
  refine tp rfl (lv_extract rfl rfl) ?_
  refine tp rfl (lv_assign rfl) ?_
  refine tp rfl (lv_assign rfl) ?_
  refine t_done ?_
  refine q_then_n (hK5 _ _ ?_)
  refine c_seq (fun K6 hK6 => ?_)
  refine c_region ?_
  refine tp rfl (lv_move rfl) ?_
  refine tp rfl (lv_move rfl) ?_
  refine t_guard rfl rfl ?_
  refine tp rfl (lv_move rfl) ?_
  refine t_guard rfl rfl ?_
  refine tp rfl (lv_move rfl) ?_
  refine t_guard rfl rfl ?_
  refine tc rfl (en_fn Try.call13 rfl) (ints_ok [] [] rd_nil rd_nil slok_none slok_none (by first | omega | (simp; omega) | (simp; done)) (by first | omega | (simp; omega) | (simp; done))) ?_
  rintro _ _ ⟨rfl, rfl⟩
  rw [eqI_refl]
  refine tp rfl (lv_pick_t rfl rfl) ?_
  refine tp rfl (lv_move rfl) ?_
  refine t_guard rfl rfl ?_
  refine tp rfl (lv_move rfl) ?_
  refine t_guard rfl rfl ?_
  refine tp rfl (lv_move rfl) ?_
  refine t_guard rfl rfl ?_
  refine tp rfl (lv_eql (r := true) rfl rfl (by decide)) ?_
  refine tp rfl (lv_pick_t rfl rfl) ?_
  refine tp rfl (lv_assign rfl) ?_
  refine t_done ?_
  refine q_then_n (hK6 _ _ ?_)
  refine c_ret ?_
  refine t_drop ?_
  refine t_drop ?_
  refine t_drop ?_
  refine t_drop ?_
  refine q_ret rfl rfl ?_
  exact ⟨rfl, rfl⟩
 · -- right
  obtain ⟨N, hfo, hnN⟩ : ∃ N : Nat, FOk N E O ∧ n = ((N : Nat) : Int) := ⟨_, right_ok hrt⟩
  obtain rfl : N = q1 := hfo.le.symm.trans hcl
  obtain rfl : N = q2 := hfo.lo.symm.trans hol
  subst hnN
  have hvlv := (verL_len E O).trans hfo.le
  refine c_region ?_
  refine tp rfl (lv_loadAgg (cs := [(.int .i64 ((N : Nat) : Int)), (.slice bF N cF), (.slice bFo N cFo)]) Try.isAgg25 Try.sizeOf25 rfl (gives_all3 (gives_blk (.head _) rfl) (gives_blk (.head _) rfl) (gives_blk (.head _) rfl))) ?_
  refine tc rfl (en_fn Try.call11 rfl) (of_ok (N := N) (es := E) (own := O) (hfo) ((hG.cons).cons) hokF (rd_sl (.tail _ (.head _))) hokFo hlx) ?_
  rintro _ _ ⟨bs2, cp3, hok4, hle5, rfl, rfl⟩
  refine tp rfl (lv_move rfl) ?_
  refine tp rfl (lv_extract rfl rfl) ?_
  refine tp rfl (lv_extract rfl rfl) ?_
  refine tp rfl (lv_assign rfl) ?_
  refine tp rfl (lv_assign rfl) ?_
  refine t_done ?_
  refine q_then_n (hK4 _ _ ?_)
  refine c_seq (fun K5 hK5 => ?_)
  refine c_region ?_
  refine tp rfl (lv_fieldAddr (o' := 0) Try.underlying25 rfl Try.sizeOf3 rfl rfl) ?_
  refine tp rfl (lv_load Try.isAgg3 rfl (gives_blk (.tail _ (.head _)) rfl)) ?_
  refine tp rfl (lv_fieldAddr (o' := 1) Try.underlying25 rfl Try.sizeOf22 rfl rfl) ?_
  refine tp rfl (lv_load Try.isAgg22 rfl (gives_blk (.tail _ (.head _)) rfl)) ?_
  refine tp rfl (lv_fieldAddr (o' := 2) Try.underlying25 rfl Try.sizeOf23 rfl rfl) ?_
  refine tp rfl (lv_load Try.isAgg23 rfl (gives_blk (.tail _ (.head _)) rfl)) ?_
  refine tc rfl (en_fn Try.call12 rfl) (rof_ok (N := N) (es := E) (own := O) hfo (((hG.cons).cons).cons) hokF (rd_sl (.tail _ (.tail _ (.head _)))) hokFo hlx) ?_
  rintro _ _ ⟨bs6, cp7, hok8, hle9, rfl, rfl⟩
  refine tp rfl (lv_move rfl) ?_
  refine tp rfl (lv_extract rfl rfl) ?_
  refine tp rfl (lv_extract rfl rfl) ?_
  refine tp rfl (lv_assign rfl) ?_
  refine tp rfl (lv_assign rfl) ?_
  refine t_done ?_
  refine q_then_n (hK5 _ _ ?_)
  refine c_seq (fun K6 hK6 => ?_)
  refine c_region ?_
  refine tp rfl (lv_move rfl) ?_
  refine tp rfl (lv_move rfl) ?_
  refine t_guard rfl rfl ?_
  refine tp rfl (lv_move rfl) ?_
  refine t_guard rfl rfl ?_
  refine tp rfl (lv_move rfl) ?_
  refine t_guard rfl rfl ?_
  refine tc rfl (en_fn Try.call13 rfl) (ints_n (verL E O) (verL E O) hvlv hvlv (rd_sl (.tail _ (.head _))) (rd_sl (.head _)) hok4 hok8 (by first | omega | (simp; omega) | (simp; done)) (by first | omega | (simp; omega) | (simp; done))) ?_
  rintro _ _ ⟨rfl, rfl⟩
  rw [eqI_refl]
  refine tp rfl (lv_pick_t rfl rfl) ?_
  refine tp rfl (lv_move rfl) ?_
  refine t_guard rfl rfl ?_
  refine tp rfl (lv_move rfl) ?_
  refine t_guard rfl rfl ?_
  refine tp rfl (lv_move rfl) ?_
  refine t_guard rfl rfl ?_
  refine tp rfl (lv_eql (r := true) rfl rfl (by decide)) ?_
  refine tp rfl (lv_pick_t rfl rfl) ?_
  refine tp rfl (lv_assign rfl) ?_
  refine t_done ?_
  refine q_then_n (hK6 _ _ ?_)
  refine c_ret ?_
  refine t_drop ?_
  refine t_drop ?_
  refine t_drop ?_
  refine t_drop ?_
  refine t_drop ?_
  refine t_drop ?_
  refine q_ret rfl rfl ?_
  exact ⟨rfl, rfl⟩
end Go.Proofs.Ytljnaefaahphaaa
