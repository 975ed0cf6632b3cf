/- VerdictTwice: the law's walk. -/
import Derived.Test.YtljnaefaahphaaaLa
import Derived.Test.YtljnaefaahphaaaVtw
set_option maxRecDepth 100000
set_option linter.unusedVariables false
set_option linter.unusedSimpArgs false
namespace Go.Proofs.Ytljnaefaahphaaa
open Go Go.Proofs Sp
set_option maxHeartbeats 4000000 in
theorem twice_law {R : List HP} {bp bw : Option Addr} {cp cw : Nat} (n : Int) {N : Nat} (hN : n % 65536 % 65 = N) (ps : List (Int × Int)) (ow : List Int) (hrp : Rd R bp (recs pu8F ps)) (okp : SlOk bp ps.length) (hrw : Rd R bw (ints .u8 ow)) (okw : SlOk bw ow.length) (hgp : ∀ e ∈ ps, (0 ≤ e.1 ∧ e.1 ≤ 255) ∧ 0 ≤ e.2 ∧ e.2 ≤ 255) (hgw : ∀ x ∈ ow, 0 ≤ x ∧ x ≤ 255) (lp : ps.length ≤ 9223372036854775807) (lw : ow.length ≤ 9223372036854775807) {bm : Option Addr} {cm : Nat} (mw : List Int) (hrm : Rd R bm (ints .u8 mw)) (okm : SlOk bm mw.length) (hgmw : ∀ x ∈ mw, 0 ≤ x ∧ x ≤ 255) (lm : mw.length ≤ 9223372036854775807) :
    Ok Try.prog 7 [(.int .i64 n), (.slice bp ps.length cp), (.slice bw ow.length cw), (.slice bm mw.length cm)] R
      (fun v M => v = .bool true ∧ M = R) := by
 refine ok_of (N := 144) Try.func7 rfl rfl rfl (fun W => ?_)
 refine c_seq (fun K1 hK1 => ?_)
 refine c_region ?_
 refine tp rfl (lv_assign rfl) ?_
 refine t_done ?_
 refine q_then_n (hK1 _ _ ?_)
 refine c_seq (fun K2 hK2 => ?_)
 refine c_region ?_
 refine tc rfl (en_fn Try.call9 rfl) (shown_ok) ?_
 rintro _ _ ⟨rfl, hMR⟩
 rw [hMR]; clear hMR
 refine tp rfl (lv_assign rfl) ?_
 refine t_done ?_
 refine q_then_n (hK2 _ _ ?_)
 refine c_seq (fun K3 hK3 => ?_)
 refine c_region ?_
 refine tp rfl (lv_move rfl) ?_
 refine tp rfl (lv_move rfl) ?_
 refine tp rfl (lv_move rfl) ?_
 refine tc rfl (en_fn Try.call14 rfl) (made_ok n (N := N) hN ps ow hrp okp hrw okw hgp hgw (by omega) (by omega)) ?_
 rintro _ _ ⟨bE, cE, bEo, cEo, vsE, ⟨hokE, hleE, hokEo, hleEo, hvlE⟩, rfl, rfl⟩
 refine tm rfl (mv_alloc Try.zeroValue25 rfl) ?_
 rintro _ _ ⟨b1, rfl, rfl⟩
 refine ts (sv_blkAgg (news := [(.int .i64 ((N : Nat) : Int)), (.slice bE N cE), (.slice bEo N cEo)]) Try.sizeOf25 rfl rfl rfl rfl (Nat.le_of_ble_eq_true rfl) rfl) ?_
 refine t_done ?_
 refine q_then_n (hK3 _ _ ?_)
 refine c_seq (fun K4 hK4 => ?_)
 have hN64 : N ≤ 64 := by omega
 have hfo := made_fok hN64 (ps.take 200) ow
 have hlx := madeG_rows N (ps.take 200) (by rw [List.length_take]; omega)
 obtain ⟨es, hes⟩ : ∃ x, madeG N (ps.take 200) = x := ⟨_, rfl⟩
 rw [hes] at hfo hlx ⊢
 obtain ⟨own, hown⟩ : ∃ x, madeO N ow = x := ⟨_, rfl⟩
 rw [hown] at hfo ⊢
 have hel := hfo.le
 have hol := hfo.lo
 have hin := hfo.in_
 refine t_f2 ?_
 refine t_f1 ?_
 refine t_learn (fun _ h => gridR_own (L := (SlV 23 1 (.slice bE N cE) N vsE) :: (Join (rowsL vsE es)) :: R) (.head _) (.tail _ (.head _)) (by omega) (h.drop.drop)) (fun hG => ?_)
 have hG0 := hG
 obtain ⟨vsG, hvlG, hvsG, hrowG⟩ := hG0
 refine c_draw (γ := Option Addr × Nat × Option Addr × Nat × Option Addr × Nat × Nat) (n := 12) Try.mixed rfl rfl (fun (bs2, cp3, bs6, cp7, bs10, cp11, b14) S => (S 4 = true → SlOk bs2 N) ∧ (S 4 = true → N ≤ cp3) ∧ (S 5 = true → SlOk bs6 0) ∧ (S 5 = true → 0 ≤ cp7) ∧ (S 8 = true → SlOk bs10 N) ∧ (S 8 = true → N ≤ cp11)) (fun (bs2, cp3, bs6, cp7, bs10, cp11, b14) => [(0, 28, (.pointer (some ⟨b1, 0, none⟩))), (1, 29, (.int .i64 ((N : Nat) : Int))), (2, 30, (.pointer (some ⟨b1, 0, none⟩))), (3, 31, (.int .i64 ((N : Nat) : Int))), (4, 32, (.slice bs2 N cp3)), (5, 33, (.slice bs6 0 cp7)), (6, 34, (.pointer (some ⟨b1, 2, none⟩))), (7, 35, (.slice bEo N cEo)), (8, 36, (.slice bs10 N cp11)), (9, 37, (.agg #[(.int .i64 ((N : Nat) : Int)), (.slice bs2 N cp3), (.slice bs10 N cp11)])), (10, 11, (.pointer (some ⟨b14, 0, none⟩)))]) (fun (bs2, cp3, bs6, cp7, bs10, cp11, b14) S => (Blk b1 [(.int .i64 ((N : Nat) : Int)), (.slice bE N cE), (.slice bEo N cEo)] 25) :: (SlV 3 1 (.slice bEo N cEo) N (ints .i64 own)) :: (bif S 4 then (SlV 23 1 (.slice bs2 N cp3) N (List.replicate N (.slice none 0 0))) else Emp) :: (bif S 8 then (SlV 3 1 (.slice bs10 N cp11) N (ints .i64 own)) else (bif S 5 then (SlV 3 1 (.slice bs6 0 cp7) 0 []) else Emp)) :: (bif S 11 then (Blk b14 [(.int .i64 ((N : Nat) : Int)), (.slice bs2 N cp3), (.slice bs10 N cp11)] 25) else (bif S 10 then (Blk b14 [(.int .i64 0), (.slice none 0 0), (.slice none 0 0)] 25) else Emp)) :: (SlV 23 1 (.slice bE N cE) N vsE) :: (Join (rowsL vsE es)) :: R) (none, 0, none, 0, none, 0, 0) (by simp [Nat.ble]) (fun _ h => sat_emps [_, _] 3 h) (fun _ _ h => h) ?_ ?_
 · -- steps
  refine ⟨?_, ?_, ?_, ?_, ?_, ?_, ?_, ?_, ?_, ?_, ?_, ?_, trivial⟩
  · -- 0
   rintro ⟨bs2, cp3, bs6, cp7, bs10, cp11, b14⟩ S hF hS D hp K hK
   try dsimp only at hF ⊢
   obtain ⟨hf0, hf1, hf2, hf3, hf4, hf5⟩ := hF
   refine d_need (small := [(10, (.pointer (some ⟨b1, 0, none⟩)))]) ⟨look_b rfl rfl, trivial⟩ ?_
   refine tp rfl (lv_fieldAddr (o' := 0) Try.underlying25 rfl Try.sizeOf3 rfl rfl) ?_
   exact d_closes ⟨look_b rfl rfl, trivial⟩ 0 rfl rfl rfl hS (AgreeR.refl _) (t_sat (fun _ h => h) (hK (bs2, cp3, bs6, cp7, bs10, cp11, b14) ⟨hf0, hf1, hf2, hf3, hf4, hf5⟩))
  · -- 1
   rintro ⟨bs2, cp3, bs6, cp7, bs10, cp11, b14⟩ S hF hS D hp K hK
   try dsimp only at hF ⊢
   obtain ⟨hf0, hf1, hf2, hf3, hf4, hf5⟩ := hF
   have s0 := hp 0 rfl
   refine d_need (small := [(28, (.pointer (some ⟨b1, 0, none⟩)))]) ⟨look_row rfl 0 rfl s0, trivial⟩ ?_
   refine tp rfl (lv_load Try.isAgg3 rfl (gives_blk (.head _) rfl)) ?_
   exact d_closes ⟨look_row rfl 0 rfl s0, trivial⟩ 1 rfl rfl rfl hS (AgreeR.refl _) (t_sat (fun _ h => h) (hK (bs2, cp3, bs6, cp7, bs10, cp11, b14) ⟨hf0, hf1, hf2, hf3, hf4, hf5⟩))
  · -- 2
   rintro ⟨bs2, cp3, bs6, cp7, bs10, cp11, b14⟩ S hF hS D hp K hK
   try dsimp only at hF ⊢
   obtain ⟨hf0, hf1, hf2, hf3, hf4, hf5⟩ := hF
   refine d_need (small := [(10, (.pointer (some ⟨b1, 0, none⟩)))]) ⟨look_b rfl rfl, trivial⟩ ?_
   refine tp rfl (lv_fieldAddr (o' := 0) Try.underlying25 rfl Try.sizeOf3 rfl rfl) ?_
   exact d_closes ⟨look_b rfl rfl, trivial⟩ 2 rfl rfl rfl hS (AgreeR.refl _) (t_sat (fun _ h => h) (hK (bs2, cp3, bs6, cp7, bs10, cp11, b14) ⟨hf0, hf1, hf2, hf3, hf4, hf5⟩))
  · -- 3
   rintro ⟨bs2, cp3, bs6, cp7, bs10, cp11, b14⟩ S hF hS D hp K hK
   try dsimp only at hF ⊢
   obtain ⟨hf0, hf1, hf2, hf3, hf4, hf5⟩ := hF
   have s2 := hp 2 rfl
   refine d_need (small := [(30, (.pointer (some ⟨b1, 0, none⟩)))]) ⟨look_row rfl 2 rfl s2, trivial⟩ ?_
   refine tp rfl (lv_load Try.isAgg3 rfl (gives_blk (.head _) rfl)) ?_
   exact d_closes ⟨look_row rfl 2 rfl s2, trivial⟩ 3 rfl rfl rfl hS (AgreeR.refl _) (t_sat (fun _ h => h) (hK (bs2, cp3, bs6, cp7, bs10, cp11, b14) ⟨hf0, hf1, hf2, hf3, hf4, hf5⟩))
  · -- 4
   rintro ⟨bs2, cp3, bs6, cp7, bs10, cp11, b14⟩ S hF hS D hp K hK
   try dsimp only at hF ⊢
   obtain ⟨hf0, hf1, hf2, hf3, hf4, hf5⟩ := hF
   have s3 := hp 3 rfl
   refine d_need (small := [(31, (.int .i64 ((N : Nat) : Int)))]) ⟨look_row rfl 3 rfl s3, trivial⟩ ?_
   refine t_f4 ?_
   refine t_cF (nf hS D (k := 11) (i := 4) rfl) ?_
   refine tm rfl (mv_makeSlice (i := Try.t23) Try.underlying22 Try.type23 rfl rfl rfl rfl rfl (by omega) (by rw [show Try.t23.bytes = 24 from rfl]; omega) (by omega)) ?_
   rintro _ _ ⟨bs2, cp3, hok4, hle5, rfl, rfl⟩
   rw [show (((N : Nat) : Int)).toNat = N from rfl] at hok4 hle5 ⊢
   refine t_f1 ?_
   refine t_wF (A := (Blk b14 [(.int .i64 ((N : Nat) : Int)), (.slice bs2 N cp3), (.slice bs10 N cp11)] 25)) (nf hS D (k := 11) (i := 4) rfl) ?_
   refine t_f5 ?_
   refine t_f5 ?_
   refine t_f5 ?_
   refine t_f5 ?_
   refine t_f5 ?_
   refine t_sat (fun _ h => sat_put [_, _] h) ?_
   exact d_closes ⟨look_row rfl 3 rfl s3, trivial⟩ 4 rfl rfl rfl hS (by exact ⟨.inl rfl, .inl rfl, .inl rfl, .inl rfl, .inr ⟨rfl, rfl, hS⟩, .inl rfl, .inl rfl, .inl rfl, .inl rfl, .inr ⟨rfl, rfl, (nf hS D (k := 9) (i := 4) rfl)⟩, .inl rfl, trivial⟩) (t_sat (fun _ h => h) (hK (bs2, cp3, bs6, cp7, bs10, cp11, b14) ⟨(fun _ => hok4), (fun _ => hle5), hf2, hf3, hf4, hf5⟩))
  · -- 5
   rintro ⟨bs2, cp3, bs6, cp7, bs10, cp11, b14⟩ S hF hS D hp K hK
   try dsimp only at hF ⊢
   obtain ⟨hf0, hf1, hf2, hf3, hf4, hf5⟩ := hF
   refine d_need (small := []) trivial ?_
   refine tm rfl (mv_buildSlice (cs := []) Try.underlying23 Try.sizeOf3 Try.zeroValue3 (by decide) rfl rfl rfl rfl) ?_
   rintro _ _ ⟨bs6, cp7, hok8, hle9, rfl, rfl⟩
   refine t_wF (A := (SlV 3 1 (.slice bs10 N cp11) N (ints .i64 own))) (nf hS D (k := 8) (i := 5) rfl) ?_
   refine t_sat (fun _ h => sat_put [_, _, _] h) ?_
   exact d_closes trivial 5 rfl rfl rfl hS (by exact ⟨.inl rfl, .inl rfl, .inl rfl, .inl rfl, .inl rfl, .inr ⟨rfl, rfl, hS⟩, .inl rfl, .inl rfl, .inl rfl, .inl rfl, .inl rfl, trivial⟩) (t_sat (fun _ h => h) (hK (bs2, cp3, bs6, cp7, bs10, cp11, b14) ⟨hf0, hf1, (fun _ => hok8), (fun _ => hle9), hf4, hf5⟩))
  · -- 6
   rintro ⟨bs2, cp3, bs6, cp7, bs10, cp11, b14⟩ S hF hS D hp K hK
   try dsimp only at hF ⊢
   obtain ⟨hf0, hf1, hf2, hf3, hf4, hf5⟩ := hF
   refine d_need (small := [(10, (.pointer (some ⟨b1, 0, none⟩)))]) ⟨look_b rfl rfl, trivial⟩ ?_
   refine tp rfl (lv_fieldAddr (o' := 2) Try.underlying25 rfl Try.sizeOf23 rfl rfl) ?_
   exact d_closes ⟨look_b rfl rfl, trivial⟩ 6 rfl rfl rfl hS (AgreeR.refl _) (t_sat (fun _ h => h) (hK (bs2, cp3, bs6, cp7, bs10, cp11, b14) ⟨hf0, hf1, hf2, hf3, hf4, hf5⟩))
  · -- 7
   rintro ⟨bs2, cp3, bs6, cp7, bs10, cp11, b14⟩ S hF hS D hp K hK
   try dsimp only at hF ⊢
   obtain ⟨hf0, hf1, hf2, hf3, hf4, hf5⟩ := hF
   have s6 := hp 6 rfl
   refine d_need (small := [(34, (.pointer (some ⟨b1, 2, none⟩)))]) ⟨look_row rfl 6 rfl s6, trivial⟩ ?_
   refine tp rfl (lv_load Try.isAgg23 rfl (gives_blk (.head _) rfl)) ?_
   exact d_closes ⟨look_row rfl 6 rfl s6, trivial⟩ 7 rfl rfl rfl hS (AgreeR.refl _) (t_sat (fun _ h => h) (hK (bs2, cp3, bs6, cp7, bs10, cp11, b14) ⟨hf0, hf1, hf2, hf3, hf4, hf5⟩))
  · -- 8
   rintro ⟨bs2, cp3, bs6, cp7, bs10, cp11, b14⟩ S hF hS D hp K hK
   try dsimp only at hF ⊢
   obtain ⟨hf0, hf1, hf2, hf3, hf4, hf5⟩ := hF
   have s5 := hp 5 rfl
   have hok8 := hf2 s5
   have hle9 := hf3 s5
   have s7 := hp 7 rfl
   refine d_need (small := [(33, (.slice bs6 0 cp7)), (35, (.slice bEo N cEo))]) ⟨look_row rfl 5 rfl s5, look_row rfl 7 rfl s7, trivial⟩ ?_
   refine t_f3 ?_
   refine t_cF hS ?_
   refine t_cT s5 ?_
   refine t_f4 ?_
   refine t_cF (nf hS D (k := 11) (i := 8) rfl) ?_
   refine t_f1 ?_
   refine tm rfl (mv_append (i := Try.t3) Try.underlying23 Try.type3 rfl rfl rfl (by decide) rfl rfl hokEo (by first | (simp; done) | (simp; omega)) (rd_sl (.tail _ (.tail _ (.tail _ (.head _))))) ints_one (by rw [show Try.t3.bytes = 8 from rfl]; omega)) ?_
   rintro _ _ ⟨bs10, cp11, hok12, hle13, rfl, rfl⟩
   simp only [Nat.zero_add] at hok12 hle13 ⊢
   rw [List.nil_append]
   refine t_f1 ?_
   refine t_wF (A := (Blk b14 [(.int .i64 ((N : Nat) : Int)), (.slice bs2 N cp3), (.slice bs10 N cp11)] 25)) (nf hS D (k := 11) (i := 8) rfl) ?_
   refine t_f1 ?_
   refine t_f4 ?_
   refine t_f4 ?_
   refine t_f4 ?_
   exact d_closes ⟨look_row rfl 5 rfl s5, look_row rfl 7 rfl s7, trivial⟩ 8 rfl rfl rfl hS (by exact ⟨.inl rfl, .inl rfl, .inl rfl, .inl rfl, .inl rfl, .inl rfl, .inl rfl, .inl rfl, .inr ⟨rfl, rfl, hS⟩, .inr ⟨rfl, rfl, (nf hS D (k := 9) (i := 8) rfl)⟩, .inl rfl, trivial⟩) (t_sat (fun _ h => h) (hK (bs2, cp3, bs6, cp7, bs10, cp11, b14) ⟨hf0, hf1, hf2, hf3, (fun _ => hok12), (fun _ => hle13)⟩))
  · -- 9
   rintro ⟨bs2, cp3, bs6, cp7, bs10, cp11, b14⟩ S hF hS D hp K hK
   try dsimp only at hF ⊢
   obtain ⟨hf0, hf1, hf2, hf3, hf4, hf5⟩ := hF
   have s4 := hp 4 rfl
   have hok4 := hf0 s4
   have hle5 := hf1 s4
   have s8 := hp 8 rfl
   have s5 := D 8 5 rfl s8
   have hok8 := hf2 s5
   have hle9 := hf3 s5
   have hok12 := hf4 s8
   have hle13 := hf5 s8
   have s1 := hp 1 rfl
   refine d_need (small := [(29, (.int .i64 ((N : Nat) : Int))), (32, (.slice bs2 N cp3)), (36, (.slice bs10 N cp11))]) ⟨look_row rfl 1 rfl s1, look_row rfl 4 rfl s4, look_row rfl 8 rfl s8, trivial⟩ ?_
   refine tp rfl (lv_build (cs := [(.int .i64 ((N : Nat) : Int)), (.slice bs2 N cp3), (.slice bs10 N cp11)]) (pl := [(0, 1), (1, 1), (2, 1)]) Try.underlying25 Try.zeroValue25 (fun _ => by simp) rfl rfl) ?_
   exact d_closes ⟨look_row rfl 1 rfl s1, look_row rfl 4 rfl s4, look_row rfl 8 rfl s8, trivial⟩ 9 rfl rfl rfl hS (AgreeR.refl _) (t_sat (fun _ h => h) (hK (bs2, cp3, bs6, cp7, bs10, cp11, b14) ⟨hf0, hf1, hf2, hf3, hf4, hf5⟩))
  · -- 10
   rintro ⟨bs2, cp3, bs6, cp7, bs10, cp11, b14⟩ S hF hS D hp K hK
   try dsimp only at hF ⊢
   obtain ⟨hf0, hf1, hf2, hf3, hf4, hf5⟩ := hF
   refine d_need (small := []) trivial ?_
   refine t_f4 ?_
   refine t_cF (nf hS D (k := 11) (i := 10) rfl) ?_
   refine t_cF hS ?_
   refine tm rfl (mv_alloc Try.zeroValue25 rfl) ?_
   rintro _ _ ⟨b14, rfl, rfl⟩
   refine t_f1 ?_
   refine t_wF (A := (Blk b14 [(.int .i64 0), (.slice none 0 0), (.slice none 0 0)] 25)) hS ?_
   refine t_wF (A := (Blk b14 [(.int .i64 ((N : Nat) : Int)), (.slice bs2 N cp3), (.slice bs10 N cp11)] 25)) (nf hS D (k := 11) (i := 10) rfl) ?_
   refine t_f1 ?_
   refine t_wF (A := (Blk b14 [(.int .i64 ((N : Nat) : Int)), (.slice bs2 N cp3), (.slice bs10 N cp11)] 25)) (nf hS D (k := 11) (i := 10) rfl) ?_
   refine t_f1 ?_
   refine t_f5 ?_
   refine t_f5 ?_
   refine t_f5 ?_
   refine t_f5 ?_
   refine t_f5 ?_
   refine t_sat (fun _ h => sat_put [_, _, _, _] h) ?_
   exact d_closes trivial 10 rfl rfl rfl hS (by exact ⟨.inl rfl, .inl rfl, .inl rfl, .inl rfl, .inl rfl, .inl rfl, .inl rfl, .inl rfl, .inl rfl, .inl rfl, .inr ⟨rfl, rfl, hS⟩, trivial⟩) (t_sat (fun _ h => h) (hK (bs2, cp3, bs6, cp7, bs10, cp11, b14) ⟨hf0, hf1, hf2, hf3, hf4, hf5⟩))
  · -- 11
   rintro ⟨bs2, cp3, bs6, cp7, bs10, cp11, b14⟩ S hF hS D hp K hK
   try dsimp only at hF ⊢
   obtain ⟨hf0, hf1, hf2, hf3, hf4, hf5⟩ := hF
   have s4 := hp 4 rfl
   have hok4 := hf0 s4
   have hle5 := hf1 s4
   have s5 := hp 5 rfl
   have hok8 := hf2 s5
   have hle9 := hf3 s5
   have s8 := hp 8 rfl
   have hok12 := hf4 s8
   have hle13 := hf5 s8
   have s10 := hp 10 rfl
   have s9 := hp 9 rfl
   refine d_need (small := [(11, (.pointer (some ⟨b14, 0, none⟩))), (37, (.agg #[(.int .i64 ((N : Nat) : Int)), (.slice bs2 N cp3), (.slice bs10 N cp11)]))]) ⟨look_row rfl 10 rfl s10, look_row rfl 9 rfl s9, trivial⟩ ?_
   refine t_f4 ?_
   refine t_cF hS ?_
   refine t_cT s10 ?_
   refine ts (sv_blkAgg (news := [(.int .i64 ((N : Nat) : Int)), (.slice bs2 N cp3), (.slice bs10 N cp11)]) Try.sizeOf25 rfl rfl rfl rfl (Nat.le_of_ble_eq_true rfl) rfl) ?_
   refine t_f4 ?_
   refine t_f4 ?_
   refine t_f4 ?_
   refine t_f4 ?_
   exact d_closes0 ⟨look_row rfl 10 rfl s10, look_row rfl 9 rfl s9, trivial⟩ rfl (t_sat (fun _ h => h) (hK (bs2, cp3, bs6, cp7, bs10, cp11, b14) ⟨hf0, hf1, hf2, hf3, hf4, hf5⟩))
 · -- behind
  rintro ⟨bs2, cp3, bs6, cp7, bs10, cp11, b14⟩ hF
  try dsimp only at hF ⊢
  obtain ⟨hf0, hf1, hf2, hf3, hf4, hf5⟩ := hF
  have hok4 := hf0 rfl
  have hle5 := hf1 rfl
  have hok8 := hf2 rfl
  have hle9 := hf3 rfl
  have hok12 := hf4 rfl
  have hle13 := hf5 rfl
  refine t_weak (E' := [(0, (.int .i64 n)), (1, (.slice bp ps.length cp)), (2, (.slice bw ow.length cw)), (3, (.slice bm mw.length cm)), (8, (.bool false)), (9, (.bool true)), (10, (.pointer (some ⟨b1, 0, none⟩))), (11, (.pointer (some ⟨b14, 0, none⟩)))]) ⟨rfl, rfl, rfl, rfl, rfl, rfl, rfl, rfl, trivial⟩ ?_
  refine q_then_n (hK4 _ _ ?_)
  refine c_seq (fun K5 hK5 => ?_)
  refine c_region ?_
  refine t_sat (fun _ h => sat_nilrows N h) ?_
  have hr2 : ∀ i, (es.getD i []).length ≤ 200 := fun i => by
    rw [← hes]
    have := madeG_le N (ps.take 200) i
    have h2 : (ps.take 200).length ≤ 200 := by rw [List.length_take]; omega
    omega
  refine tp rfl (lv_assign rfl) ?_
  refine t_done ?_
  refine q_then_n (hK5 _ _ ?_)
  refine c_seq (fun K6 hK6 => ?_)
  refine c_seq (fun K7 hK7 => ?_)
  refine c_region ?_
  refine tp rfl (lv_assign rfl) ?_
  refine t_done ?_
  refine q_then_n (hK7 _ _ ?_)
  refine c_block ?_
  refine c_loop (γ := (Nat) × (Nat) × (List (List Int)) × (List Value)) (fun (i, kk, G, vs) => i ≤ N ∧ kk ≤ 200 * i ∧ Tw N es G i 0 0 ∧ vs.length = N) (fun (i, kk, G, vs) => [(0, (.int .i64 n)), (1, (.slice bp ps.length cp)), (2, (.slice bw ow.length cw)), (3, (.slice bm mw.length cm)), (8, (.bool false)), (9, (.bool true)), (10, (.pointer (some ⟨b1, 0, none⟩))), (11, (.pointer (some ⟨b14, 0, none⟩))), (12, (.int .i64 ((kk : Nat) : Int))), (13, (.int .i64 ((i : Nat) : Int)))]) (fun (i, kk, G, vs) => (Join (rowsL vs G)) :: (Blk b1 [(.int .i64 ((N : Nat) : Int)), (.slice bE N cE), (.slice bEo N cEo)] 25) :: (SlV 3 1 (.slice bEo N cEo) N (ints .i64 own)) :: (SlV 23 1 (.slice bs2 N cp3) N vs) :: (SlV 3 1 (.slice bs10 N cp11) N (ints .i64 own)) :: (Blk b14 [(.int .i64 ((N : Nat) : Int)), (.slice bs2 N cp3), (.slice bs10 N cp11)] 25) :: (SlV 23 1 (.slice bE N cE) N vsE) :: (Join (rowsL vsE es)) :: R) (fun (i, kk, G, vs) => N - i) (0, 0, List.replicate N [], List.replicate N (.slice none 0 0)) ⟨by omega, by omega, Tw.start N es, by simp⟩ ⟨rfl, rfl, rfl, rfl, rfl, rfl, rfl, rfl, rfl, rfl, trivial⟩ (fun _ h => h) ?_
  rintro ⟨i, kk, G, vs⟩ K8 hF hK8
  try dsimp only at hF hK8 ⊢
  obtain ⟨hi, hkk, htw, hvl⟩ := hF
  refine c_seq (fun K9 hK9 => ?_)
  refine c_seq (fun K10 hK10 => ?_)
  refine c_region ?_
  refine tp rfl (lv_move rfl) ?_
  refine tp rfl (lv_fieldAddr (o' := 0) Try.underlying25 rfl Try.sizeOf3 rfl rfl) ?_
  refine tp rfl (lv_load Try.isAgg3 rfl (gives_blk (.tail _ (.head _)) rfl)) ?_
  by_cases h15 : ((i : Nat) : Int) < ((N : Nat) : Int)
  · -- yes
   refine tp rfl (lv_lss rfl rfl (decide_eq_true h15)) ?_
   refine t_done ?_
   refine q_then_n (hK10 _ _ ?_)
   refine c_true rfl ?_
   refine c_skip ?_
   refine q_then_n (hK9 _ _ ?_)
   refine c_seq (fun K11 hK11 => ?_)
   refine c_block ?_
   refine c_seq (fun K12 hK12 => ?_)
   refine c_region ?_
   obtain ⟨bi, ci, hoki, hlei, hvi, hri⟩ := hrowG i (by omega)
   have hlk := hr2 i
   refine tp rfl (lv_assign rfl) ?_
   refine t_done ?_
   refine q_then_n (hK12 _ _ ?_)
   refine c_block ?_
   refine c_loop (γ := (Nat) × (Nat) × (List (List Int)) × (List Value)) (fun (m, k1, G1, vs1) => m ≤ (es.getD i []).length ∧ k1 ≤ 200 * i + m ∧ Tw N es G1 i m 0 ∧ vs1.length = N) (fun (m, k1, G1, vs1) => [(0, (.int .i64 n)), (1, (.slice bp ps.length cp)), (2, (.slice bw ow.length cw)), (3, (.slice bm mw.length cm)), (8, (.bool false)), (9, (.bool true)), (10, (.pointer (some ⟨b1, 0, none⟩))), (11, (.pointer (some ⟨b14, 0, none⟩))), (12, (.int .i64 ((k1 : Nat) : Int))), (13, (.int .i64 ((i : Nat) : Int))), (14, (.int .i64 ((m : Nat) : Int))), (41, (.bool true))]) (fun (m, k1, G1, vs1) => (Join (rowsL vs1 G1)) :: (Blk b1 [(.int .i64 ((N : Nat) : Int)), (.slice bE N cE), (.slice bEo N cEo)] 25) :: (SlV 3 1 (.slice bEo N cEo) N (ints .i64 own)) :: (SlV 23 1 (.slice bs2 N cp3) N vs1) :: (SlV 3 1 (.slice bs10 N cp11) N (ints .i64 own)) :: (Blk b14 [(.int .i64 ((N : Nat) : Int)), (.slice bs2 N cp3), (.slice bs10 N cp11)] 25) :: (SlV 23 1 (.slice bE N cE) N vsE) :: (Join (rowsL vsE es)) :: R) (fun (m, k1, G1, vs1) => (es.getD i []).length - m) (0, kk, G, vs) ⟨by omega, by omega, htw, hvl⟩ ⟨rfl, rfl, rfl, rfl, rfl, rfl, rfl, rfl, rfl, rfl, rfl, rfl, trivial⟩ (fun _ h => h) ?_
   rintro ⟨m, k1, G1, vs1⟩ K13 hF hK13
   try dsimp only at hF hK13 ⊢
   obtain ⟨hm, hk1, htw1, hvl1⟩ := hF
   refine c_seq (fun K14 hK14 => ?_)
   refine c_seq (fun K15 hK15 => ?_)
   refine c_region ?_
   refine tp rfl (lv_move rfl) ?_
   refine tp rfl (lv_fieldAddr (o' := 1) Try.underlying25 rfl Try.sizeOf22 rfl rfl) ?_
   refine tp rfl (lv_load Try.isAgg22 rfl (gives_blk (.tail _ (.head _)) rfl)) ?_
   refine tp rfl (lv_move rfl) ?_
   refine tp rfl (lv_indexAddr (k' := i) Try.underlying22 Try.sizeOf23 rfl rfl hokE (by omega) (by omega) (by omega)) ?_
   refine tp rfl (lv_load Try.isAgg23 rfl (gives_as hvi (Rd.gives (Rd.cons (Rd.cons (Rd.cons (Rd.cons (Rd.cons (Rd.cons hvsG)))))) (vals_get (by omega))))) ?_
   refine tp rfl (lv_len Try.underlying23 rfl rfl) ?_
   by_cases h16 : ((m : Nat) : Int) < (((es.getD i []).length : Nat) : Int)
   · -- yes
    refine tp rfl (lv_lss rfl rfl (decide_eq_true h16)) ?_
    refine t_done ?_
    refine q_then_n (hK15 _ _ ?_)
    refine c_true rfl ?_
    refine c_skip ?_
    refine q_then_n (hK14 _ _ ?_)
    refine c_seq (fun K16 hK16 => ?_)
    refine c_block ?_
    refine c_seq (fun K17 hK17 => ?_)
    refine c_region ?_
    refine tp rfl (lv_assign rfl) ?_
    refine t_done ?_
    refine q_then_n (hK17 _ _ ?_)
    refine c_seq (fun K18 hK18 => ?_)
    have hM18 : ∀ (T : Nat), 1 ≤ T ∧ T ≤ 3 → Tri K18 W 144 [(0, (.int .i64 n)), (1, (.slice bp ps.length cp)), (2, (.slice bw ow.length cw)), (3, (.slice bm mw.length cm)), (8, (.bool false)), (9, (.bool true)), (10, (.pointer (some ⟨b1, 0, none⟩))), (11, (.pointer (some ⟨b14, 0, none⟩))), (12, (.int .i64 ((k1 : Nat) : Int))), (13, (.int .i64 ((i : Nat) : Int))), (14, (.int .i64 ((m : Nat) : Int))), (15, (.int .i64 ((T : Nat) : Int))), (41, (.bool true)), (51, (.bool true))] ((Join (rowsL vs1 G1)) :: (Blk b1 [(.int .i64 ((N : Nat) : Int)), (.slice bE N cE), (.slice bEo N cEo)] 25) :: (SlV 3 1 (.slice bEo N cEo) N (ints .i64 own)) :: (SlV 23 1 (.slice bs2 N cp3) N vs1) :: (SlV 3 1 (.slice bs10 N cp11) N (ints .i64 own)) :: (Blk b14 [(.int .i64 ((N : Nat) : Int)), (.slice bs2 N cp3), (.slice bs10 N cp11)] 25) :: (SlV 23 1 (.slice bE N cE) N vsE) :: (Join (rowsL vsE es)) :: R) := by
     rintro T hF
     obtain ⟨hT1, hT3⟩ := hF
     refine hK18 _ _ ?_
     refine c_seq (fun K19 hK19 => ?_)
     refine c_region ?_
     refine tp rfl (lv_move rfl) ?_
     refine tp rfl (lv_add (c := ((k1 + 1 : Nat) : Int)) rfl rfl (wr_i64_succ (by omega))) ?_
     refine tp rfl (lv_assign rfl) ?_
     refine t_done ?_
     refine q_then_n (hK19 _ _ ?_)
     refine c_seq (fun K20 hK20 => ?_)
     refine c_region ?_
     refine tp rfl (lv_assign rfl) ?_
     refine t_done ?_
     refine q_then_n (hK20 _ _ ?_)
     refine c_block ?_
     refine c_loop (γ := (Nat) × (List (List Int)) × (List Value)) (fun (t, G2, vs2) => t ≤ T ∧ Tw N es G2 i m t ∧ vs2.length = N) (fun (t, G2, vs2) => [(0, (.int .i64 n)), (1, (.slice bp ps.length cp)), (2, (.slice bw ow.length cw)), (3, (.slice bm mw.length cm)), (8, (.bool false)), (9, (.bool true)), (10, (.pointer (some ⟨b1, 0, none⟩))), (11, (.pointer (some ⟨b14, 0, none⟩))), (12, (.int .i64 ((k1 + 1 : Nat) : Int))), (13, (.int .i64 ((i : Nat) : Int))), (14, (.int .i64 ((m : Nat) : Int))), (15, (.int .i64 ((T : Nat) : Int))), (16, (.int .i64 ((t : Nat) : Int))), (41, (.bool true)), (51, (.bool true))]) (fun (t, G2, vs2) => (Join (rowsL vs2 G2)) :: (Blk b1 [(.int .i64 ((N : Nat) : Int)), (.slice bE N cE), (.slice bEo N cEo)] 25) :: (SlV 3 1 (.slice bEo N cEo) N (ints .i64 own)) :: (SlV 23 1 (.slice bs2 N cp3) N vs2) :: (SlV 3 1 (.slice bs10 N cp11) N (ints .i64 own)) :: (Blk b14 [(.int .i64 ((N : Nat) : Int)), (.slice bs2 N cp3), (.slice bs10 N cp11)] 25) :: (SlV 23 1 (.slice bE N cE) N vsE) :: (Join (rowsL vsE es)) :: R) (fun (t, G2, vs2) => T - t) (0, G1, vs1) ⟨by omega, htw1, hvl1⟩ ⟨rfl, rfl, rfl, rfl, rfl, rfl, rfl, rfl, rfl, rfl, rfl, rfl, rfl, rfl, rfl, trivial⟩ (fun _ h => h) ?_
     rintro ⟨t, G2, vs2⟩ K21 hF hK21
     try dsimp only at hF hK21 ⊢
     obtain ⟨ht, htw2, hvl2⟩ := hF
     refine c_seq (fun K22 hK22 => ?_)
     refine c_seq (fun K23 hK23 => ?_)
     refine c_region ?_
     refine tp rfl (lv_move rfl) ?_
     refine tp rfl (lv_move rfl) ?_
     by_cases h17 : ((t : Nat) : Int) < ((T : Nat) : Int)
     · -- yes
      refine tp rfl (lv_lss rfl rfl (decide_eq_true h17)) ?_
      refine t_done ?_
      refine q_then_n (hK23 _ _ ?_)
      refine c_true rfl ?_
      refine c_skip ?_
      refine q_then_n (hK22 _ _ ?_)
      refine c_seq (fun K24 hK24 => ?_)
      refine c_block ?_
      have hgl2 := htw2.len
      have hgr2 := htw2.row_le
      refine t_sat (fun _ h => h.takeRow (a := i) (by omega) (by omega)) ?_
      refine t_openI (fun ba ca hoka hlea hva => ?_)
      have hat := hfo.at_ (i := i) (k := m) (by omega)
      refine c_draw (γ := Option Addr × Nat × Option Addr × Nat) (n := 20) Try.mixed rfl rfl (fun (bs18, cp19, bs22, cp23) S => (S 16 = true → SlOk bs18 1) ∧ (S 16 = true → 1 ≤ cp19) ∧ (S 17 = true → SlOk bs22 (((G2.getD i []).length) + 1)) ∧ (S 17 = true → ((G2.getD i []).length) + 1 ≤ cp23)) (fun (bs18, cp19, bs22, cp23) => [(0, 72, (.pointer (some ⟨b14, 1, none⟩))), (1, 73, (.slice bs2 N cp3)), (2, 74, (.int .i64 ((i : Nat) : Int))), (3, 75, (.pointer (some ⟨b14, 1, none⟩))), (4, 76, (.slice bs2 N cp3)), (5, 77, (.int .i64 ((i : Nat) : Int))), (6, 78, (.pointer (some (ad bs2 i)))), (7, 79, (.slice ba ((G2.getD i []).length) ca)), (8, 80, (.pointer (some ⟨b1, 1, none⟩))), (9, 81, (.slice bE N cE)), (10, 82, (.int .i64 ((i : Nat) : Int))), (11, 83, (.pointer (some (ad bE i)))), (12, 84, (.slice bi ((es.getD i []).length) ci)), (13, 85, (.int .i64 ((m : Nat) : Int))), (14, 86, (.pointer (some (ad bi m)))), (15, 87, (.int .i64 ((es.getD i []).getD m 0))), (16, 88, (.slice bs18 1 cp19)), (17, 89, (.slice bs22 (((G2.getD i []).length) + 1) cp23)), (18, 90, (.pointer (some (ad bs2 i))))]) (fun (bs18, cp19, bs22, cp23) S => (bif S 17 then (SlV 3 1 (.slice bs22 (((G2.getD i []).length) + 1) cp23) (((G2.getD i []).length) + 1) (ints .i64 ((G2.getD i []) ++ [(es.getD i []).getD m 0]))) else (SlV 3 1 (.slice ba ((G2.getD i []).length) ca) ((G2.getD i []).length) (ints .i64 (G2.getD i [])))) :: (Join (rowsL (vs2.eraseIdx i) (G2.eraseIdx i))) :: (Blk b1 [(.int .i64 ((N : Nat) : Int)), (.slice bE N cE), (.slice bEo N cEo)] 25) :: (SlV 3 1 (.slice bEo N cEo) N (ints .i64 own)) :: (bif S 19 then (SlV 23 1 (.slice bs2 N cp3) N ((vs2).set i (.slice bs22 (((G2.getD i []).length) + 1) cp23))) else (SlV 23 1 (.slice bs2 N cp3) N vs2)) :: (SlV 3 1 (.slice bs10 N cp11) N (ints .i64 own)) :: (Blk b14 [(.int .i64 ((N : Nat) : Int)), (.slice bs2 N cp3), (.slice bs10 N cp11)] 25) :: (bif S 16 then (SlV 3 1 (.slice bs18 1 cp19) 1 [(.int .i64 ((es.getD i []).getD m 0))]) else Emp) :: (SlV 23 1 (.slice bE N cE) N vsE) :: (Join (rowsL vsE es)) :: R) (none, 0, none, 0) (by simp [Nat.ble]) (fun _ h => sat_emps [_, _, _, _, _, _, _] 1 h) (fun _ _ h => h) ?_ ?_
      · -- steps
       refine ⟨?_, ?_, ?_, ?_, ?_, ?_, ?_, ?_, ?_, ?_, ?_, ?_, ?_, ?_, ?_, ?_, ?_, ?_, ?_, ?_, trivial⟩
       · -- 0
        rintro ⟨bs18, cp19, bs22, cp23⟩ S hF hS D hp K hK
        try dsimp only at hF ⊢
        obtain ⟨hf0, hf1, hf2, hf3⟩ := hF
        refine d_need (small := [(11, (.pointer (some ⟨b14, 0, none⟩)))]) ⟨look_b rfl rfl, trivial⟩ ?_
        refine tp rfl (lv_fieldAddr (o' := 1) Try.underlying25 rfl Try.sizeOf22 rfl rfl) ?_
        exact d_closes ⟨look_b rfl rfl, trivial⟩ 0 rfl rfl rfl hS (AgreeR.refl _) (t_sat (fun _ h => h) (hK (bs18, cp19, bs22, cp23) ⟨hf0, hf1, hf2, hf3⟩))
       · -- 1
        rintro ⟨bs18, cp19, bs22, cp23⟩ S hF hS D hp K hK
        try dsimp only at hF ⊢
        obtain ⟨hf0, hf1, hf2, hf3⟩ := hF
        have s0 := hp 0 rfl
        refine d_need (small := [(72, (.pointer (some ⟨b14, 1, none⟩)))]) ⟨look_row rfl 0 rfl s0, trivial⟩ ?_
        refine tp rfl (lv_load Try.isAgg22 rfl (gives_blk (.tail _ (.tail _ (.tail _ (.tail _ (.tail _ (.tail _ (.head _))))))) rfl)) ?_
        exact d_closes ⟨look_row rfl 0 rfl s0, trivial⟩ 1 rfl rfl rfl hS (AgreeR.refl _) (t_sat (fun _ h => h) (hK (bs18, cp19, bs22, cp23) ⟨hf0, hf1, hf2, hf3⟩))
       · -- 2
        rintro ⟨bs18, cp19, bs22, cp23⟩ S hF hS D hp K hK
        try dsimp only at hF ⊢
        obtain ⟨hf0, hf1, hf2, hf3⟩ := hF
        refine d_need (small := [(13, (.int .i64 ((i : Nat) : Int)))]) ⟨look_b rfl rfl, trivial⟩ ?_
        refine tp rfl (lv_move rfl) ?_
        exact d_closes ⟨look_b rfl rfl, trivial⟩ 2 rfl rfl rfl hS (AgreeR.refl _) (t_sat (fun _ h => h) (hK (bs18, cp19, bs22, cp23) ⟨hf0, hf1, hf2, hf3⟩))
       · -- 3
        rintro ⟨bs18, cp19, bs22, cp23⟩ S hF hS D hp K hK
        try dsimp only at hF ⊢
        obtain ⟨hf0, hf1, hf2, hf3⟩ := hF
        refine d_need (small := [(11, (.pointer (some ⟨b14, 0, none⟩)))]) ⟨look_b rfl rfl, trivial⟩ ?_
        refine tp rfl (lv_fieldAddr (o' := 1) Try.underlying25 rfl Try.sizeOf22 rfl rfl) ?_
        exact d_closes ⟨look_b rfl rfl, trivial⟩ 3 rfl rfl rfl hS (AgreeR.refl _) (t_sat (fun _ h => h) (hK (bs18, cp19, bs22, cp23) ⟨hf0, hf1, hf2, hf3⟩))
       · -- 4
        rintro ⟨bs18, cp19, bs22, cp23⟩ S hF hS D hp K hK
        try dsimp only at hF ⊢
        obtain ⟨hf0, hf1, hf2, hf3⟩ := hF
        have s3 := hp 3 rfl
        refine d_need (small := [(75, (.pointer (some ⟨b14, 1, none⟩)))]) ⟨look_row rfl 3 rfl s3, trivial⟩ ?_
        refine tp rfl (lv_load Try.isAgg22 rfl (gives_blk (.tail _ (.tail _ (.tail _ (.tail _ (.tail _ (.tail _ (.head _))))))) rfl)) ?_
        exact d_closes ⟨look_row rfl 3 rfl s3, trivial⟩ 4 rfl rfl rfl hS (AgreeR.refl _) (t_sat (fun _ h => h) (hK (bs18, cp19, bs22, cp23) ⟨hf0, hf1, hf2, hf3⟩))
       · -- 5
        rintro ⟨bs18, cp19, bs22, cp23⟩ S hF hS D hp K hK
        try dsimp only at hF ⊢
        obtain ⟨hf0, hf1, hf2, hf3⟩ := hF
        refine d_need (small := [(13, (.int .i64 ((i : Nat) : Int)))]) ⟨look_b rfl rfl, trivial⟩ ?_
        refine tp rfl (lv_move rfl) ?_
        exact d_closes ⟨look_b rfl rfl, trivial⟩ 5 rfl rfl rfl hS (AgreeR.refl _) (t_sat (fun _ h => h) (hK (bs18, cp19, bs22, cp23) ⟨hf0, hf1, hf2, hf3⟩))
       · -- 6
        rintro ⟨bs18, cp19, bs22, cp23⟩ S hF hS D hp K hK
        try dsimp only at hF ⊢
        obtain ⟨hf0, hf1, hf2, hf3⟩ := hF
        have s4 := hp 4 rfl
        have s5 := hp 5 rfl
        refine d_need (small := [(76, (.slice bs2 N cp3)), (77, (.int .i64 ((i : Nat) : Int)))]) ⟨look_row rfl 4 rfl s4, look_row rfl 5 rfl s5, trivial⟩ ?_
        refine tp rfl (lv_indexAddr (k' := i) Try.underlying22 Try.sizeOf23 rfl rfl hok4 (by omega) (by omega) (by omega)) ?_
        exact d_closes ⟨look_row rfl 4 rfl s4, look_row rfl 5 rfl s5, trivial⟩ 6 rfl rfl rfl hS (AgreeR.refl _) (t_sat (fun _ h => h) (hK (bs18, cp19, bs22, cp23) ⟨hf0, hf1, hf2, hf3⟩))
       · -- 7
        rintro ⟨bs18, cp19, bs22, cp23⟩ S hF hS D hp K hK
        try dsimp only at hF ⊢
        obtain ⟨hf0, hf1, hf2, hf3⟩ := hF
        have s6 := hp 6 rfl
        refine d_need (small := [(78, (.pointer (some (ad bs2 i))))]) ⟨look_row rfl 6 rfl s6, trivial⟩ ?_
        refine tp rfl (lv_load Try.isAgg23 rfl (gives_as hva (gives_sl (mem_cF (nf hS D (k := 19) (i := 7) rfl) (.tail _ (.tail _ (.tail _ (.tail _ (.head _)))))) (vals_get (by omega))))) ?_
        exact d_closes ⟨look_row rfl 6 rfl s6, trivial⟩ 7 rfl rfl rfl hS (AgreeR.refl _) (t_sat (fun _ h => h) (hK (bs18, cp19, bs22, cp23) ⟨hf0, hf1, hf2, hf3⟩))
       · -- 8
        rintro ⟨bs18, cp19, bs22, cp23⟩ S hF hS D hp K hK
        try dsimp only at hF ⊢
        obtain ⟨hf0, hf1, hf2, hf3⟩ := hF
        refine d_need (small := [(10, (.pointer (some ⟨b1, 0, none⟩)))]) ⟨look_b rfl rfl, trivial⟩ ?_
        refine tp rfl (lv_fieldAddr (o' := 1) Try.underlying25 rfl Try.sizeOf22 rfl rfl) ?_
        exact d_closes ⟨look_b rfl rfl, trivial⟩ 8 rfl rfl rfl hS (AgreeR.refl _) (t_sat (fun _ h => h) (hK (bs18, cp19, bs22, cp23) ⟨hf0, hf1, hf2, hf3⟩))
       · -- 9
        rintro ⟨bs18, cp19, bs22, cp23⟩ S hF hS D hp K hK
        try dsimp only at hF ⊢
        obtain ⟨hf0, hf1, hf2, hf3⟩ := hF
        have s8 := hp 8 rfl
        refine d_need (small := [(80, (.pointer (some ⟨b1, 1, none⟩)))]) ⟨look_row rfl 8 rfl s8, trivial⟩ ?_
        refine tp rfl (lv_load Try.isAgg22 rfl (gives_blk (.tail _ (.tail _ (.head _))) rfl)) ?_
        exact d_closes ⟨look_row rfl 8 rfl s8, trivial⟩ 9 rfl rfl rfl hS (AgreeR.refl _) (t_sat (fun _ h => h) (hK (bs18, cp19, bs22, cp23) ⟨hf0, hf1, hf2, hf3⟩))
       · -- 10
        rintro ⟨bs18, cp19, bs22, cp23⟩ S hF hS D hp K hK
        try dsimp only at hF ⊢
        obtain ⟨hf0, hf1, hf2, hf3⟩ := hF
        refine d_need (small := [(13, (.int .i64 ((i : Nat) : Int)))]) ⟨look_b rfl rfl, trivial⟩ ?_
        refine tp rfl (lv_move rfl) ?_
        exact d_closes ⟨look_b rfl rfl, trivial⟩ 10 rfl rfl rfl hS (AgreeR.refl _) (t_sat (fun _ h => h) (hK (bs18, cp19, bs22, cp23) ⟨hf0, hf1, hf2, hf3⟩))
       · -- 11
        rintro ⟨bs18, cp19, bs22, cp23⟩ S hF hS D hp K hK
        try dsimp only at hF ⊢
        obtain ⟨hf0, hf1, hf2, hf3⟩ := hF
        have s9 := hp 9 rfl
        have s10 := hp 10 rfl
        refine d_need (small := [(81, (.slice bE N cE)), (82, (.int .i64 ((i : Nat) : Int)))]) ⟨look_row rfl 9 rfl s9, look_row rfl 10 rfl s10, trivial⟩ ?_
        refine tp rfl (lv_indexAddr (k' := i) Try.underlying22 Try.sizeOf23 rfl rfl hokE (by omega) (by omega) (by omega)) ?_
        exact d_closes ⟨look_row rfl 9 rfl s9, look_row rfl 10 rfl s10, trivial⟩ 11 rfl rfl rfl hS (AgreeR.refl _) (t_sat (fun _ h => h) (hK (bs18, cp19, bs22, cp23) ⟨hf0, hf1, hf2, hf3⟩))
       · -- 12
        rintro ⟨bs18, cp19, bs22, cp23⟩ S hF hS D hp K hK
        try dsimp only at hF ⊢
        obtain ⟨hf0, hf1, hf2, hf3⟩ := hF
        have s11 := hp 11 rfl
        refine d_need (small := [(83, (.pointer (some (ad bE i))))]) ⟨look_row rfl 11 rfl s11, trivial⟩ ?_
        refine tp rfl (lv_load Try.isAgg23 rfl (gives_as hvi (Rd.gives (Rd.cons (Rd.cons (Rd.cons (Rd.cons (Rd.cons (Rd.cons (Rd.cons (Rd.cons hvsG)))))))) (vals_get (by omega))))) ?_
        exact d_closes ⟨look_row rfl 11 rfl s11, trivial⟩ 12 rfl rfl rfl hS (AgreeR.refl _) (t_sat (fun _ h => h) (hK (bs18, cp19, bs22, cp23) ⟨hf0, hf1, hf2, hf3⟩))
       · -- 13
        rintro ⟨bs18, cp19, bs22, cp23⟩ S hF hS D hp K hK
        try dsimp only at hF ⊢
        obtain ⟨hf0, hf1, hf2, hf3⟩ := hF
        refine d_need (small := [(14, (.int .i64 ((m : Nat) : Int)))]) ⟨look_b rfl rfl, trivial⟩ ?_
        refine tp rfl (lv_move rfl) ?_
        exact d_closes ⟨look_b rfl rfl, trivial⟩ 13 rfl rfl rfl hS (AgreeR.refl _) (t_sat (fun _ h => h) (hK (bs18, cp19, bs22, cp23) ⟨hf0, hf1, hf2, hf3⟩))
       · -- 14
        rintro ⟨bs18, cp19, bs22, cp23⟩ S hF hS D hp K hK
        try dsimp only at hF ⊢
        obtain ⟨hf0, hf1, hf2, hf3⟩ := hF
        have s12 := hp 12 rfl
        have s13 := hp 13 rfl
        refine d_need (small := [(84, (.slice bi ((es.getD i []).length) ci)), (85, (.int .i64 ((m : Nat) : Int)))]) ⟨look_row rfl 12 rfl s12, look_row rfl 13 rfl s13, trivial⟩ ?_
        refine tp rfl (lv_indexAddr (k' := m) Try.underlying23 Try.sizeOf3 rfl rfl hoki (by omega) (by omega) (by omega)) ?_
        exact d_closes ⟨look_row rfl 12 rfl s12, look_row rfl 13 rfl s13, trivial⟩ 14 rfl rfl rfl hS (AgreeR.refl _) (t_sat (fun _ h => h) (hK (bs18, cp19, bs22, cp23) ⟨hf0, hf1, hf2, hf3⟩))
       · -- 15
        rintro ⟨bs18, cp19, bs22, cp23⟩ S hF hS D hp K hK
        try dsimp only at hF ⊢
        obtain ⟨hf0, hf1, hf2, hf3⟩ := hF
        have s14 := hp 14 rfl
        refine d_need (small := [(86, (.pointer (some (ad bi m))))]) ⟨look_row rfl 14 rfl s14, trivial⟩ ?_
        refine tp rfl (lv_load Try.isAgg3 rfl (Rd.gives (Rd.cons (Rd.cons (Rd.cons (Rd.cons (Rd.cons (Rd.cons (Rd.cons (Rd.cons hri)))))))) (ints_get (by omega)))) ?_
        exact d_closes ⟨look_row rfl 14 rfl s14, trivial⟩ 15 rfl rfl rfl hS (AgreeR.refl _) (t_sat (fun _ h => h) (hK (bs18, cp19, bs22, cp23) ⟨hf0, hf1, hf2, hf3⟩))
       · -- 16
        rintro ⟨bs18, cp19, bs22, cp23⟩ S hF hS D hp K hK
        try dsimp only at hF ⊢
        obtain ⟨hf0, hf1, hf2, hf3⟩ := hF
        have s15 := hp 15 rfl
        refine d_need (small := [(87, (.int .i64 ((es.getD i []).getD m 0)))]) ⟨look_row rfl 15 rfl s15, trivial⟩ ?_
        refine tm rfl (mv_buildSlice (cs := [(.int .i64 ((es.getD i []).getD m 0))]) Try.underlying23 Try.sizeOf3 Try.zeroValue3 (by decide) rfl rfl rfl rfl) ?_
        rintro _ _ ⟨bs18, cp19, hok20, hle21, rfl, rfl⟩
        refine t_sat (fun _ h => sat_put [_, _, _, _, _, _, _] h) ?_
        exact d_closes ⟨look_row rfl 15 rfl s15, trivial⟩ 16 rfl rfl rfl hS (by exact ⟨.inl rfl, .inl rfl, .inl rfl, .inl rfl, .inl rfl, .inl rfl, .inl rfl, .inl rfl, .inl rfl, .inl rfl, .inl rfl, .inl rfl, .inl rfl, .inl rfl, .inl rfl, .inl rfl, .inr ⟨rfl, rfl, hS⟩, .inl rfl, .inl rfl, trivial⟩) (t_sat (fun _ h => h) (hK (bs18, cp19, bs22, cp23) ⟨(fun _ => hok20), (fun _ => hle21), hf2, hf3⟩))
       · -- 17
        rintro ⟨bs18, cp19, bs22, cp23⟩ S hF hS D hp K hK
        try dsimp only at hF ⊢
        obtain ⟨hf0, hf1, hf2, hf3⟩ := hF
        have s16 := hp 16 rfl
        have hok20 := hf0 s16
        have hle21 := hf1 s16
        have s7 := hp 7 rfl
        refine d_need (small := [(79, (.slice ba ((G2.getD i []).length) ca)), (88, (.slice bs18 1 cp19))]) ⟨look_row rfl 7 rfl s7, look_row rfl 16 rfl s16, trivial⟩ ?_
        refine t_cF hS ?_
        refine t_f4 ?_
        refine t_cF (nf hS D (k := 19) (i := 17) rfl) ?_
        refine t_f7 ?_
        refine t_cT s16 ?_
        refine t_f2 ?_
        refine tm rfl (mv_append (i := Try.t3) Try.underlying23 Try.type3 rfl rfl rfl (by decide) rfl rfl hok20 (by first | (simp; done) | (simp; omega)) (rd_sl (.tail _ (.head _))) (by simp [Value.oneCell']) (by rw [show Try.t3.bytes = 8 from rfl]; omega)) ?_
        rintro _ _ ⟨bs22, cp23, hok24, hle25, rfl, rfl⟩
        rw [show ints .i64 (G2.getD i []) ++ [(.int .i64 ((es.getD i []).getD m 0))] = ints .i64 ((G2.getD i []) ++ [(es.getD i []).getD m 0]) from ints_snoc _ _ _]
        refine t_f2 ?_
        refine t_wF (A := (SlV 23 1 (.slice bs2 N cp3) N ((vs2).set i (.slice bs22 (((G2.getD i []).length) + 1) cp23)))) (nf hS D (k := 19) (i := 17) rfl) ?_
        refine t_f2 ?_
        refine t_wT (B := Emp) s16 ?_
        refine t_f7 ?_
        refine t_f7 ?_
        refine t_f3 ?_
        refine t_f7 ?_
        refine t_f7 ?_
        refine t_f7 ?_
        refine t_f7 ?_
        exact d_closes ⟨look_row rfl 7 rfl s7, look_row rfl 16 rfl s16, trivial⟩ 17 rfl rfl rfl hS (by exact ⟨.inl rfl, .inl rfl, .inl rfl, .inl rfl, .inl rfl, .inl rfl, .inl rfl, .inl rfl, .inl rfl, .inl rfl, .inl rfl, .inl rfl, .inl rfl, .inl rfl, .inl rfl, .inl rfl, .inl rfl, .inr ⟨rfl, rfl, hS⟩, .inl rfl, trivial⟩) (t_sat (fun _ h => h) (hK (bs18, cp19, bs22, cp23) ⟨hf0, hf1, (fun _ => hok24), (fun _ => hle25)⟩))
       · -- 18
        rintro ⟨bs18, cp19, bs22, cp23⟩ S hF hS D hp K hK
        try dsimp only at hF ⊢
        obtain ⟨hf0, hf1, hf2, hf3⟩ := hF
        have s16 := hp 16 rfl
        have hok20 := hf0 s16
        have hle21 := hf1 s16
        have s17 := hp 17 rfl
        have hok24 := hf2 s17
        have hle25 := hf3 s17
        have s1 := hp 1 rfl
        have s2 := hp 2 rfl
        refine d_need (small := [(73, (.slice bs2 N cp3)), (74, (.int .i64 ((i : Nat) : Int)))]) ⟨look_row rfl 1 rfl s1, look_row rfl 2 rfl s2, trivial⟩ ?_
        refine tp rfl (lv_indexAddr (k' := i) Try.underlying22 Try.sizeOf23 rfl rfl hok4 (by omega) (by omega) (by omega)) ?_
        exact d_closes ⟨look_row rfl 1 rfl s1, look_row rfl 2 rfl s2, trivial⟩ 18 rfl rfl rfl hS (AgreeR.refl _) (t_sat (fun _ h => h) (hK (bs18, cp19, bs22, cp23) ⟨hf0, hf1, hf2, hf3⟩))
       · -- 19
        rintro ⟨bs18, cp19, bs22, cp23⟩ S hF hS D hp K hK
        try dsimp only at hF ⊢
        obtain ⟨hf0, hf1, hf2, hf3⟩ := hF
        have s16 := hp 16 rfl
        have hok20 := hf0 s16
        have hle21 := hf1 s16
        have s17 := hp 17 rfl
        have hok24 := hf2 s17
        have hle25 := hf3 s17
        have s18 := hp 18 rfl
        refine d_need (small := [(89, (.slice bs22 (((G2.getD i []).length) + 1) cp23)), (90, (.pointer (some (ad bs2 i))))]) ⟨look_row rfl 17 rfl s17, look_row rfl 18 rfl s18, trivial⟩ ?_
        refine t_f4 ?_
        refine t_cF hS ?_
        refine ts (sv_sl Try.sizeOf23 rfl rfl rfl (by first | (simp; omega) | omega) rfl) ?_
        refine t_f4 ?_
        refine t_f4 ?_
        refine t_f4 ?_
        refine t_f4 ?_
        exact d_closes0 ⟨look_row rfl 17 rfl s17, look_row rfl 18 rfl s18, trivial⟩ rfl (t_sat (fun _ h => h) (hK (bs18, cp19, bs22, cp23) ⟨hf0, hf1, hf2, hf3⟩))
      · -- behind
       rintro ⟨bs18, cp19, bs22, cp23⟩ hF
       try dsimp only at hF ⊢
       obtain ⟨hf0, hf1, hf2, hf3⟩ := hF
       have hok20 := hf0 rfl
       have hle21 := hf1 rfl
       have hok24 := hf2 rfl
       have hle25 := hf3 rfl
       refine t_weak (E' := [(0, (.int .i64 n)), (1, (.slice bp ps.length cp)), (2, (.slice bw ow.length cw)), (3, (.slice bm mw.length cm)), (8, (.bool false)), (9, (.bool true)), (10, (.pointer (some ⟨b1, 0, none⟩))), (11, (.pointer (some ⟨b14, 0, none⟩))), (12, (.int .i64 ((k1 + 1 : Nat) : Int))), (13, (.int .i64 ((i : Nat) : Int))), (14, (.int .i64 ((m : Nat) : Int))), (15, (.int .i64 ((T : Nat) : Int))), (16, (.int .i64 ((t : Nat) : Int))), (41, (.bool true)), (51, (.bool true)), (69, (.bool true))]) ⟨rfl, rfl, rfl, rfl, rfl, rfl, rfl, rfl, rfl, rfl, rfl, rfl, rfl, rfl, rfl, rfl, trivial⟩ ?_
       refine q_in_n ?_
       refine q_then_n (hK24 _ _ ?_)
       refine c_region ?_
       refine t_f1 ?_
       refine t_f1 ?_
       refine t_sat (fun _ h => Sat.shutIn (xs := (G2.getD i []) ++ [(es.getD i []).getD m 0]) (by first | rfl | (simp; done)) hok24 hle25 h) ?_
       refine t_sat (fun _ h => h.putRow (by omega) (by omega)) ?_
       refine tp rfl (lv_move rfl) ?_
       refine tp rfl (lv_add (c := ((t + 1 : Nat) : Int)) rfl rfl (wr_i64_succ (by omega))) ?_
       refine tp rfl (lv_assign rfl) ?_
       refine t_done ?_
       refine q_then_n ?_
       refine t_f6 ?_
       refine t_drop ?_
       exact t_weak (by exact ⟨rfl, rfl, rfl, rfl, rfl, rfl, rfl, rfl, rfl, rfl, rfl, rfl, rfl, rfl, rfl, trivial⟩) ((hK21 (t + 1, G2.set i ((G2.getD i []) ++ [(es.getD i []).getD m 0]), (vs2).set i (.slice bs22 (((G2.getD i []).length) + 1) cp23)) ⟨by dsimp only; omega, htw2.put (by omega), by simpa using hvl2⟩ (by dsimp only; omega)))
     · -- no
      refine tp rfl (lv_lss rfl rfl (decide_eq_false h17)) ?_
      refine t_done ?_
      refine q_then_n (hK23 _ _ ?_)
      refine c_false rfl ?_
      refine c_exit ?_
      refine q_then_x ?_
      refine q_then_x ?_
      refine q_in_x ?_
      refine q_in_n ?_
      refine q_then_n (hK16 _ _ ?_)
      refine c_region ?_
      refine tp rfl (lv_move rfl) ?_
      refine tp rfl (lv_add (c := ((m + 1 : Nat) : Int)) rfl rfl (wr_i64_succ (by omega))) ?_
      refine tp rfl (lv_assign rfl) ?_
      refine t_done ?_
      refine q_then_n ?_
      exact t_weak (by exact ⟨rfl, rfl, rfl, rfl, rfl, rfl, rfl, rfl, rfl, rfl, rfl, rfl, trivial⟩) ((hK13 (m + 1, k1 + 1, G2, vs2) ⟨by dsimp only; omega, by dsimp only; omega, htw2.edge (by omega) (by omega) (by omega), hvl2⟩ (by dsimp only; omega)))
    refine c_seq (fun K19 hK19 => ?_)
    refine c_region ?_
    refine tp rfl (lv_move rfl) ?_
    refine tp rfl (lv_move rfl) ?_
    refine tp rfl (lv_len Try.underlying35 rfl rfl) ?_
    by_cases h26 : ((k1 : Nat) : Int) < ((mw.length : Nat) : Int)
    · -- yes
     refine tp rfl (lv_lss rfl rfl (decide_eq_true h26)) ?_
     refine t_done ?_
     refine q_then_n (hK19 _ _ ?_)
     refine c_true rfl ?_
     refine c_region ?_
     have hgm := hgmw (mw.getD k1 0) (getD_mem_i (by omega))
     obtain ⟨tq, htq⟩ : ∃ tq : Nat, 1 + (mw.getD k1 0) % 3 = (tq : Int) := ⟨_, (Int.toNat_of_nonneg (by omega)).symm⟩
     refine tp rfl (lv_move rfl) ?_
     refine tp rfl (lv_move rfl) ?_
     refine tp rfl (lv_indexAddr (k' := k1) Try.underlying35 Try.sizeOf5 rfl rfl okm (by omega) (by omega) (by omega)) ?_
     refine tp rfl (lv_load Try.isAgg5 rfl (Rd.gives (Rd.cons (Rd.cons (Rd.cons (Rd.cons (Rd.cons (Rd.cons (hrm.cons.cons))))))) (ints_get (by omega)))) ?_
     refine tp rfl (lv_rem (c := ((mw).getD k1 0) % 3) rfl rfl (by omega) (Int.tmod_eq_emod_of_nonneg (by omega))) ?_
     refine tp rfl (lv_convert (c := ((mw).getD k1 0) % 3) Try.underlying5 Try.underlying3 rfl (wr_i64 (by omega) (by omega))) ?_
     refine tp rfl (lv_add (c := ((tq : Nat) : Int)) rfl rfl ((wr_i64 (by omega) (by omega)).trans htq)) ?_
     refine tp rfl (lv_assign rfl) ?_
     refine t_done ?_
     refine q_then_n ?_
     exact t_weak (by exact ⟨rfl, rfl, rfl, rfl, rfl, rfl, rfl, rfl, rfl, rfl, rfl, rfl, rfl, rfl, trivial⟩) (hM18 tq ⟨by omega, by omega⟩)
    · -- no
     refine tp rfl (lv_lss rfl rfl (decide_eq_false h26)) ?_
     refine t_done ?_
     refine q_then_n (hK19 _ _ ?_)
     refine c_false rfl ?_
     refine c_skip ?_
     refine q_then_n ?_
     exact t_weak (by exact ⟨rfl, rfl, rfl, rfl, rfl, rfl, rfl, rfl, rfl, rfl, rfl, rfl, rfl, rfl, trivial⟩) (hM18 1 ⟨by omega, by omega⟩)
   · -- no
    refine tp rfl (lv_lss rfl rfl (decide_eq_false h16)) ?_
    refine t_done ?_
    refine q_then_n (hK15 _ _ ?_)
    refine c_false rfl ?_
    refine c_exit ?_
    refine q_then_x ?_
    refine q_then_x ?_
    refine q_in_x ?_
    refine q_in_n ?_
    refine q_then_n (hK11 _ _ ?_)
    refine c_region ?_
    refine tp rfl (lv_move rfl) ?_
    refine tp rfl (lv_add (c := ((i + 1 : Nat) : Int)) rfl rfl (wr_i64_succ (by omega))) ?_
    refine tp rfl (lv_assign rfl) ?_
    refine t_done ?_
    refine q_then_n ?_
    exact t_weak (by exact ⟨rfl, rfl, rfl, rfl, rfl, rfl, rfl, rfl, rfl, rfl, trivial⟩) ((hK8 (i + 1, k1, G1, vs1) ⟨by dsimp only; omega, by dsimp only; omega, htw1.row (by omega), hvl1⟩ (by dsimp only; omega)))
  · -- no
   refine tp rfl (lv_lss rfl rfl (decide_eq_false h15)) ?_
   refine t_done ?_
   refine q_then_n (hK10 _ _ ?_)
   refine c_false rfl ?_
   refine c_exit ?_
   refine q_then_x ?_
   refine q_then_x ?_
   refine q_in_x ?_
   refine q_then_n (hK6 _ _ ?_)
   refine c_seq (fun K11 hK11 => ?_)
   refine c_region ?_
   have htN : Tw N es G N 0 0 := (show i = N by omega) ▸ htw
   have hfg := htN.fok hfo
   have hlg := htN.rows hr2
   have hgl := htN.len
   refine t_f5 ?_
   refine t_f5 ?_
   refine t_f4 ?_
   refine t_f4 ?_
   refine t_learn (fun _ h => gridR_own (L := (Join (rowsL vs G)) :: (SlV 23 1 (.slice bs2 N cp3) N vs) :: (SlV 23 1 (.slice bE N cE) N vsE) :: (Join (rowsL vsE es)) :: R) (.tail _ (.head _)) (.head _) (by omega) (h.drop.drop.drop.drop)) (fun hQ => ?_)
   have hQ0 := hQ
   obtain ⟨vsQ, hvlQ, hvsQ, hrowQ⟩ := hQ0
   refine tp rfl (lv_move rfl) ?_
   refine tp rfl (lv_move rfl) ?_
   refine tp rfl (lv_move rfl) ?_
   refine tc rfl (en_fn Try.call14 rfl) (made_ok n (N := N) hN ps ow (Rd.cons (Rd.cons (Rd.cons (Rd.cons ((hrp.cons.cons).cons.cons))))) okp (Rd.cons (Rd.cons (Rd.cons (Rd.cons ((hrw.cons.cons).cons.cons))))) okw hgp hgw (by omega) (by omega)) ?_
   rintro _ _ ⟨bW, cW, bWo, cWo, vsW, ⟨hokW, hleW, hokWo, hleWo, hvlW⟩, rfl, rfl⟩
   refine tm rfl (mv_alloc Try.zeroValue25 rfl) ?_
   rintro _ _ ⟨b27, rfl, rfl⟩
   refine ts (sv_blkAgg (news := [(.int .i64 ((N : Nat) : Int)), (.slice bW N cW), (.slice bWo N cWo)]) Try.sizeOf25 rfl rfl rfl rfl (Nat.le_of_ble_eq_true rfl) rfl) ?_
   refine t_done ?_
   refine q_then_n (hK11 _ _ ?_)
   refine c_seq (fun K12 hK12 => ?_)
   refine c_region ?_
   rw [hes, hown]
   refine t_f7 ?_
   refine t_f7 ?_
   refine t_f7 ?_
   refine t_f7 ?_
   refine t_f6 ?_
   refine t_f5 ?_
   refine t_learn (fun _ h => gridR_own (L := (SlV 23 1 (.slice bW N cW) N vsW) :: (Join (rowsL vsW es)) :: (Join (rowsL vs G)) :: (SlV 23 1 (.slice bs2 N cp3) N vs) :: (SlV 23 1 (.slice bE N cE) N vsE) :: (Join (rowsL vsE es)) :: R) (.head _) (.tail _ (.head _)) (by omega) (h.drop.drop.drop.drop.drop.drop)) (fun hV => ?_)
   have hV0 := hV
   obtain ⟨vsV, hvlV, hvsV, hrowV⟩ := hV0
   refine tp rfl (lv_loadAgg (cs := [(.int .i64 ((N : Nat) : Int)), (.slice bE N cE), (.slice bEo N cEo)]) Try.isAgg25 Try.sizeOf25 rfl (gives_all3 (gives_blk (.tail _ (.tail _ (.head _))) rfl) (gives_blk (.tail _ (.tail _ (.head _))) rfl) (gives_blk (.tail _ (.tail _ (.head _))) rfl))) ?_
   refine tc rfl (en_fn Try.call11 rfl) (of_ok (N := N) (es := es) (own := own) (hfo) ((((((((hG.cons.cons).cons.cons).cons).cons).cons).cons).cons).cons) hokE (rd_sl (.tail _ (.tail _ (.tail _ (.head _))))) hokEo hlx) ?_
   rintro _ _ ⟨bs28, cp29, hok30, hle31, rfl, rfl⟩
   refine tp rfl (lv_move rfl) ?_
   refine tp rfl (lv_extract rfl rfl) ?_
   refine tp rfl (lv_extract rfl rfl) ?_
   refine tp rfl (lv_assign rfl) ?_
   refine tp rfl (lv_assign rfl) ?_
   refine t_done ?_
   refine q_then_n (hK12 _ _ ?_)
   refine c_seq (fun K13 hK13 => ?_)
   refine c_region ?_
   refine tp rfl (lv_loadAgg (cs := [(.int .i64 ((N : Nat) : Int)), (.slice bs2 N cp3), (.slice bs10 N cp11)]) Try.isAgg25 Try.sizeOf25 rfl (gives_all3 (gives_blk (.tail _ (.tail _ (.tail _ (.tail _ (.tail _ (.tail _ (.head _))))))) rfl) (gives_blk (.tail _ (.tail _ (.tail _ (.tail _ (.tail _ (.tail _ (.head _))))))) rfl) (gives_blk (.tail _ (.tail _ (.tail _ (.tail _ (.tail _ (.tail _ (.head _))))))) rfl))) ?_
   refine tc rfl (en_fn Try.call11 rfl) (of_ok (N := N) (es := G) (own := own) (hfg) ((((((((hQ.cons.cons).cons).cons).cons).cons).cons).cons).cons) hok4 (rd_sl (.tail _ (.tail _ (.tail _ (.tail _ (.tail _ (.head _))))))) hok12 hlg) ?_
   rintro _ _ ⟨bs32, cp33, hok34, hle35, rfl, rfl⟩
   refine tp rfl (lv_move rfl) ?_
   refine tp rfl (lv_extract rfl rfl) ?_
   refine tp rfl (lv_extract rfl rfl) ?_
   refine tp rfl (lv_assign rfl) ?_
   refine tp rfl (lv_assign rfl) ?_
   refine t_done ?_
   refine q_then_n (hK13 _ _ ?_)
   refine c_seq (fun K14 hK14 => ?_)
   refine c_seq (fun K15 hK15 => ?_)
   refine c_region ?_
   rw [show verL G own = verL es own from mem_verL hfo hfg (htN.all hel)]
   have hvlv := (verL_len es own).trans hel
   refine tp rfl (lv_assign rfl) ?_
   refine t_done ?_
   refine q_then_n (hK15 _ _ ?_)
   refine c_block ?_
   refine c_loop (γ := (Nat)) (fun (j : Nat) => j ≤ N) (fun (j : Nat) => [(0, (.int .i64 n)), (1, (.slice bp ps.length cp)), (2, (.slice bw ow.length cw)), (3, (.slice bm mw.length cm)), (9, (.bool true)), (10, (.pointer (some ⟨b1, 0, none⟩))), (11, (.pointer (some ⟨b14, 0, none⟩))), (12, (.int .i64 ((kk : Nat) : Int))), (13, (.int .i64 ((i : Nat) : Int))), (17, (.pointer (some ⟨b27, 0, none⟩))), (18, (.slice bs28 N cp29)), (19, (.int .i64 0)), (20, (.slice bs32 N cp33)), (21, (.int .i64 0)), (22, (.int .i64 ((j : Nat) : Int))), (41, (.bool false))]) (fun (j : Nat) => (SlV 3 1 (.slice bs32 N cp33) N (ints .i64 (verL es own))) :: (SlV 3 1 (.slice bs28 N cp29) N (ints .i64 (verL es own))) :: (Blk b27 [(.int .i64 ((N : Nat) : Int)), (.slice bW N cW), (.slice bWo N cWo)] 25) :: (SlV 3 1 (.slice bWo N cWo) N (ints .i64 own)) :: (Blk b1 [(.int .i64 ((N : Nat) : Int)), (.slice bE N cE), (.slice bEo N cEo)] 25) :: (SlV 3 1 (.slice bEo N cEo) N (ints .i64 own)) :: (SlV 3 1 (.slice bs10 N cp11) N (ints .i64 own)) :: (Blk b14 [(.int .i64 ((N : Nat) : Int)), (.slice bs2 N cp3), (.slice bs10 N cp11)] 25) :: (SlV 23 1 (.slice bW N cW) N vsW) :: (Join (rowsL vsW es)) :: (Join (rowsL vs G)) :: (SlV 23 1 (.slice bs2 N cp3) N vs) :: (SlV 23 1 (.slice bE N cE) N vsE) :: (Join (rowsL vsE es)) :: R) (fun (j : Nat) => N - j) (0) (by omega) ⟨rfl, rfl, rfl, rfl, rfl, rfl, rfl, rfl, rfl, rfl, rfl, rfl, rfl, rfl, rfl, rfl, trivial⟩ (fun _ h => h) ?_
   rintro j K16 hF hK16
   try dsimp only at hF hK16 ⊢
   refine c_seq (fun K17 hK17 => ?_)
   refine c_seq (fun K18 hK18 => ?_)
   refine c_region ?_
   refine tp rfl (lv_move rfl) ?_
   refine tp rfl (lv_fieldAddr (o' := 0) Try.underlying25 rfl Try.sizeOf3 rfl rfl) ?_
   refine tp rfl (lv_load Try.isAgg3 rfl (gives_blk (.tail _ (.tail _ (.tail _ (.tail _ (.head _))))) rfl)) ?_
   by_cases h36 : ((j : Nat) : Int) < ((N : Nat) : Int)
   · -- yes
    refine tp rfl (lv_lss rfl rfl (decide_eq_true h36)) ?_
    refine t_done ?_
    refine q_then_n (hK18 _ _ ?_)
    refine c_true rfl ?_
    refine c_skip ?_
    refine q_then_n (hK17 _ _ ?_)
    refine c_seq (fun K19 hK19 => ?_)
    refine c_block ?_
    refine c_seq (fun K20 hK20 => ?_)
    obtain ⟨bx1, cx1, hokx1, hlex1, hvx1, hrx1⟩ := hrowG j (by omega)
    obtain ⟨by1, cy1, hoky1, hley1, hvy1, hry1⟩ := hrowV j (by omega)
    have hlk := hr2 j
    refine c_draw (γ := Unit) (n := 12) Try.mixed rfl rfl (fun _ S => True) (fun _ => [(0, 111, (.pointer (some ⟨b1, 1, none⟩))), (1, 112, (.slice bE N cE)), (2, 113, (.int .i64 ((j : Nat) : Int))), (3, 114, (.pointer (some (ad bE j)))), (4, 115, (.slice bx1 ((es.getD j []).length) cx1)), (5, 116, (.pointer (some ⟨b27, 1, none⟩))), (6, 117, (.slice bW N cW)), (7, 118, (.int .i64 ((j : Nat) : Int))), (8, 119, (.pointer (some (ad bW j)))), (9, 120, (.slice by1 ((es.getD j []).length) cy1)), (10, 121, (.bool true)), (11, 122, (.bool false))]) (fun _ S => (SlV 3 1 (.slice bs32 N cp33) N (ints .i64 (verL es own))) :: (SlV 3 1 (.slice bs28 N cp29) N (ints .i64 (verL es own))) :: (Blk b27 [(.int .i64 ((N : Nat) : Int)), (.slice bW N cW), (.slice bWo N cWo)] 25) :: (SlV 3 1 (.slice bWo N cWo) N (ints .i64 own)) :: (Blk b1 [(.int .i64 ((N : Nat) : Int)), (.slice bE N cE), (.slice bEo N cEo)] 25) :: (SlV 3 1 (.slice bEo N cEo) N (ints .i64 own)) :: (SlV 3 1 (.slice bs10 N cp11) N (ints .i64 own)) :: (Blk b14 [(.int .i64 ((N : Nat) : Int)), (.slice bs2 N cp3), (.slice bs10 N cp11)] 25) :: (SlV 23 1 (.slice bW N cW) N vsW) :: (Join (rowsL vsW es)) :: (Join (rowsL vs G)) :: (SlV 23 1 (.slice bs2 N cp3) N vs) :: (SlV 23 1 (.slice bE N cE) N vsE) :: (Join (rowsL vsE es)) :: R) (()) trivial (fun _ h => h) (fun _ _ h => h) ?_ ?_
    · -- steps
     refine ⟨?_, ?_, ?_, ?_, ?_, ?_, ?_, ?_, ?_, ?_, ?_, ?_, trivial⟩
     · -- 0
      rintro _ S hF hS D hp K hK
      try dsimp only at hF ⊢
      refine d_need (small := [(10, (.pointer (some ⟨b1, 0, none⟩)))]) ⟨look_b rfl rfl, trivial⟩ ?_
      refine tp rfl (lv_fieldAddr (o' := 1) Try.underlying25 rfl Try.sizeOf22 rfl rfl) ?_
      exact d_closes ⟨look_b rfl rfl, trivial⟩ 0 rfl rfl rfl hS (AgreeR.refl _) (t_sat (fun _ h => h) (hK () trivial))
     · -- 1
      rintro _ S hF hS D hp K hK
      try dsimp only at hF ⊢
      have s0 := hp 0 rfl
      refine d_need (small := [(111, (.pointer (some ⟨b1, 1, none⟩)))]) ⟨look_row rfl 0 rfl s0, trivial⟩ ?_
      refine tp rfl (lv_load Try.isAgg22 rfl (gives_blk (.tail _ (.tail _ (.tail _ (.tail _ (.head _))))) rfl)) ?_
      exact d_closes ⟨look_row rfl 0 rfl s0, trivial⟩ 1 rfl rfl rfl hS (AgreeR.refl _) (t_sat (fun _ h => h) (hK () trivial))
     · -- 2
      rintro _ S hF hS D hp K hK
      try dsimp only at hF ⊢
      refine d_need (small := [(22, (.int .i64 ((j : Nat) : Int)))]) ⟨look_b rfl rfl, trivial⟩ ?_
      refine tp rfl (lv_move rfl) ?_
      exact d_closes ⟨look_b rfl rfl, trivial⟩ 2 rfl rfl rfl hS (AgreeR.refl _) (t_sat (fun _ h => h) (hK () trivial))
     · -- 3
      rintro _ S hF hS D hp K hK
      try dsimp only at hF ⊢
      have s1 := hp 1 rfl
      have s2 := hp 2 rfl
      refine d_need (small := [(112, (.slice bE N cE)), (113, (.int .i64 ((j : Nat) : Int)))]) ⟨look_row rfl 1 rfl s1, look_row rfl 2 rfl s2, trivial⟩ ?_
      refine tp rfl (lv_indexAddr (k' := j) Try.underlying22 Try.sizeOf23 rfl rfl hokE (by omega) (by omega) (by omega)) ?_
      exact d_closes ⟨look_row rfl 1 rfl s1, look_row rfl 2 rfl s2, trivial⟩ 3 rfl rfl rfl hS (AgreeR.refl _) (t_sat (fun _ h => h) (hK () trivial))
     · -- 4
      rintro _ S hF hS D hp K hK
      try dsimp only at hF ⊢
      have s3 := hp 3 rfl
      refine d_need (small := [(114, (.pointer (some (ad bE j))))]) ⟨look_row rfl 3 rfl s3, trivial⟩ ?_
      refine tp rfl (lv_load Try.isAgg23 rfl (gives_as hvx1 (Rd.gives (Rd.cons (Rd.cons (Rd.cons (Rd.cons (Rd.cons (Rd.cons (Rd.cons (Rd.cons ((hvsG.cons.cons).cons.cons))))))))) (vals_get (by omega))))) ?_
      exact d_closes ⟨look_row rfl 3 rfl s3, trivial⟩ 4 rfl rfl rfl hS (AgreeR.refl _) (t_sat (fun _ h => h) (hK () trivial))
     · -- 5
      rintro _ S hF hS D hp K hK
      try dsimp only at hF ⊢
      refine d_need (small := [(17, (.pointer (some ⟨b27, 0, none⟩)))]) ⟨look_b rfl rfl, trivial⟩ ?_
      refine tp rfl (lv_fieldAddr (o' := 1) Try.underlying25 rfl Try.sizeOf22 rfl rfl) ?_
      exact d_closes ⟨look_b rfl rfl, trivial⟩ 5 rfl rfl rfl hS (AgreeR.refl _) (t_sat (fun _ h => h) (hK () trivial))
     · -- 6
      rintro _ S hF hS D hp K hK
      try dsimp only at hF ⊢
      have s5 := hp 5 rfl
      refine d_need (small := [(116, (.pointer (some ⟨b27, 1, none⟩)))]) ⟨look_row rfl 5 rfl s5, trivial⟩ ?_
      refine tp rfl (lv_load Try.isAgg22 rfl (gives_blk (.tail _ (.tail _ (.head _))) rfl)) ?_
      exact d_closes ⟨look_row rfl 5 rfl s5, trivial⟩ 6 rfl rfl rfl hS (AgreeR.refl _) (t_sat (fun _ h => h) (hK () trivial))
     · -- 7
      rintro _ S hF hS D hp K hK
      try dsimp only at hF ⊢
      refine d_need (small := [(22, (.int .i64 ((j : Nat) : Int)))]) ⟨look_b rfl rfl, trivial⟩ ?_
      refine tp rfl (lv_move rfl) ?_
      exact d_closes ⟨look_b rfl rfl, trivial⟩ 7 rfl rfl rfl hS (AgreeR.refl _) (t_sat (fun _ h => h) (hK () trivial))
     · -- 8
      rintro _ S hF hS D hp K hK
      try dsimp only at hF ⊢
      have s6 := hp 6 rfl
      have s7 := hp 7 rfl
      refine d_need (small := [(117, (.slice bW N cW)), (118, (.int .i64 ((j : Nat) : Int)))]) ⟨look_row rfl 6 rfl s6, look_row rfl 7 rfl s7, trivial⟩ ?_
      refine tp rfl (lv_indexAddr (k' := j) Try.underlying22 Try.sizeOf23 rfl rfl hokW (by omega) (by omega) (by omega)) ?_
      exact d_closes ⟨look_row rfl 6 rfl s6, look_row rfl 7 rfl s7, trivial⟩ 8 rfl rfl rfl hS (AgreeR.refl _) (t_sat (fun _ h => h) (hK () trivial))
     · -- 9
      rintro _ S hF hS D hp K hK
      try dsimp only at hF ⊢
      have s8 := hp 8 rfl
      refine d_need (small := [(119, (.pointer (some (ad bW j))))]) ⟨look_row rfl 8 rfl s8, trivial⟩ ?_
      refine tp rfl (lv_load Try.isAgg23 rfl (gives_as hvy1 (Rd.gives (Rd.cons (Rd.cons (Rd.cons (Rd.cons (Rd.cons (Rd.cons (Rd.cons (Rd.cons hvsV)))))))) (vals_get (by omega))))) ?_
      exact d_closes ⟨look_row rfl 8 rfl s8, trivial⟩ 9 rfl rfl rfl hS (AgreeR.refl _) (t_sat (fun _ h => h) (hK () trivial))
     · -- 10
      rintro _ S hF hS D hp K hK
      try dsimp only at hF ⊢
      have s4 := hp 4 rfl
      have s9 := hp 9 rfl
      refine d_need (small := [(115, (.slice bx1 ((es.getD j []).length) cx1)), (120, (.slice by1 ((es.getD j []).length) cy1))]) ⟨look_row rfl 4 rfl s4, look_row rfl 9 rfl s9, trivial⟩ ?_
      refine tc rfl (en_fn Try.call13 rfl) (ints_ok (es.getD j []) (es.getD j []) (Rd.cons (Rd.cons (Rd.cons (Rd.cons (Rd.cons (Rd.cons (Rd.cons (Rd.cons hrx1.cons.cons.cons.cons)))))))) (Rd.cons (Rd.cons (Rd.cons (Rd.cons (Rd.cons (Rd.cons (Rd.cons (Rd.cons hry1)))))))) hokx1 hoky1 (by first | omega | (simp; omega) | (simp; done)) (by first | omega | (simp; omega) | (simp; done))) ?_
      rintro _ _ ⟨rfl, rfl⟩
      rw [eqI_refl]
      exact d_closes ⟨look_row rfl 4 rfl s4, look_row rfl 9 rfl s9, trivial⟩ 10 rfl rfl rfl hS (AgreeR.refl _) (t_sat (fun _ h => h) (hK () trivial))
     · -- 11
      rintro _ S hF hS D hp K hK
      try dsimp only at hF ⊢
      have s10 := hp 10 rfl
      refine d_need (small := [(121, (.bool true))]) ⟨look_row rfl 10 rfl s10, trivial⟩ ?_
      refine tp rfl (lv_not (c := false) rfl rfl) ?_
      exact d_closes ⟨look_row rfl 10 rfl s10, trivial⟩ 11 rfl rfl rfl hS (AgreeR.refl _) (t_sat (fun _ h => h) (hK () trivial))
    · -- behind
     rintro _ hF
     try dsimp only at hF ⊢
     refine t_weak (E' := [(0, (.int .i64 n)), (1, (.slice bp ps.length cp)), (2, (.slice bw ow.length cw)), (3, (.slice bm mw.length cm)), (9, (.bool true)), (10, (.pointer (some ⟨b1, 0, none⟩))), (11, (.pointer (some ⟨b14, 0, none⟩))), (12, (.int .i64 ((kk : Nat) : Int))), (13, (.int .i64 ((i : Nat) : Int))), (17, (.pointer (some ⟨b27, 0, none⟩))), (18, (.slice bs28 N cp29)), (19, (.int .i64 0)), (20, (.slice bs32 N cp33)), (21, (.int .i64 0)), (22, (.int .i64 ((j : Nat) : Int))), (41, (.bool false)), (108, (.bool true)), (122, (.bool false))]) ⟨rfl, rfl, rfl, rfl, rfl, rfl, rfl, rfl, rfl, rfl, rfl, rfl, rfl, rfl, rfl, rfl, rfl, rfl, trivial⟩ ?_
     refine q_then_n (hK20 _ _ ?_)
     refine c_false rfl ?_
     refine c_skip ?_
     refine q_in_n ?_
     refine q_then_n (hK19 _ _ ?_)
     refine c_region ?_
     refine tp rfl (lv_move rfl) ?_
     refine tp rfl (lv_add (c := ((j + 1 : Nat) : Int)) rfl rfl (wr_i64_succ (by omega))) ?_
     refine tp rfl (lv_assign rfl) ?_
     refine t_done ?_
     refine q_then_n ?_
     exact t_weak (by exact ⟨rfl, rfl, rfl, rfl, rfl, rfl, rfl, rfl, rfl, rfl, rfl, rfl, rfl, rfl, rfl, rfl, trivial⟩) ((hK16 (j + 1) (by omega) (by omega)))
   · -- no
    refine tp rfl (lv_lss rfl rfl (decide_eq_false h36)) ?_
    refine t_done ?_
    refine q_then_n (hK18 _ _ ?_)
    refine c_false rfl ?_
    refine c_exit ?_
    refine q_then_x ?_
    refine q_then_x ?_
    refine q_in_x ?_
    refine q_then_n (hK14 _ _ ?_)
    refine c_seq (fun K19 hK19 => ?_)
    refine c_region ?_
    refine tp rfl (lv_move rfl) ?_
    refine tp rfl (lv_move rfl) ?_
    refine t_guard rfl rfl ?_
    refine tp rfl (lv_move rfl) ?_
    refine t_guard rfl rfl ?_
    refine tp rfl (lv_eql (r := true) rfl rfl (by decide)) ?_
    refine tp rfl (lv_pick_t rfl rfl) ?_
    refine tp rfl (lv_move rfl) ?_
    refine t_guard rfl rfl ?_
    refine tp rfl (lv_move rfl) ?_
    refine t_guard rfl rfl ?_
    refine tp rfl (lv_eql (r := true) rfl rfl (by decide)) ?_
    refine tp rfl (lv_pick_t rfl rfl) ?_
    refine tp rfl (lv_move rfl) ?_
    refine t_guard rfl rfl ?_
    refine tp rfl (lv_move rfl) ?_
    refine t_guard rfl rfl ?_
    refine tp rfl (lv_move rfl) ?_
    refine t_guard rfl rfl ?_
    refine tc rfl (en_fn Try.call13 rfl) (ints_n (verL es own) (verL es own) hvlv hvlv (rd_sl (.tail _ (.head _))) (rd_sl (.head _)) hok30 hok34 (by first | omega | (simp; omega) | (simp; done)) (by first | omega | (simp; omega) | (simp; done))) ?_
    rintro _ _ ⟨rfl, rfl⟩
    rw [eqI_refl]
    refine tp rfl (lv_pick_t rfl rfl) ?_
    refine tp rfl (lv_move rfl) ?_
    refine t_guard rfl rfl ?_
    refine tp rfl (lv_fieldAddr (o' := 2) Try.underlying25 rfl Try.sizeOf23 rfl rfl) ?_
    refine t_guard rfl rfl ?_
    refine tp rfl (lv_load Try.isAgg23 rfl (gives_blk (.tail _ (.tail _ (.tail _ (.tail _ (.head _))))) rfl)) ?_
    refine t_guard rfl rfl ?_
    refine tp rfl (lv_fieldAddr (o' := 2) Try.underlying25 rfl Try.sizeOf23 rfl rfl) ?_
    refine t_guard rfl rfl ?_
    refine tp rfl (lv_load Try.isAgg23 rfl (gives_blk (.tail _ (.tail _ (.head _))) rfl)) ?_
    refine t_guard rfl rfl ?_
    refine tc rfl (en_fn Try.call13 rfl) (ints_n own own hol hol (rd_sl (.tail _ (.tail _ (.tail _ (.tail _ (.tail _ (.head _))))))) (rd_sl (.tail _ (.tail _ (.tail _ (.head _))))) hokEo hokWo (by first | omega | (simp; omega) | (simp; done)) (by first | omega | (simp; omega) | (simp; done))) ?_
    rintro _ _ ⟨rfl, rfl⟩
    rw [eqI_refl]
    refine tp rfl (lv_pick_t rfl rfl) ?_
    refine tp rfl (lv_assign rfl) ?_
    refine t_done ?_
    refine q_then_n (hK19 _ _ ?_)
    refine c_ret ?_
    refine t_drop ?_
    refine t_drop ?_
    refine t_drop ?_
    refine t_drop ?_
    refine t_drop ?_
    refine t_drop ?_
    refine t_drop ?_
    refine t_drop ?_
    refine t_drop ?_
    refine t_drop ?_
    refine t_drop ?_
    refine t_drop ?_
    refine t_drop ?_
    refine t_drop ?_
    refine q_ret rfl rfl ?_
    exact ⟨rfl, rfl⟩
end Go.Proofs.Ytljnaefaahphaaa
