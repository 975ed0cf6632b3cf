/- The document's row: End. -/
import Derived.Test.YthhmdcbhgnoemaaRc
set_option maxRecDepth 100000
set_option linter.unusedVariables false
set_option linter.unusedSimpArgs false
namespace Go.Proofs.Ythhmdcbhgnoemaa
open Go Go.Proofs Sp
set_option maxHeartbeats 4000000 in
theorem rend_ok {R : List HP} {p : Nat} {A Q : Int} {s : AS} (h : AOk (max A 1) (max Q 0) s) (x : Int) (hA : -9223372036854775808 ≤ A ∧ A ≤ 9223372036854775807) (hl : (rowOf s).length ≤ 1000) :
    Ok Try.prog 15 [(.pointer (some ⟨p, 0, none⟩)), (.int .i64 x)] ((RowO p A Q (rowOf s)) :: R)
      (fun v M => v = .tuple #[.int .i64 (endV s x), .int .i64 (endEr s x)] ∧ M = RowO p A Q (rowOf (endS s x)) :: R) := by
  refine ok_of (N := 51) Try.func15 rfl rfl rfl (fun W => ?_)
  refine t_openRow (fun bs1 cp2 hok3 hle4 => ?_)
  refine c_seq (fun K1 hK1 => ?_)
  refine c_region ?_
  refine tp rfl (lv_assign rfl) ?_
  refine tp rfl (lv_assign rfl) ?_
  refine t_done ?_
  refine q_then_n (hK1 _ _ ?_)
  refine c_seq (fun K2 hK2 => ?_)
  refine c_region ?_
  refine tp rfl (lv_move rfl) ?_
  refine tp rfl (lv_move rfl) ?_
  refine t_f1 ?_
  refine t_f1 ?_
  refine tc rfl (en_fn Try.call23 rfl) (rfind_ok (A := A) (Q := Q) (l := rowOf s) x hok3 (by omega)) ?_
  rintro _ _ ⟨rfl, rfl⟩
  refine tp rfl (lv_assign rfl) ?_
  refine t_done ?_
  refine q_then_n (hK2 _ _ ?_)
  refine c_seq (fun K3 hK3 => ?_)
  refine c_seq (fun K4 hK4 => ?_)
  rcases ht : there s x with _ | _
  · -- false
    have hi : idxF (fun y => decide (x = y)) (rowOf s) = -1 := idx_out (fun hm => by rw [mem_rowOf.1 hm] at ht; cases ht)
    refine c_region ?_
    refine tp rfl (lv_move rfl) ?_
    refine tp rfl (lv_lss rfl rfl (decide_eq_true (by omega))) ?_
    refine t_done ?_
    refine q_then_n (hK4 _ _ ?_)
    refine c_true rfl ?_
    refine c_seq (fun K5 hK5 => ?_)
    refine c_region ?_
    refine tp rfl (lv_assign rfl) ?_
    refine tp rfl (lv_assign rfl) ?_
    refine t_done ?_
    refine q_then_n (hK5 _ _ ?_)
    refine c_ret ?_
    refine q_then_r ?_
    refine t_f1 ?_
    refine t_f1 ?_
    refine t_shutRow hok3 hle4 ?_
    refine q_ret2 rfl rfl rfl ?_
    have hs : endS s x = s := endS_same (fun hh => by rw [endEr_zero.1 hh] at ht; cases ht)
    rw [hs]
    exact ⟨by simp only [there, Bool.or_eq_false_iff] at ht; unfold endV endEr there; rw [ht.1, ht.2]; rfl, rfl⟩
  · -- true
    have hin := idx_in (mem_rowOf.2 ht)
    obtain ⟨k, hk⟩ : ∃ k : Nat, idxF (fun y => decide (x = y)) (rowOf s) = (k : Int) := ⟨(idxF (fun y => decide (x = y)) (rowOf s)).toNat, by omega⟩
    rw [hk]
    have hkl : k < (rowOf s).length := by rw [hk] at hin; omega
    obtain ⟨e1, e2, e3⟩ := row_end h ht hk
    have hact := find_active ht h.nodup
    rw [hk] at hact
    have hsp := split_len h
    refine c_region ?_
    refine tp rfl (lv_move rfl) ?_
    refine tp rfl (lv_lss rfl rfl (decide_eq_false (by omega))) ?_
    refine t_done ?_
    refine q_then_n (hK4 _ _ ?_)
    refine c_false rfl ?_
    refine c_skip ?_
    refine q_then_n (hK3 _ _ ?_)
    refine c_seq (fun K5 hK5 => ?_)
    refine c_region ?_
    refine tp rfl (lv_move rfl) ?_
    refine t_f1 ?_
    refine t_f1 ?_
    refine tc rfl (en_fn Try.call20 rfl) (rsplit_ok (A := A) (Q := Q) (l := rowOf s) (by omega)) ?_
    rintro _ _ ⟨rfl, rfl⟩
    rw [show min (((rowOf s).length : Nat) : Int) (max A 1) = ((s.a.length : Nat) : Int) from hsp]
    refine tp rfl (lv_assign rfl) ?_
    refine t_done ?_
    refine q_then_n (hK5 _ _ ?_)
    refine c_seq (fun K6 hK6 => ?_)
    refine c_draw (γ := Option Addr × Nat × Option Addr × Nat × Option Addr × Nat) (n := 20) Try.mixed rfl rfl (fun (bs5, cp6, bs9, cp10, bs13, cp14) S => (S 1 = true → SlOk bs5 0) ∧ (S 1 = true → 0 ≤ cp6) ∧ (S 8 = true → SlOk bs9 k) ∧ (S 8 = true → k ≤ cp10) ∧ (S 16 = true → SlOk bs13 (k + (((rowOf s).length) - (k + 1)))) ∧ (S 16 = true → k + (((rowOf s).length) - (k + 1)) ≤ cp14)) (fun (bs5, cp6, bs9, cp10, bs13, cp14) => [(0, 15, (.pointer (some ⟨p, 0, none⟩))), (1, 16, (.slice bs5 0 cp6)), (2, 17, (.pointer (some ⟨p, 0, none⟩))), (3, 18, (.pointer (some ⟨p, 0, none⟩))), (4, 19, (.pointer (some ⟨p, 2, none⟩))), (5, 20, (.slice bs1 ((rowOf s).length) cp2)), (6, 21, (.int .i64 ((k : Nat) : Int))), (7, 22, (.slice bs1 k cp2)), (8, 23, (.slice bs9 k cp10)), (9, 24, (.pointer (some ⟨p, 0, none⟩))), (10, 25, (.pointer (some ⟨p, 0, none⟩))), (11, 26, (.pointer (some ⟨p, 2, none⟩))), (12, 27, (.slice bs1 ((rowOf s).length) cp2)), (13, 28, (.int .i64 ((k : Nat) : Int))), (14, 29, (.int .i64 ((k + 1 : Nat) : Int))), (15, 30, (.slice (sbase bs1 (k + 1) cp2 1) (((rowOf s).length) - (k + 1)) (cp2 - (k + 1)))), (16, 31, (.slice bs13 (k + (((rowOf s).length) - (k + 1))) cp14)), (17, 32, (.pointer (some ⟨p, 0, none⟩))), (18, 33, (.pointer (some ⟨p, 2, none⟩)))]) (fun (bs5, cp6, bs9, cp10, bs13, cp14) S => (bif S 19 then (Blk p [(.int .i64 A), (.int .i64 Q), (.slice bs13 (k + (((rowOf s).length) - (k + 1))) cp14)] 29) else (Blk p [(.int .i64 A), (.int .i64 Q), (.slice bs1 ((rowOf s).length) cp2)] 29)) :: (SlV 3 1 (.slice bs1 ((rowOf s).length) cp2) ((rowOf s).length) (ints .i64 (rowOf s))) :: (bif S 16 then (SlV 3 1 (.slice bs13 (k + (((rowOf s).length) - (k + 1))) cp14) (k + (((rowOf s).length) - (k + 1))) (ints .i64 (((rowOf s).take k) ++ ((rowOf s).drop (k + 1))))) else (bif S 8 then (SlV 3 1 (.slice bs9 k cp10) k (ints .i64 ((rowOf s).take k))) else (bif S 1 then (SlV 3 1 (.slice bs5 0 cp6) 0 []) else Emp))) :: R) (none, 0, none, 0, none, 0) (by simp [Nat.ble]) (fun _ h => sat_emps [_, _] 1 h) (fun _ _ h => h) ?_ ?_
    · -- steps
      refine ⟨?_, ?_, ?_, ?_, ?_, ?_, ?_, ?_, ?_, ?_, ?_, ?_, ?_, ?_, ?_, ?_, ?_, ?_, ?_, ?_, trivial⟩
      · -- 0
        rintro ⟨bs5, cp6, bs9, cp10, bs13, cp14⟩ S hF hS D hp K hK
        try dsimp only at hF ⊢
        obtain ⟨hf0, hf1, hf2, hf3, hf4, hf5⟩ := hF
        refine d_need (small := [(0, (.pointer (some ⟨p, 0, none⟩)))]) ⟨look_b rfl rfl, trivial⟩ ?_
        refine tp rfl (lv_move rfl) ?_
        exact d_closes ⟨look_b rfl rfl, trivial⟩ 0 rfl rfl rfl hS (AgreeR.refl _) (t_sat (fun _ h => h) (hK (bs5, cp6, bs9, cp10, bs13, cp14) ⟨hf0, hf1, hf2, hf3, hf4, hf5⟩))
      · -- 1
        rintro ⟨bs5, cp6, bs9, cp10, bs13, cp14⟩ S hF hS D hp K hK
        try dsimp only at hF ⊢
        obtain ⟨hf0, hf1, hf2, hf3, hf4, hf5⟩ := hF
        refine d_need (small := []) trivial ?_
        refine tm rfl (mv_buildSlice (cs := []) Try.underlying27 Try.sizeOf3 Try.zeroValue3 (by decide) rfl rfl rfl rfl) ?_
        rintro _ _ ⟨bs5, cp6, hok7, hle8, rfl, rfl⟩
        refine t_wF (A := (SlV 3 1 (.slice bs9 k cp10) k (ints .i64 ((rowOf s).take k)))) (nf hS D (k := 8) (i := 1) rfl) ?_
        refine t_wF (A := (SlV 3 1 (.slice bs13 (k + (((rowOf s).length) - (k + 1))) cp14) (k + (((rowOf s).length) - (k + 1))) (ints .i64 (((rowOf s).take k) ++ ((rowOf s).drop (k + 1)))))) (nf (nf hS D (k := 8) (i := 1) rfl) D (k := 16) (i := 8) rfl) ?_
        refine t_sat (fun _ h => sat_put [_, _] h) ?_
        exact d_closes trivial 1 rfl rfl rfl hS (by exact ⟨.inl rfl, .inr ⟨rfl, rfl, hS⟩, .inl rfl, .inl rfl, .inl rfl, .inl rfl, .inl rfl, .inl rfl, .inl rfl, .inl rfl, .inl rfl, .inl rfl, .inl rfl, .inl rfl, .inl rfl, .inl rfl, .inl rfl, .inl rfl, .inl rfl, trivial⟩) (t_sat (fun _ h => h) (hK (bs5, cp6, bs9, cp10, bs13, cp14) ⟨(fun _ => hok7), (fun _ => hle8), hf2, hf3, hf4, hf5⟩))
      · -- 2
        rintro ⟨bs5, cp6, bs9, cp10, bs13, cp14⟩ S hF hS D hp K hK
        try dsimp only at hF ⊢
        obtain ⟨hf0, hf1, hf2, hf3, hf4, hf5⟩ := hF
        refine d_need (small := [(0, (.pointer (some ⟨p, 0, none⟩)))]) ⟨look_b rfl rfl, trivial⟩ ?_
        refine tp rfl (lv_move rfl) ?_
        exact d_closes ⟨look_b rfl rfl, trivial⟩ 2 rfl rfl rfl hS (AgreeR.refl _) (t_sat (fun _ h => h) (hK (bs5, cp6, bs9, cp10, bs13, cp14) ⟨hf0, hf1, hf2, hf3, hf4, hf5⟩))
      · -- 3
        rintro ⟨bs5, cp6, bs9, cp10, bs13, cp14⟩ S hF hS D hp K hK
        try dsimp only at hF ⊢
        obtain ⟨hf0, hf1, hf2, hf3, hf4, hf5⟩ := hF
        have s2 := hp 2 rfl
        refine d_need (small := [(17, (.pointer (some ⟨p, 0, none⟩)))]) ⟨look_row rfl 2 rfl s2, trivial⟩ ?_
        refine tp rfl (lv_nilCheck rfl) ?_
        exact d_closes ⟨look_row rfl 2 rfl s2, trivial⟩ 3 rfl rfl rfl hS (AgreeR.refl _) (t_sat (fun _ h => h) (hK (bs5, cp6, bs9, cp10, bs13, cp14) ⟨hf0, hf1, hf2, hf3, hf4, hf5⟩))
      · -- 4
        rintro ⟨bs5, cp6, bs9, cp10, bs13, cp14⟩ S hF hS D hp K hK
        try dsimp only at hF ⊢
        obtain ⟨hf0, hf1, hf2, hf3, hf4, hf5⟩ := hF
        have s3 := hp 3 rfl
        refine d_need (small := [(18, (.pointer (some ⟨p, 0, none⟩)))]) ⟨look_row rfl 3 rfl s3, trivial⟩ ?_
        refine tp rfl (lv_fieldAddr (o' := 2) Try.underlying29 rfl Try.sizeOf27 rfl rfl) ?_
        exact d_closes ⟨look_row rfl 3 rfl s3, trivial⟩ 4 rfl rfl rfl hS (AgreeR.refl _) (t_sat (fun _ h => h) (hK (bs5, cp6, bs9, cp10, bs13, cp14) ⟨hf0, hf1, hf2, hf3, hf4, hf5⟩))
      · -- 5
        rintro ⟨bs5, cp6, bs9, cp10, bs13, cp14⟩ S hF hS D hp K hK
        try dsimp only at hF ⊢
        obtain ⟨hf0, hf1, hf2, hf3, hf4, hf5⟩ := hF
        have s4 := hp 4 rfl
        refine d_need (small := [(19, (.pointer (some ⟨p, 2, none⟩)))]) ⟨look_row rfl 4 rfl s4, trivial⟩ ?_
        refine tp rfl (lv_load Try.isAgg27 rfl (gives_blk (mem_cF (nf hS D (k := 19) (i := 5) rfl) (.head _)) rfl)) ?_
        exact d_closes ⟨look_row rfl 4 rfl s4, trivial⟩ 5 rfl rfl rfl hS (AgreeR.refl _) (t_sat (fun _ h => h) (hK (bs5, cp6, bs9, cp10, bs13, cp14) ⟨hf0, hf1, hf2, hf3, hf4, hf5⟩))
      · -- 6
        rintro ⟨bs5, cp6, bs9, cp10, bs13, cp14⟩ S hF hS D hp K hK
        try dsimp only at hF ⊢
        obtain ⟨hf0, hf1, hf2, hf3, hf4, hf5⟩ := hF
        refine d_need (small := [(6, (.int .i64 ((k : Nat) : Int)))]) ⟨look_b rfl rfl, trivial⟩ ?_
        refine tp rfl (lv_move rfl) ?_
        exact d_closes ⟨look_b rfl rfl, trivial⟩ 6 rfl rfl rfl hS (AgreeR.refl _) (t_sat (fun _ h => h) (hK (bs5, cp6, bs9, cp10, bs13, cp14) ⟨hf0, hf1, hf2, hf3, hf4, hf5⟩))
      · -- 7
        rintro ⟨bs5, cp6, bs9, cp10, bs13, cp14⟩ S hF hS D hp K hK
        try dsimp only at hF ⊢
        obtain ⟨hf0, hf1, hf2, hf3, hf4, hf5⟩ := hF
        have s5 := hp 5 rfl
        have s6 := hp 6 rfl
        refine d_need (small := [(20, (.slice bs1 ((rowOf s).length) cp2)), (21, (.int .i64 ((k : Nat) : Int)))]) ⟨look_row rfl 5 rfl s5, look_row rfl 6 rfl s6, trivial⟩ ?_
        refine tp rfl (lv_slice (l := 0) (h := k) (m := cp2) (v := (.slice bs1 k cp2)) Try.underlying27 Try.sizeOf3 rfl rfl rfl rfl (.inr ⟨rfl, rfl⟩) (.inl ⟨_, _, rfl, (by omega), (by omega), (by omega)⟩) (.inr ⟨rfl, rfl⟩) (by simp) (by rw [sbase_zero]; rfl)) ?_
        exact d_closes ⟨look_row rfl 5 rfl s5, look_row rfl 6 rfl s6, trivial⟩ 7 rfl rfl rfl hS (AgreeR.refl _) (t_sat (fun _ h => h) (hK (bs5, cp6, bs9, cp10, bs13, cp14) ⟨hf0, hf1, hf2, hf3, hf4, hf5⟩))
      · -- 8
        rintro ⟨bs5, cp6, bs9, cp10, bs13, cp14⟩ S hF hS D hp K hK
        try dsimp only at hF ⊢
        obtain ⟨hf0, hf1, hf2, hf3, hf4, hf5⟩ := hF
        have s1 := hp 1 rfl
        have hok7 := hf0 s1
        have hle8 := hf1 s1
        have s7 := hp 7 rfl
        refine d_need (small := [(16, (.slice bs5 0 cp6)), (22, (.slice bs1 k cp2))]) ⟨look_row rfl 1 rfl s1, look_row rfl 7 rfl s7, trivial⟩ ?_
        refine t_f2 ?_
        refine t_cF (nf hS D (k := 16) (i := 8) rfl) ?_
        refine t_cF hS ?_
        refine t_cT s1 ?_
        refine tm rfl (mv_append (i := Try.t3) Try.underlying27 Try.type3 rfl rfl rfl (by decide) rfl rfl (fun hz => hok3 (by omega)) (by first | (simp; done) | (simp; omega)) (rd_tk_ints k (rd_sl (.tail _ (.tail _ (.head _))))) ints_one (by rw [show Try.t3.bytes = 8 from rfl]; omega)) ?_
        rintro _ _ ⟨bs9, cp10, hok11, hle12, rfl, rfl⟩
        simp only [Nat.zero_add] at hok11 hle12 ⊢
        rw [List.nil_append]
        refine t_wF (A := (SlV 3 1 (.slice bs13 (k + (((rowOf s).length) - (k + 1))) cp14) (k + (((rowOf s).length) - (k + 1))) (ints .i64 (((rowOf s).take k) ++ ((rowOf s).drop (k + 1)))))) (nf hS D (k := 16) (i := 8) rfl) ?_
        refine t_f2 ?_
        refine t_f2 ?_
        exact d_closes ⟨look_row rfl 1 rfl s1, look_row rfl 7 rfl s7, trivial⟩ 8 rfl rfl rfl hS (by exact ⟨.inl rfl, .inl rfl, .inl rfl, .inl rfl, .inl rfl, .inl rfl, .inl rfl, .inl rfl, .inr ⟨rfl, rfl, hS⟩, .inl rfl, .inl rfl, .inl rfl, .inl rfl, .inl rfl, .inl rfl, .inl rfl, .inl rfl, .inl rfl, .inl rfl, trivial⟩) (t_sat (fun _ h => h) (hK (bs5, cp6, bs9, cp10, bs13, cp14) ⟨hf0, hf1, (fun _ => hok11), (fun _ => hle12), hf4, hf5⟩))
      · -- 9
        rintro ⟨bs5, cp6, bs9, cp10, bs13, cp14⟩ S hF hS D hp K hK
        try dsimp only at hF ⊢
        obtain ⟨hf0, hf1, hf2, hf3, hf4, hf5⟩ := hF
        refine d_need (small := [(0, (.pointer (some ⟨p, 0, none⟩)))]) ⟨look_b rfl rfl, trivial⟩ ?_
        refine tp rfl (lv_move rfl) ?_
        exact d_closes ⟨look_b rfl rfl, trivial⟩ 9 rfl rfl rfl hS (AgreeR.refl _) (t_sat (fun _ h => h) (hK (bs5, cp6, bs9, cp10, bs13, cp14) ⟨hf0, hf1, hf2, hf3, hf4, hf5⟩))
      · -- 10
        rintro ⟨bs5, cp6, bs9, cp10, bs13, cp14⟩ S hF hS D hp K hK
        try dsimp only at hF ⊢
        obtain ⟨hf0, hf1, hf2, hf3, hf4, hf5⟩ := hF
        have s9 := hp 9 rfl
        refine d_need (small := [(24, (.pointer (some ⟨p, 0, none⟩)))]) ⟨look_row rfl 9 rfl s9, trivial⟩ ?_
        refine tp rfl (lv_nilCheck rfl) ?_
        exact d_closes ⟨look_row rfl 9 rfl s9, trivial⟩ 10 rfl rfl rfl hS (AgreeR.refl _) (t_sat (fun _ h => h) (hK (bs5, cp6, bs9, cp10, bs13, cp14) ⟨hf0, hf1, hf2, hf3, hf4, hf5⟩))
      · -- 11
        rintro ⟨bs5, cp6, bs9, cp10, bs13, cp14⟩ S hF hS D hp K hK
        try dsimp only at hF ⊢
        obtain ⟨hf0, hf1, hf2, hf3, hf4, hf5⟩ := hF
        have s10 := hp 10 rfl
        refine d_need (small := [(25, (.pointer (some ⟨p, 0, none⟩)))]) ⟨look_row rfl 10 rfl s10, trivial⟩ ?_
        refine tp rfl (lv_fieldAddr (o' := 2) Try.underlying29 rfl Try.sizeOf27 rfl rfl) ?_
        exact d_closes ⟨look_row rfl 10 rfl s10, trivial⟩ 11 rfl rfl rfl hS (AgreeR.refl _) (t_sat (fun _ h => h) (hK (bs5, cp6, bs9, cp10, bs13, cp14) ⟨hf0, hf1, hf2, hf3, hf4, hf5⟩))
      · -- 12
        rintro ⟨bs5, cp6, bs9, cp10, bs13, cp14⟩ S hF hS D hp K hK
        try dsimp only at hF ⊢
        obtain ⟨hf0, hf1, hf2, hf3, hf4, hf5⟩ := hF
        have s11 := hp 11 rfl
        refine d_need (small := [(26, (.pointer (some ⟨p, 2, none⟩)))]) ⟨look_row rfl 11 rfl s11, trivial⟩ ?_
        refine tp rfl (lv_load Try.isAgg27 rfl (gives_blk (mem_cF (nf hS D (k := 19) (i := 12) rfl) (.head _)) rfl)) ?_
        exact d_closes ⟨look_row rfl 11 rfl s11, trivial⟩ 12 rfl rfl rfl hS (AgreeR.refl _) (t_sat (fun _ h => h) (hK (bs5, cp6, bs9, cp10, bs13, cp14) ⟨hf0, hf1, hf2, hf3, hf4, hf5⟩))
      · -- 13
        rintro ⟨bs5, cp6, bs9, cp10, bs13, cp14⟩ S hF hS D hp K hK
        try dsimp only at hF ⊢
        obtain ⟨hf0, hf1, hf2, hf3, hf4, hf5⟩ := hF
        refine d_need (small := [(6, (.int .i64 ((k : Nat) : Int)))]) ⟨look_b rfl rfl, trivial⟩ ?_
        refine tp rfl (lv_move rfl) ?_
        exact d_closes ⟨look_b rfl rfl, trivial⟩ 13 rfl rfl rfl hS (AgreeR.refl _) (t_sat (fun _ h => h) (hK (bs5, cp6, bs9, cp10, bs13, cp14) ⟨hf0, hf1, hf2, hf3, hf4, hf5⟩))
      · -- 14
        rintro ⟨bs5, cp6, bs9, cp10, bs13, cp14⟩ S hF hS D hp K hK
        try dsimp only at hF ⊢
        obtain ⟨hf0, hf1, hf2, hf3, hf4, hf5⟩ := hF
        have s13 := hp 13 rfl
        refine d_need (small := [(28, (.int .i64 ((k : Nat) : Int)))]) ⟨look_row rfl 13 rfl s13, trivial⟩ ?_
        refine tp rfl (lv_add (c := ((k + 1 : Nat) : Int)) rfl rfl (wr_i64_succ (by omega))) ?_
        exact d_closes ⟨look_row rfl 13 rfl s13, trivial⟩ 14 rfl rfl rfl hS (AgreeR.refl _) (t_sat (fun _ h => h) (hK (bs5, cp6, bs9, cp10, bs13, cp14) ⟨hf0, hf1, hf2, hf3, hf4, hf5⟩))
      · -- 15
        rintro ⟨bs5, cp6, bs9, cp10, bs13, cp14⟩ S hF hS D hp K hK
        try dsimp only at hF ⊢
        obtain ⟨hf0, hf1, hf2, hf3, hf4, hf5⟩ := hF
        have s12 := hp 12 rfl
        have s14 := hp 14 rfl
        refine d_need (small := [(27, (.slice bs1 ((rowOf s).length) cp2)), (29, (.int .i64 ((k + 1 : Nat) : Int)))]) ⟨look_row rfl 12 rfl s12, look_row rfl 14 rfl s14, trivial⟩ ?_
        refine tp rfl (lv_slice (l := k + 1) (h := (rowOf s).length) (m := cp2) (v := (.slice (sbase bs1 (k + 1) cp2 1) (((rowOf s).length) - (k + 1)) (cp2 - (k + 1)))) Try.underlying27 Try.sizeOf3 rfl rfl rfl rfl (.inr ⟨rfl, rfl⟩) (.inr ⟨rfl, rfl⟩) (.inl ⟨_, _, rfl, (by omega), (by omega), (by omega)⟩) (by simp) rfl) ?_
        exact d_closes ⟨look_row rfl 12 rfl s12, look_row rfl 14 rfl s14, trivial⟩ 15 rfl rfl rfl hS (AgreeR.refl _) (t_sat (fun _ h => h) (hK (bs5, cp6, bs9, cp10, bs13, cp14) ⟨hf0, hf1, hf2, hf3, hf4, hf5⟩))
      · -- 16
        rintro ⟨bs5, cp6, bs9, cp10, bs13, cp14⟩ S hF hS D hp K hK
        try dsimp only at hF ⊢
        obtain ⟨hf0, hf1, hf2, hf3, hf4, hf5⟩ := hF
        have s8 := hp 8 rfl
        have s1 := D 8 1 rfl s8
        have hok7 := hf0 s1
        have hle8 := hf1 s1
        have hok11 := hf2 s8
        have hle12 := hf3 s8
        have s15 := hp 15 rfl
        refine d_need (small := [(23, (.slice bs9 k cp10)), (30, (.slice (sbase bs1 (k + 1) cp2 1) (((rowOf s).length) - (k + 1)) (cp2 - (k + 1))))]) ⟨look_row rfl 8 rfl s8, look_row rfl 15 rfl s15, trivial⟩ ?_
        refine t_cF (nf hS D (k := 19) (i := 16) rfl) ?_
        refine t_f2 ?_
        refine t_cF hS ?_
        refine t_cT s8 ?_
        refine tm rfl (mv_append (i := Try.t3) Try.underlying27 Try.type3 rfl rfl rfl (by decide) rfl rfl (slok_sbase hok3 (by omega)) (by first | (simp; done) | (simp; omega)) (rd_sb_ints (l := k + 1) (m := cp2) (rd_sl (.tail _ (.tail _ (.head _)))) hok3 rfl hle4) ints_one (by rw [show Try.t3.bytes = 8 from rfl]; omega)) ?_
        rintro _ _ ⟨bs13, cp14, hok15, hle16, rfl, rfl⟩
        rw [← ints_append]
        refine t_f1 ?_
        refine t_wF (A := (Blk p [(.int .i64 A), (.int .i64 Q), (.slice bs13 (k + (((rowOf s).length) - (k + 1))) cp14)] 29)) (nf hS D (k := 19) (i := 16) rfl) ?_
        refine t_f1 ?_
        refine t_f2 ?_
        refine t_f2 ?_
        exact d_closes ⟨look_row rfl 8 rfl s8, look_row rfl 15 rfl s15, trivial⟩ 16 rfl rfl rfl hS (by exact ⟨.inl rfl, .inl rfl, .inl rfl, .inl rfl, .inl rfl, .inl rfl, .inl rfl, .inl rfl, .inl rfl, .inl rfl, .inl rfl, .inl rfl, .inl rfl, .inl rfl, .inl rfl, .inl rfl, .inr ⟨rfl, rfl, hS⟩, .inl rfl, .inl rfl, trivial⟩) (t_sat (fun _ h => h) (hK (bs5, cp6, bs9, cp10, bs13, cp14) ⟨hf0, hf1, hf2, hf3, (fun _ => hok15), (fun _ => hle16)⟩))
      · -- 17
        rintro ⟨bs5, cp6, bs9, cp10, bs13, cp14⟩ S hF hS D hp K hK
        try dsimp only at hF ⊢
        obtain ⟨hf0, hf1, hf2, hf3, hf4, hf5⟩ := hF
        have s0 := hp 0 rfl
        refine d_need (small := [(15, (.pointer (some ⟨p, 0, none⟩)))]) ⟨look_row rfl 0 rfl s0, trivial⟩ ?_
        refine tp rfl (lv_nilCheck rfl) ?_
        exact d_closes ⟨look_row rfl 0 rfl s0, trivial⟩ 17 rfl rfl rfl hS (AgreeR.refl _) (t_sat (fun _ h => h) (hK (bs5, cp6, bs9, cp10, bs13, cp14) ⟨hf0, hf1, hf2, hf3, hf4, hf5⟩))
      · -- 18
        rintro ⟨bs5, cp6, bs9, cp10, bs13, cp14⟩ S hF hS D hp K hK
        try dsimp only at hF ⊢
        obtain ⟨hf0, hf1, hf2, hf3, hf4, hf5⟩ := hF
        have s17 := hp 17 rfl
        refine d_need (small := [(32, (.pointer (some ⟨p, 0, none⟩)))]) ⟨look_row rfl 17 rfl s17, trivial⟩ ?_
        refine tp rfl (lv_fieldAddr (o' := 2) Try.underlying29 rfl Try.sizeOf27 rfl rfl) ?_
        exact d_closes ⟨look_row rfl 17 rfl s17, trivial⟩ 18 rfl rfl rfl hS (AgreeR.refl _) (t_sat (fun _ h => h) (hK (bs5, cp6, bs9, cp10, bs13, cp14) ⟨hf0, hf1, hf2, hf3, hf4, hf5⟩))
      · -- 19
        rintro ⟨bs5, cp6, bs9, cp10, bs13, cp14⟩ S hF hS D hp K hK
        try dsimp only at hF ⊢
        obtain ⟨hf0, hf1, hf2, hf3, hf4, hf5⟩ := hF
        have s1 := hp 1 rfl
        have hok7 := hf0 s1
        have hle8 := hf1 s1
        have s8 := hp 8 rfl
        have hok11 := hf2 s8
        have hle12 := hf3 s8
        have s16 := hp 16 rfl
        have hok15 := hf4 s16
        have hle16 := hf5 s16
        have s18 := hp 18 rfl
        refine d_need (small := [(31, (.slice bs13 (k + (((rowOf s).length) - (k + 1))) cp14)), (33, (.pointer (some ⟨p, 2, none⟩)))]) ⟨look_row rfl 16 rfl s16, look_row rfl 18 rfl s18, trivial⟩ ?_
        refine t_cF hS ?_
        refine ts (sv_blk Try.sizeOf27 rfl rfl rfl (Nat.le_of_ble_eq_true rfl) rfl) ?_
        exact d_closes0 ⟨look_row rfl 16 rfl s16, look_row rfl 18 rfl s18, trivial⟩ rfl (t_sat (fun _ h => h) (hK (bs5, cp6, bs9, cp10, bs13, cp14) ⟨hf0, hf1, hf2, hf3, hf4, hf5⟩))
    · -- behind
      rintro ⟨bs5, cp6, bs9, cp10, bs13, cp14⟩ hF
      try dsimp only at hF ⊢
      obtain ⟨hf0, hf1, hf2, hf3, hf4, hf5⟩ := hF
      have hok7 := hf0 rfl
      have hle8 := hf1 rfl
      have hok11 := hf2 rfl
      have hle12 := hf3 rfl
      have hok15 := hf4 rfl
      have hle16 := hf5 rfl
      refine t_weak (E' := [(0, (.pointer (some ⟨p, 0, none⟩))), (1, (.int .i64 x)), (4, (.int .i64 0)), (5, (.int .i64 0)), (6, (.int .i64 ((k : Nat) : Int))), (7, (.int .i64 ((s.a.length : Nat) : Int))), (12, (.bool false))]) ⟨rfl, rfl, rfl, rfl, rfl, rfl, rfl, trivial⟩ ?_
      refine q_then_n (hK6 _ _ ?_)
      refine c_seq (fun K7 hK7 => ?_)
      refine c_seq (fun K8 hK8 => ?_)
      have hnl : k + (((rowOf s).length) - (k + 1)) = (rowOf (endS s x)).length := by rw [← e1]; simp; omega
      rw [show ((rowOf s).take k) ++ ((rowOf s).drop (k + 1)) = rowOf (endS s x) from e1, hnl]
      rw [hnl] at hok15 hle16
      have hlen2 : (rowOf (endS s x)).length + 1 = (rowOf s).length := by rw [← e1]; simp; omega
      rcases ha : inA s x with _ | _
      · -- false
        rw [ha] at hact
        rw [if_neg (fun hh => by have := of_decide_eq_true hact; omega)] at e3
        refine c_region ?_
        refine tp rfl (lv_move rfl) ?_
        refine tp rfl (lv_move rfl) ?_
        refine tp rfl (lv_lss rfl rfl (decide_eq_false (by have := of_decide_eq_true hact; omega))) ?_
        refine tp rfl (lv_move rfl) ?_
        refine t_skip rfl rfl rfl ?_
        refine t_skip rfl rfl rfl ?_
        refine t_skip rfl rfl rfl ?_
        refine t_skip rfl rfl rfl ?_
        refine tp rfl (lv_pick_f rfl rfl) ?_
        refine t_done ?_
        refine q_then_n (hK8 _ _ ?_)
        refine c_false rfl ?_
        refine c_skip ?_
        refine q_then_n (hK7 _ _ ?_)
        refine c_seq (fun K9 hK9 => ?_)
        refine c_region ?_
        refine tp rfl (lv_assign rfl) ?_
        refine tp rfl (lv_assign rfl) ?_
        refine t_done ?_
        refine q_then_n (hK9 _ _ ?_)
        refine c_ret ?_
        refine t_f2 ?_
        refine t_f1 ?_
        refine t_shutRow hok15 hle16 ?_
        refine t_f1 ?_
        refine t_drop ?_
        refine q_ret2 rfl rfl rfl ?_
        rw [e2, e3]
        exact ⟨rfl, rfl⟩
      · -- true
        rw [ha] at hact
        have hrs := row_split h ha h.nodup
        by_cases hq : s.q = []
        · -- empty: True
         rw [if_neg (fun hh => hh.2 hq)] at e3
         refine c_region ?_
         refine tp rfl (lv_move rfl) ?_
         refine tp rfl (lv_move rfl) ?_
         refine tp rfl (lv_lss rfl rfl (decide_eq_true (by have := of_decide_eq_false hact; omega))) ?_
         refine tp rfl (lv_move rfl) ?_
         refine t_guard rfl rfl ?_
         refine tp rfl (lv_move rfl) ?_
         refine t_guard rfl rfl ?_
         refine t_f2 ?_
         refine t_f1 ?_
         refine tc rfl (en_fn Try.call20 rfl) (rsplit_ok (A := A) (Q := Q) (l := rowOf (endS s x)) (by omega)) ?_
         rintro _ _ ⟨rfl, rfl⟩
         refine t_guard rfl rfl ?_
         refine tp rfl (lv_move rfl) ?_
         refine t_guard rfl rfl ?_
         refine tp rfl (lv_eql rfl rfl (beq_eq_false_iff_ne.2 (fun hh => (hrs.1 hh) hq))) ?_
         refine tp rfl (lv_pick_t rfl rfl) ?_
         refine t_done ?_
         refine q_then_n (hK8 _ _ ?_)
         refine c_false rfl ?_
         refine c_skip ?_
         refine q_then_n (hK7 _ _ ?_)
         refine c_seq (fun K9 hK9 => ?_)
         refine c_region ?_
         refine tp rfl (lv_assign rfl) ?_
         refine tp rfl (lv_assign rfl) ?_
         refine t_done ?_
         refine q_then_n (hK9 _ _ ?_)
         refine c_ret ?_
         refine t_f1 ?_
         refine t_f1 ?_
         refine t_shutRow hok15 hle16 ?_
         refine t_f1 ?_
         refine t_drop ?_
         refine q_ret2 rfl rfl rfl ?_
         rw [e2, e3]
         exact ⟨rfl, rfl⟩
        · -- empty: False
         rw [if_pos ⟨by have := of_decide_eq_false hact; omega, hq⟩] at e3
         have hpa : 0 < s.a.length := List.length_pos_of_mem (by simpa [inA] using ha)
         have hqp : 0 < s.q.length := List.length_pos_iff.2 hq
         have hrl : (rowOf s).length = s.a.length + s.q.length := by simp [rowOf]
         refine c_region ?_
         refine tp rfl (lv_move rfl) ?_
         refine tp rfl (lv_move rfl) ?_
         refine tp rfl (lv_lss rfl rfl (decide_eq_true (by have := of_decide_eq_false hact; omega))) ?_
         refine tp rfl (lv_move rfl) ?_
         refine t_guard rfl rfl ?_
         refine tp rfl (lv_move rfl) ?_
         refine t_guard rfl rfl ?_
         refine t_f2 ?_
         refine t_f1 ?_
         refine tc rfl (en_fn Try.call20 rfl) (rsplit_ok (A := A) (Q := Q) (l := rowOf (endS s x)) (by omega)) ?_
         rintro _ _ ⟨rfl, rfl⟩
         refine t_guard rfl rfl ?_
         refine tp rfl (lv_move rfl) ?_
         refine t_guard rfl rfl ?_
         refine tp rfl (lv_eql rfl rfl (beq_iff_eq.2 (hrs.2 hq))) ?_
         refine tp rfl (lv_pick_t rfl rfl) ?_
         refine t_done ?_
         refine q_then_n (hK8 _ _ ?_)
         refine c_true rfl ?_
         refine c_seq (fun K9 hK9 => ?_)
         refine c_region ?_
         refine tp rfl (lv_move rfl) ?_
         refine tp rfl (lv_nilCheck rfl) ?_
         refine tp rfl (lv_fieldAddr (o' := 2) Try.underlying29 rfl Try.sizeOf27 rfl rfl) ?_
         refine tp rfl (lv_load Try.isAgg27 rfl (gives_blk (.head _) rfl)) ?_
         refine tp rfl (lv_move rfl) ?_
         refine tp rfl (lv_sub (c := ((s.a.length : Nat) : Int) - 1) rfl rfl (wr_i64 (by omega) (by omega))) ?_
         refine tp rfl (lv_indexAddr (k' := (((s.a.length : Nat) : Int) - 1).toNat) Try.underlying27 Try.sizeOf3 rfl rfl hok15 (by omega) (by omega) (by omega)) ?_
         refine tp rfl (lv_load Try.isAgg3 rfl (gives_sl (.tail _ (.head _)) (ints_get (by omega)))) ?_
         refine tp rfl (lv_assign rfl) ?_
         refine tp rfl (lv_assign rfl) ?_
         refine t_done ?_
         refine q_then_n (hK9 _ _ ?_)
         refine c_ret ?_
         refine q_then_r ?_
         refine t_f1 ?_
         refine t_f1 ?_
         refine t_shutRow hok15 hle16 ?_
         refine t_f1 ?_
         refine t_drop ?_
         refine q_ret2 rfl rfl rfl ?_
         rw [e2, e3]
         exact ⟨by rw [show ((s.a.length : Int) - 1).toNat = s.a.length - 1 by omega], rfl⟩
end Go.Proofs.Ythhmdcbhgnoemaa
