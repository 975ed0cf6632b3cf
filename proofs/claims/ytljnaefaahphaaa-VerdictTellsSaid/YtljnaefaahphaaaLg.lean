/- Facts of few tasks, and few edges each. -/
import Derived.Test.YtljnaefaahphaaaVrf
import Derived.Test.YtljnaefaahphaaaLa
set_option maxRecDepth 100000
set_option linter.unusedVariables false
set_option linter.unusedSimpArgs false
namespace Go.Proofs.Ytljnaefaahphaaa
open Go Go.Proofs Sp
set_option maxHeartbeats 4000000 in
theorem few_ok {R : List HP} {es : List (List Int)} {own : List Int} {be bo : Option Addr} {ce co : Nat} (n : Int) (hG : GridR R be es) (hbe : SlOk be es.length) (hce : es.length ≤ ce) (hle1 : es.length ≤ 9223372036854775807) (ho : Rd R bo (ints .i64 own)) (hbo : SlOk bo own.length) (hco : own.length ≤ co) (hle2 : own.length ≤ 9223372036854775807) {q1 q2 : Nat} (hq1 : q1 = min es.length 70) (hq2 : q2 = min own.length 70) :
    Ok Try.prog 10 [(.agg #[(.int .i64 n), (.slice be es.length ce), (.slice bo own.length co)])] R
      (fun v M => ∃ bE cE bO cO, ∃ V : List Value, (SlOk bE q1 ∧ q1 ≤ cE ∧ SlOk bO q2 ∧ q2 ≤ cO ∧ V.length = q1) ∧ v = .agg #[.int .i64 n, .slice bE q1 cE, .slice bO q2 cO] ∧ M = SlV 23 1 (.slice bE q1 cE) q1 V :: SlV 3 1 (.slice bO q2 cO) q2 (ints .i64 (own.take q2)) :: Join (rowsL V (cutE es)) :: R) := by
 obtain ⟨vs, hvl, hvs, hrow⟩ := hG
 have hrdE : Rd R be (vs.take q1) := rd_take hvs q1
 have hone : ∀ u ∈ vs.take q1, u.oneCell' = true := fun u hu => by
    obtain ⟨j, hj, rfl⟩ := List.getElem_of_mem (List.mem_of_mem_take hu)
    obtain ⟨b, c, _, _, h3, _⟩ := hrow j (by omega)
    rw [show vs.getD j undef = vs[j] by simp [List.getD, hj]] at h3
    rw [h3]; rfl
 refine ok_of (N := 51) Try.func10 rfl rfl rfl (fun W => ?_)
 refine c_seq (fun K1 hK1 => ?_)
 refine c_region ?_
 refine tm rfl (mv_box rfl rfl) ?_
 rintro _ _ ⟨b1, rfl, rfl⟩
 refine tm rfl (mv_alloc Try.zeroValue25 rfl) ?_
 rintro _ _ ⟨b2, rfl, rfl⟩
 refine t_done ?_
 refine q_then_n (hK1 _ _ ?_)
 refine c_seq (fun K2 hK2 => ?_)
 refine c_region ?_
 refine tm rfl (mv_buildSlice (cs := []) Try.underlying22 Try.sizeOf23 Try.zeroValue23 (by decide) rfl rfl rfl rfl) ?_
 rintro _ _ ⟨bs3, cp4, hok5, hle6, rfl, rfl⟩
 refine tp rfl (lv_fieldAddr (o' := 1) Try.underlying25 rfl Try.sizeOf22 rfl rfl) ?_
 refine tp rfl (lv_load Try.isAgg22 rfl (gives_blk (.tail _ (.tail _ (.head _))) rfl)) ?_
 refine tp rfl (lv_fieldAddr (o' := 1) Try.underlying25 rfl Try.sizeOf22 rfl rfl) ?_
 refine tp rfl (lv_load Try.isAgg22 rfl (gives_blk (.tail _ (.tail _ (.head _))) rfl)) ?_
 refine tp rfl (lv_len Try.underlying22 rfl rfl) ?_
 refine tp rfl (lv_min (c := ((q1 : Nat) : Int)) rfl rfl (by omega)) ?_
 refine tp rfl (lv_slice (l := 0) (h := q1) (m := ce) (v := (.slice be q1 ce)) Try.underlying22 Try.sizeOf23 rfl rfl rfl rfl (.inr ⟨rfl, rfl⟩) (.inl ⟨_, _, rfl, (by omega), (by omega), (by omega)⟩) (.inr ⟨rfl, rfl⟩) (by simp) (by rw [sbase_zero]; rfl)) ?_
 refine tm rfl (mv_append (i := Try.t23) Try.underlying22 Try.type23 rfl rfl rfl (by decide) rfl rfl (fun hz => hbe (by omega)) (by rw [List.length_take]; omega) (Rd.cons (Rd.cons (Rd.cons hrdE))) hone (by rw [show Try.t23.bytes = 24 from rfl]; omega)) ?_
 rintro _ _ ⟨bs7, cp8, hok9, hle10, rfl, rfl⟩
 simp only [Nat.zero_add] at hok9 hle10 ⊢
 rw [List.nil_append]
 refine tp rfl (lv_fieldAddr (o' := 1) Try.underlying25 rfl Try.sizeOf22 rfl rfl) ?_
 refine t_f2 ?_
 refine ts (sv_blk Try.sizeOf22 rfl rfl rfl (Nat.le_of_ble_eq_true rfl) rfl) ?_
 refine t_done ?_
 refine q_then_n (hK2 _ _ ?_)
 refine c_seq (fun K3 hK3 => ?_)
 refine c_seq (fun K4 hK4 => ?_)
 refine c_region ?_
 refine tp rfl (lv_assign rfl) ?_
 refine t_done ?_
 refine q_then_n (hK4 _ _ ?_)
 refine c_block ?_
 have hcl := cutE_len hq1
 refine t_sat (fun _ h => sat_norows h) ?_
 refine c_loop (γ := (Nat) × (List Value)) (fun (i, V) => i ≤ q1 ∧ V.length = q1 ∧ ∀ j, i ≤ j → j < q1 → V.getD j undef = vs.getD j undef) (fun (i, V) => [(0, (.agg #[(.int .i64 n), (.slice be es.length ce), (.slice bo own.length co)])), (1, (.pointer (some ⟨b1, 0, none⟩))), (2, (.pointer (some ⟨b2, 0, none⟩))), (3, (.int .i64 ((i : Nat) : Int)))]) (fun (i, V) => (Join (rowsL (V.take i) ((cutE es).take i))) :: (Blk b1 [(.int .i64 n), (.slice bs7 q1 cp8), (.slice bo own.length co)] 25) :: (SlV 23 1 (.slice bs7 q1 cp8) q1 V) :: (Blk b2 [(.int .i64 0), (.slice none 0 0), (.slice none 0 0)] 25) :: R) (fun (i, V) => q1 - i) (0, vs.take q1) ⟨by omega, by rw [List.length_take]; omega, fun j _ hj => by simp [List.getD, List.getElem?_take, hj]⟩ ⟨rfl, rfl, rfl, rfl, trivial⟩ (fun _ h => h) ?_
 rintro ⟨i, V⟩ K5 hF hK5
 try dsimp only at hF hK5 ⊢
 obtain ⟨hi, hVl, hV⟩ := hF
 refine c_seq (fun K6 hK6 => ?_)
 refine c_seq (fun K7 hK7 => ?_)
 refine c_region ?_
 refine tp rfl (lv_move rfl) ?_
 refine tp rfl (lv_fieldAddr (o' := 1) Try.underlying25 rfl Try.sizeOf22 rfl rfl) ?_
 refine tp rfl (lv_load Try.isAgg22 rfl (gives_blk (.tail _ (.head _)) rfl)) ?_
 refine tp rfl (lv_len Try.underlying22 rfl rfl) ?_
 by_cases h11 : ((i : Nat) : Int) < ((q1 : Nat) : Int)
 · -- yes
  refine tp rfl (lv_lss rfl rfl (decide_eq_true h11)) ?_
  refine t_done ?_
  refine q_then_n (hK7 _ _ ?_)
  refine c_true rfl ?_
  refine c_skip ?_
  refine q_then_n (hK6 _ _ ?_)
  refine c_seq (fun K8 hK8 => ?_)
  refine c_block ?_
  obtain ⟨bi, ci, hoki, hlei, hvi, hri⟩ := hrow i (by omega)
  obtain ⟨e2, he2⟩ : ∃ e2, e2 = min (es.getD i []).length 20 := ⟨_, rfl⟩
  have hrc : Rd R bi (ints .i64 ((es.getD i []).take e2)) := rd_tk_ints e2 hri
  have hVi := (hV i (by omega) (by omega)).trans hvi
  have hok2 : SlOk bi e2 := fun hz => hoki (by omega)
  refine c_draw (γ := Option Addr × Nat × Option Addr × Nat) (n := 20) Try.mixed rfl rfl (fun (bs12, cp13, bs16, cp17) S => (S 3 = true → SlOk bs12 0) ∧ (S 3 = true → 0 ≤ cp13) ∧ (S 17 = true → SlOk bs16 e2) ∧ (S 17 = true → e2 ≤ cp17)) (fun (bs12, cp13, bs16, cp17) => [(0, 21, (.pointer (some ⟨b1, 1, none⟩))), (1, 22, (.slice bs7 q1 cp8)), (2, 23, (.int .i64 ((i : Nat) : Int))), (3, 24, (.slice bs12 0 cp13)), (4, 25, (.pointer (some ⟨b1, 1, none⟩))), (5, 26, (.slice bs7 q1 cp8)), (6, 27, (.int .i64 ((i : Nat) : Int))), (7, 28, (.pointer (some (ad bs7 i)))), (8, 29, (.slice bi ((es.getD i []).length) ci)), (9, 30, (.pointer (some ⟨b1, 1, none⟩))), (10, 31, (.slice bs7 q1 cp8)), (11, 32, (.int .i64 ((i : Nat) : Int))), (12, 33, (.pointer (some (ad bs7 i)))), (13, 34, (.slice bi ((es.getD i []).length) ci)), (14, 35, (.int .i64 (((es.getD i []).length : Nat) : Int))), (15, 36, (.int .i64 ((e2 : Nat) : Int))), (16, 37, (.slice bi e2 ci)), (17, 38, (.slice bs16 e2 cp17)), (18, 39, (.pointer (some (ad bs7 i))))]) (fun (bs12, cp13, bs16, cp17) S => (Join (rowsL (V.take i) ((cutE es).take i))) :: (Blk b1 [(.int .i64 n), (.slice bs7 q1 cp8), (.slice bo own.length co)] 25) :: (bif S 19 then (SlV 23 1 (.slice bs7 q1 cp8) q1 ((V).set i (.slice bs16 e2 cp17))) else (SlV 23 1 (.slice bs7 q1 cp8) q1 V)) :: (Blk b2 [(.int .i64 0), (.slice none 0 0), (.slice none 0 0)] 25) :: (bif S 17 then (SlV 3 1 (.slice bs16 e2 cp17) e2 (ints .i64 ((es.getD i []).take e2))) else (bif S 3 then (SlV 3 1 (.slice bs12 0 cp13) 0 []) else Emp)) :: R) (none, 0, none, 0) (by simp [Nat.ble]) (fun _ h => sat_emps [_, _, _, _] 1 h) (fun _ _ h => h) ?_ ?_
  · -- steps
   refine ⟨?_, ?_, ?_, ?_, ?_, ?_, ?_, ?_, ?_, ?_, ?_, ?_, ?_, ?_, ?_, ?_, ?_, ?_, ?_, ?_, trivial⟩
   · -- 0
    rintro ⟨bs12, cp13, bs16, cp17⟩ S hF hS D hp K hK
    try dsimp only at hF ⊢
    obtain ⟨hf0, hf1, hf2, hf3⟩ := hF
    refine d_need (small := [(1, (.pointer (some ⟨b1, 0, none⟩)))]) ⟨look_b rfl rfl, trivial⟩ ?_
    refine tp rfl (lv_fieldAddr (o' := 1) Try.underlying25 rfl Try.sizeOf22 rfl rfl) ?_
    exact d_closes ⟨look_b rfl rfl, trivial⟩ 0 rfl rfl rfl hS (AgreeR.refl _) (t_sat (fun _ h => h) (hK (bs12, cp13, bs16, cp17) ⟨hf0, hf1, hf2, hf3⟩))
   · -- 1
    rintro ⟨bs12, cp13, bs16, cp17⟩ S hF hS D hp K hK
    try dsimp only at hF ⊢
    obtain ⟨hf0, hf1, hf2, hf3⟩ := hF
    have s0 := hp 0 rfl
    refine d_need (small := [(21, (.pointer (some ⟨b1, 1, none⟩)))]) ⟨look_row rfl 0 rfl s0, trivial⟩ ?_
    refine tp rfl (lv_load Try.isAgg22 rfl (gives_blk (.tail _ (.head _)) rfl)) ?_
    exact d_closes ⟨look_row rfl 0 rfl s0, trivial⟩ 1 rfl rfl rfl hS (AgreeR.refl _) (t_sat (fun _ h => h) (hK (bs12, cp13, bs16, cp17) ⟨hf0, hf1, hf2, hf3⟩))
   · -- 2
    rintro ⟨bs12, cp13, bs16, cp17⟩ S hF hS D hp K hK
    try dsimp only at hF ⊢
    obtain ⟨hf0, hf1, hf2, hf3⟩ := hF
    refine d_need (small := [(3, (.int .i64 ((i : Nat) : Int)))]) ⟨look_b rfl rfl, trivial⟩ ?_
    refine tp rfl (lv_move rfl) ?_
    exact d_closes ⟨look_b rfl rfl, trivial⟩ 2 rfl rfl rfl hS (AgreeR.refl _) (t_sat (fun _ h => h) (hK (bs12, cp13, bs16, cp17) ⟨hf0, hf1, hf2, hf3⟩))
   · -- 3
    rintro ⟨bs12, cp13, bs16, cp17⟩ S hF hS D hp K hK
    try dsimp only at hF ⊢
    obtain ⟨hf0, hf1, hf2, hf3⟩ := hF
    refine d_need (small := []) trivial ?_
    refine tm rfl (mv_buildSlice (cs := []) Try.underlying23 Try.sizeOf3 Try.zeroValue3 (by decide) rfl rfl rfl rfl) ?_
    rintro _ _ ⟨bs12, cp13, hok14, hle15, rfl, rfl⟩
    refine t_wF (A := (SlV 3 1 (.slice bs16 e2 cp17) e2 (ints .i64 ((es.getD i []).take e2)))) (nf hS D (k := 17) (i := 3) rfl) ?_
    refine t_sat (fun _ h => sat_put [_, _, _, _] h) ?_
    exact d_closes trivial 3 rfl rfl rfl hS (by exact ⟨.inl rfl, .inl rfl, .inl rfl, .inr ⟨rfl, rfl, hS⟩, .inl rfl, .inl rfl, .inl rfl, .inl rfl, .inl rfl, .inl rfl, .inl rfl, .inl rfl, .inl rfl, .inl rfl, .inl rfl, .inl rfl, .inl rfl, .inl rfl, .inl rfl, trivial⟩) (t_sat (fun _ h => h) (hK (bs12, cp13, bs16, cp17) ⟨(fun _ => hok14), (fun _ => hle15), hf2, hf3⟩))
   · -- 4
    rintro ⟨bs12, cp13, bs16, cp17⟩ S hF hS D hp K hK
    try dsimp only at hF ⊢
    obtain ⟨hf0, hf1, hf2, hf3⟩ := hF
    refine d_need (small := [(1, (.pointer (some ⟨b1, 0, none⟩)))]) ⟨look_b rfl rfl, trivial⟩ ?_
    refine tp rfl (lv_fieldAddr (o' := 1) Try.underlying25 rfl Try.sizeOf22 rfl rfl) ?_
    exact d_closes ⟨look_b rfl rfl, trivial⟩ 4 rfl rfl rfl hS (AgreeR.refl _) (t_sat (fun _ h => h) (hK (bs12, cp13, bs16, cp17) ⟨hf0, hf1, hf2, hf3⟩))
   · -- 5
    rintro ⟨bs12, cp13, bs16, cp17⟩ S hF hS D hp K hK
    try dsimp only at hF ⊢
    obtain ⟨hf0, hf1, hf2, hf3⟩ := hF
    have s4 := hp 4 rfl
    refine d_need (small := [(25, (.pointer (some ⟨b1, 1, none⟩)))]) ⟨look_row rfl 4 rfl s4, trivial⟩ ?_
    refine tp rfl (lv_load Try.isAgg22 rfl (gives_blk (.tail _ (.head _)) rfl)) ?_
    exact d_closes ⟨look_row rfl 4 rfl s4, trivial⟩ 5 rfl rfl rfl hS (AgreeR.refl _) (t_sat (fun _ h => h) (hK (bs12, cp13, bs16, cp17) ⟨hf0, hf1, hf2, hf3⟩))
   · -- 6
    rintro ⟨bs12, cp13, bs16, cp17⟩ S hF hS D hp K hK
    try dsimp only at hF ⊢
    obtain ⟨hf0, hf1, hf2, hf3⟩ := hF
    refine d_need (small := [(3, (.int .i64 ((i : Nat) : Int)))]) ⟨look_b rfl rfl, trivial⟩ ?_
    refine tp rfl (lv_move rfl) ?_
    exact d_closes ⟨look_b rfl rfl, trivial⟩ 6 rfl rfl rfl hS (AgreeR.refl _) (t_sat (fun _ h => h) (hK (bs12, cp13, bs16, cp17) ⟨hf0, hf1, hf2, hf3⟩))
   · -- 7
    rintro ⟨bs12, cp13, bs16, cp17⟩ S hF hS D hp K hK
    try dsimp only at hF ⊢
    obtain ⟨hf0, hf1, hf2, hf3⟩ := hF
    have s5 := hp 5 rfl
    have s6 := hp 6 rfl
    refine d_need (small := [(26, (.slice bs7 q1 cp8)), (27, (.int .i64 ((i : Nat) : Int)))]) ⟨look_row rfl 5 rfl s5, look_row rfl 6 rfl s6, trivial⟩ ?_
    refine tp rfl (lv_indexAddr (k' := i) Try.underlying22 Try.sizeOf23 rfl rfl hok9 (by omega) (by omega) (by omega)) ?_
    exact d_closes ⟨look_row rfl 5 rfl s5, look_row rfl 6 rfl s6, trivial⟩ 7 rfl rfl rfl hS (AgreeR.refl _) (t_sat (fun _ h => h) (hK (bs12, cp13, bs16, cp17) ⟨hf0, hf1, hf2, hf3⟩))
   · -- 8
    rintro ⟨bs12, cp13, bs16, cp17⟩ S hF hS D hp K hK
    try dsimp only at hF ⊢
    obtain ⟨hf0, hf1, hf2, hf3⟩ := hF
    have s7 := hp 7 rfl
    refine d_need (small := [(28, (.pointer (some (ad bs7 i))))]) ⟨look_row rfl 7 rfl s7, trivial⟩ ?_
    refine tp rfl (lv_load Try.isAgg23 rfl (gives_as hVi (gives_sl (mem_cF (nf hS D (k := 19) (i := 8) rfl) (.tail _ (.tail _ (.head _)))) (vals_get (by omega))))) ?_
    exact d_closes ⟨look_row rfl 7 rfl s7, trivial⟩ 8 rfl rfl rfl hS (AgreeR.refl _) (t_sat (fun _ h => h) (hK (bs12, cp13, bs16, cp17) ⟨hf0, hf1, hf2, hf3⟩))
   · -- 9
    rintro ⟨bs12, cp13, bs16, cp17⟩ S hF hS D hp K hK
    try dsimp only at hF ⊢
    obtain ⟨hf0, hf1, hf2, hf3⟩ := hF
    refine d_need (small := [(1, (.pointer (some ⟨b1, 0, none⟩)))]) ⟨look_b rfl rfl, trivial⟩ ?_
    refine tp rfl (lv_fieldAddr (o' := 1) Try.underlying25 rfl Try.sizeOf22 rfl rfl) ?_
    exact d_closes ⟨look_b rfl rfl, trivial⟩ 9 rfl rfl rfl hS (AgreeR.refl _) (t_sat (fun _ h => h) (hK (bs12, cp13, bs16, cp17) ⟨hf0, hf1, hf2, hf3⟩))
   · -- 10
    rintro ⟨bs12, cp13, bs16, cp17⟩ S hF hS D hp K hK
    try dsimp only at hF ⊢
    obtain ⟨hf0, hf1, hf2, hf3⟩ := hF
    have s9 := hp 9 rfl
    refine d_need (small := [(30, (.pointer (some ⟨b1, 1, none⟩)))]) ⟨look_row rfl 9 rfl s9, trivial⟩ ?_
    refine tp rfl (lv_load Try.isAgg22 rfl (gives_blk (.tail _ (.head _)) rfl)) ?_
    exact d_closes ⟨look_row rfl 9 rfl s9, trivial⟩ 10 rfl rfl rfl hS (AgreeR.refl _) (t_sat (fun _ h => h) (hK (bs12, cp13, bs16, cp17) ⟨hf0, hf1, hf2, hf3⟩))
   · -- 11
    rintro ⟨bs12, cp13, bs16, cp17⟩ S hF hS D hp K hK
    try dsimp only at hF ⊢
    obtain ⟨hf0, hf1, hf2, hf3⟩ := hF
    refine d_need (small := [(3, (.int .i64 ((i : Nat) : Int)))]) ⟨look_b rfl rfl, trivial⟩ ?_
    refine tp rfl (lv_move rfl) ?_
    exact d_closes ⟨look_b rfl rfl, trivial⟩ 11 rfl rfl rfl hS (AgreeR.refl _) (t_sat (fun _ h => h) (hK (bs12, cp13, bs16, cp17) ⟨hf0, hf1, hf2, hf3⟩))
   · -- 12
    rintro ⟨bs12, cp13, bs16, cp17⟩ S hF hS D hp K hK
    try dsimp only at hF ⊢
    obtain ⟨hf0, hf1, hf2, hf3⟩ := hF
    have s10 := hp 10 rfl
    have s11 := hp 11 rfl
    refine d_need (small := [(31, (.slice bs7 q1 cp8)), (32, (.int .i64 ((i : Nat) : Int)))]) ⟨look_row rfl 10 rfl s10, look_row rfl 11 rfl s11, trivial⟩ ?_
    refine tp rfl (lv_indexAddr (k' := i) Try.underlying22 Try.sizeOf23 rfl rfl hok9 (by omega) (by omega) (by omega)) ?_
    exact d_closes ⟨look_row rfl 10 rfl s10, look_row rfl 11 rfl s11, trivial⟩ 12 rfl rfl rfl hS (AgreeR.refl _) (t_sat (fun _ h => h) (hK (bs12, cp13, bs16, cp17) ⟨hf0, hf1, hf2, hf3⟩))
   · -- 13
    rintro ⟨bs12, cp13, bs16, cp17⟩ S hF hS D hp K hK
    try dsimp only at hF ⊢
    obtain ⟨hf0, hf1, hf2, hf3⟩ := hF
    have s12 := hp 12 rfl
    refine d_need (small := [(33, (.pointer (some (ad bs7 i))))]) ⟨look_row rfl 12 rfl s12, trivial⟩ ?_
    refine tp rfl (lv_load Try.isAgg23 rfl (gives_as hVi (gives_sl (mem_cF (nf hS D (k := 19) (i := 13) rfl) (.tail _ (.tail _ (.head _)))) (vals_get (by omega))))) ?_
    exact d_closes ⟨look_row rfl 12 rfl s12, trivial⟩ 13 rfl rfl rfl hS (AgreeR.refl _) (t_sat (fun _ h => h) (hK (bs12, cp13, bs16, cp17) ⟨hf0, hf1, hf2, hf3⟩))
   · -- 14
    rintro ⟨bs12, cp13, bs16, cp17⟩ S hF hS D hp K hK
    try dsimp only at hF ⊢
    obtain ⟨hf0, hf1, hf2, hf3⟩ := hF
    have s13 := hp 13 rfl
    refine d_need (small := [(34, (.slice bi ((es.getD i []).length) ci))]) ⟨look_row rfl 13 rfl s13, trivial⟩ ?_
    refine tp rfl (lv_len Try.underlying23 rfl rfl) ?_
    exact d_closes ⟨look_row rfl 13 rfl s13, trivial⟩ 14 rfl rfl rfl hS (AgreeR.refl _) (t_sat (fun _ h => h) (hK (bs12, cp13, bs16, cp17) ⟨hf0, hf1, hf2, hf3⟩))
   · -- 15
    rintro ⟨bs12, cp13, bs16, cp17⟩ S hF hS D hp K hK
    try dsimp only at hF ⊢
    obtain ⟨hf0, hf1, hf2, hf3⟩ := hF
    have s14 := hp 14 rfl
    refine d_need (small := [(35, (.int .i64 (((es.getD i []).length : Nat) : Int)))]) ⟨look_row rfl 14 rfl s14, trivial⟩ ?_
    refine tp rfl (lv_min (c := ((e2 : Nat) : Int)) rfl rfl (by omega)) ?_
    exact d_closes ⟨look_row rfl 14 rfl s14, trivial⟩ 15 rfl rfl rfl hS (AgreeR.refl _) (t_sat (fun _ h => h) (hK (bs12, cp13, bs16, cp17) ⟨hf0, hf1, hf2, hf3⟩))
   · -- 16
    rintro ⟨bs12, cp13, bs16, cp17⟩ S hF hS D hp K hK
    try dsimp only at hF ⊢
    obtain ⟨hf0, hf1, hf2, hf3⟩ := hF
    have s8 := hp 8 rfl
    have s15 := hp 15 rfl
    refine d_need (small := [(29, (.slice bi ((es.getD i []).length) ci)), (36, (.int .i64 ((e2 : Nat) : Int)))]) ⟨look_row rfl 8 rfl s8, look_row rfl 15 rfl s15, trivial⟩ ?_
    refine tp rfl (lv_slice (l := 0) (h := e2) (m := ci) (v := (.slice bi e2 ci)) Try.underlying23 Try.sizeOf3 rfl rfl rfl rfl (.inr ⟨rfl, rfl⟩) (.inl ⟨_, _, rfl, (by omega), (by omega), (by omega)⟩) (.inr ⟨rfl, rfl⟩) (by simp) (by rw [sbase_zero]; rfl)) ?_
    exact d_closes ⟨look_row rfl 8 rfl s8, look_row rfl 15 rfl s15, trivial⟩ 16 rfl rfl rfl hS (AgreeR.refl _) (t_sat (fun _ h => h) (hK (bs12, cp13, bs16, cp17) ⟨hf0, hf1, hf2, hf3⟩))
   · -- 17
    rintro ⟨bs12, cp13, bs16, cp17⟩ S hF hS D hp K hK
    try dsimp only at hF ⊢
    obtain ⟨hf0, hf1, hf2, hf3⟩ := hF
    have s3 := hp 3 rfl
    have hok14 := hf0 s3
    have hle15 := hf1 s3
    have s16 := hp 16 rfl
    refine d_need (small := [(24, (.slice bs12 0 cp13)), (37, (.slice bi e2 ci))]) ⟨look_row rfl 3 rfl s3, look_row rfl 16 rfl s16, trivial⟩ ?_
    refine t_f2 ?_
    refine t_cF (nf hS D (k := 19) (i := 17) rfl) ?_
    refine t_f4 ?_
    refine t_cF hS ?_
    refine t_cT s3 ?_
    refine tm rfl (mv_append (i := Try.t3) Try.underlying23 Try.type3 rfl rfl rfl (by decide) rfl rfl hok2 (by rw [ints_length, List.length_take]; omega) (Rd.cons (Rd.cons (Rd.cons (Rd.cons (Rd.cons hrc))))) ints_one (by rw [show Try.t3.bytes = 8 from rfl]; omega)) ?_
    rintro _ _ ⟨bs16, cp17, hok18, hle19, rfl, rfl⟩
    simp only [Nat.zero_add] at hok18 hle19 ⊢
    rw [List.nil_append]
    refine t_f1 ?_
    refine t_wF (A := (SlV 23 1 (.slice bs7 q1 cp8) q1 ((V).set i (.slice bs16 e2 cp17)))) (nf hS D (k := 19) (i := 17) rfl) ?_
    refine t_f1 ?_
    refine t_f4 ?_
    refine t_f2 ?_
    refine t_f4 ?_
    refine t_f4 ?_
    exact d_closes ⟨look_row rfl 3 rfl s3, look_row rfl 16 rfl s16, trivial⟩ 17 rfl rfl rfl hS (by exact ⟨.inl rfl, .inl rfl, .inl rfl, .inl rfl, .inl rfl, .inl rfl, .inl rfl, .inl rfl, .inl rfl, .inl rfl, .inl rfl, .inl rfl, .inl rfl, .inl rfl, .inl rfl, .inl rfl, .inl rfl, .inr ⟨rfl, rfl, hS⟩, .inl rfl, trivial⟩) (t_sat (fun _ h => h) (hK (bs12, cp13, bs16, cp17) ⟨hf0, hf1, (fun _ => hok18), (fun _ => hle19)⟩))
   · -- 18
    rintro ⟨bs12, cp13, bs16, cp17⟩ S hF hS D hp K hK
    try dsimp only at hF ⊢
    obtain ⟨hf0, hf1, hf2, hf3⟩ := hF
    have s3 := hp 3 rfl
    have hok14 := hf0 s3
    have hle15 := hf1 s3
    have s17 := hp 17 rfl
    have hok18 := hf2 s17
    have hle19 := hf3 s17
    have s1 := hp 1 rfl
    have s2 := hp 2 rfl
    refine d_need (small := [(22, (.slice bs7 q1 cp8)), (23, (.int .i64 ((i : Nat) : Int)))]) ⟨look_row rfl 1 rfl s1, look_row rfl 2 rfl s2, trivial⟩ ?_
    refine tp rfl (lv_indexAddr (k' := i) Try.underlying22 Try.sizeOf23 rfl rfl hok9 (by omega) (by omega) (by omega)) ?_
    exact d_closes ⟨look_row rfl 1 rfl s1, look_row rfl 2 rfl s2, trivial⟩ 18 rfl rfl rfl hS (AgreeR.refl _) (t_sat (fun _ h => h) (hK (bs12, cp13, bs16, cp17) ⟨hf0, hf1, hf2, hf3⟩))
   · -- 19
    rintro ⟨bs12, cp13, bs16, cp17⟩ S hF hS D hp K hK
    try dsimp only at hF ⊢
    obtain ⟨hf0, hf1, hf2, hf3⟩ := hF
    have s3 := hp 3 rfl
    have hok14 := hf0 s3
    have hle15 := hf1 s3
    have s17 := hp 17 rfl
    have hok18 := hf2 s17
    have hle19 := hf3 s17
    have s18 := hp 18 rfl
    refine d_need (small := [(38, (.slice bs16 e2 cp17)), (39, (.pointer (some (ad bs7 i))))]) ⟨look_row rfl 17 rfl s17, look_row rfl 18 rfl s18, trivial⟩ ?_
    refine t_f2 ?_
    refine t_cF hS ?_
    refine ts (sv_sl Try.sizeOf23 rfl rfl rfl (by first | (simp; omega) | omega) rfl) ?_
    refine t_f2 ?_
    refine t_f2 ?_
    exact d_closes0 ⟨look_row rfl 17 rfl s17, look_row rfl 18 rfl s18, trivial⟩ rfl (t_sat (fun _ h => h) (hK (bs12, cp13, bs16, cp17) ⟨hf0, hf1, hf2, hf3⟩))
  · -- behind
   rintro ⟨bs12, cp13, bs16, cp17⟩ hF
   try dsimp only at hF ⊢
   obtain ⟨hf0, hf1, hf2, hf3⟩ := hF
   have hok14 := hf0 rfl
   have hle15 := hf1 rfl
   have hok18 := hf2 rfl
   have hle19 := hf3 rfl
   refine t_weak (E' := [(0, (.agg #[(.int .i64 n), (.slice be es.length ce), (.slice bo own.length co)])), (1, (.pointer (some ⟨b1, 0, none⟩))), (2, (.pointer (some ⟨b2, 0, none⟩))), (3, (.int .i64 ((i : Nat) : Int))), (18, (.bool true))]) ⟨rfl, rfl, rfl, rfl, rfl, trivial⟩ ?_
   refine q_in_n ?_
   refine q_then_n (hK8 _ _ ?_)
   refine c_region ?_
   refine t_f4 ?_
   refine t_sat (fun _ h => Sat.shutIn (xs := (es.getD i []).take e2) (by rw [List.length_take]; omega) hok18 hle19 h) ?_
   refine t_sat (fun _ h => sat_snocRow (by rw [List.length_take, List.length_take]; omega) h) ?_
   rw [show V.take i ++ [(.slice bs16 e2 cp17)] = ((V).set i (.slice bs16 e2 cp17)).take (i + 1) from (take_setV (by omega)).symm, show (cutE es).take i ++ [(es.getD i []).take e2] = (cutE es).take (i + 1) from by rw [take_succL (by omega), cutE_get (by omega) (by omega), take_min he2]]
   refine tp rfl (lv_move rfl) ?_
   refine tp rfl (lv_add (c := ((i + 1 : Nat) : Int)) rfl rfl (wr_i64_succ (by omega))) ?_
   refine tp rfl (lv_assign rfl) ?_
   refine t_done ?_
   refine q_then_n ?_
   exact t_weak (by exact ⟨rfl, rfl, rfl, rfl, trivial⟩) ((hK5 (i + 1, (V).set i (.slice bs16 e2 cp17)) ⟨by dsimp only; omega, by simpa using hVl, fun j hj hj2 => by rw [setV (by omega), if_neg (by omega)]; exact hV j (by omega) hj2⟩ (by dsimp only; omega)))
 · -- no
  refine tp rfl (lv_lss rfl rfl (decide_eq_false h11)) ?_
  refine t_done ?_
  refine q_then_n (hK7 _ _ ?_)
  refine c_false rfl ?_
  refine c_exit ?_
  refine q_then_x ?_
  refine q_then_x ?_
  refine q_in_x ?_
  refine q_then_n (hK3 _ _ ?_)
  refine c_seq (fun K8 hK8 => ?_)
  refine c_region ?_
  rw [show V.take i = V from List.take_of_length_le (by omega), show (cutE es).take i = cutE es from List.take_of_length_le (by omega)]
  have hrdO : Rd R bo (ints .i64 (own.take q2)) := rd_tk_ints q2 ho
  refine tm rfl (mv_buildSlice (cs := []) Try.underlying23 Try.sizeOf3 Try.zeroValue3 (by decide) rfl rfl rfl rfl) ?_
  rintro _ _ ⟨bs20, cp21, hok22, hle23, rfl, rfl⟩
  refine tp rfl (lv_fieldAddr (o' := 2) Try.underlying25 rfl Try.sizeOf23 rfl rfl) ?_
  refine tp rfl (lv_load Try.isAgg23 rfl (gives_blk (.tail _ (.tail _ (.head _))) rfl)) ?_
  refine tp rfl (lv_fieldAddr (o' := 2) Try.underlying25 rfl Try.sizeOf23 rfl rfl) ?_
  refine tp rfl (lv_load Try.isAgg23 rfl (gives_blk (.tail _ (.tail _ (.head _))) rfl)) ?_
  refine tp rfl (lv_len Try.underlying23 rfl rfl) ?_
  refine tp rfl (lv_min (c := ((q2 : Nat) : Int)) rfl rfl (by omega)) ?_
  refine tp rfl (lv_slice (l := 0) (h := q2) (m := co) (v := (.slice bo q2 co)) Try.underlying23 Try.sizeOf3 rfl rfl rfl rfl (.inr ⟨rfl, rfl⟩) (.inl ⟨_, _, rfl, (by omega), (by omega), (by omega)⟩) (.inr ⟨rfl, rfl⟩) (by simp) (by rw [sbase_zero]; rfl)) ?_
  refine tm rfl (mv_append (i := Try.t3) Try.underlying23 Try.type3 rfl rfl rfl (by decide) rfl rfl (fun hz => hbo (by omega)) (by rw [ints_length, List.length_take]; omega) (Rd.cons (Rd.cons (Rd.cons (Rd.cons (Rd.cons (rd_tk_ints q2 ho)))))) ints_one (by rw [show Try.t3.bytes = 8 from rfl]; omega)) ?_
  rintro _ _ ⟨bs24, cp25, hok26, hle27, rfl, rfl⟩
  simp only [Nat.zero_add] at hok26 hle27 ⊢
  rw [List.nil_append]
  refine tp rfl (lv_fieldAddr (o' := 2) Try.underlying25 rfl Try.sizeOf23 rfl rfl) ?_
  refine t_f2 ?_
  refine ts (sv_blk Try.sizeOf23 rfl rfl rfl (Nat.le_of_ble_eq_true rfl) rfl) ?_
  refine t_done ?_
  refine q_then_n (hK8 _ _ ?_)
  refine c_seq (fun K9 hK9 => ?_)
  refine c_region ?_
  refine tp rfl (lv_loadAgg (cs := [(.int .i64 n), (.slice bs7 q1 cp8), (.slice bs24 q2 cp25)]) Try.isAgg25 Try.sizeOf25 rfl (gives_all3 (gives_blk (.head _) rfl) (gives_blk (.head _) rfl) (gives_blk (.head _) rfl))) ?_
  refine t_f4 ?_
  refine ts (sv_blkAgg (news := [(.int .i64 n), (.slice bs7 q1 cp8), (.slice bs24 q2 cp25)]) Try.sizeOf25 rfl rfl rfl rfl (Nat.le_of_ble_eq_true rfl) rfl) ?_
  refine t_done ?_
  refine q_then_n (hK9 _ _ ?_)
  refine c_ret ?_
  refine t_f1 ?_
  refine t_drop ?_
  refine t_f2 ?_
  refine t_f2 ?_
  refine t_f3 ?_
  refine t_f3 ?_
  refine q_retc (cs := [(.int .i64 n), (.slice bs7 q1 cp8), (.slice bs24 q2 cp25)]) rfl rfl Try.isAgg25 Try.sizeOf25 (gives_all3 (gives_blk (.head _) rfl) (gives_blk (.head _) rfl) (gives_blk (.head _) rfl)) (fun _ h => h.drop) ?_
  exact ⟨_, _, _, _, V, ⟨hok9, hle10, hok26, hle27, hVl⟩, rfl, rfl⟩
end Go.Proofs.Ytljnaefaahphaaa
