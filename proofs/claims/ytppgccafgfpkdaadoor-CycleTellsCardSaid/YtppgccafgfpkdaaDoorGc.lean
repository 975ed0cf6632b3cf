/- Contracts of the graph's functions, the third part. -/
import Derived.Test.YtppgccafgfpkdaaDoorGa
import Derived.Test.YtppgccafgfpkdaaDoorTzn
set_option maxRecDepth 100000
set_option linter.unusedVariables false
set_option linter.unusedSimpArgs false
namespace Go.Proofs.YtppgccafgfpkdaaDoor
open Go Go.Proofs Sp
theorem tz_ok {R : List HP} (m : Nat) (h0 : m ≠ 0) (hm : m < 2 ^ 64) (hT : Tab R) :
    Ok Tryd.prog 47 [(.int .u64 ((m : Nat) : Int))] R
      (fun v M => v = .int .i64 ((Lib.ctz 64 m : Nat) : Int) ∧ M = R) := by
  have hc := ctz_lt h0 hm
  have hd := Lib.deBruijn64_at _ hc
  refine ok_of (N := 14) Tryd.func47 rfl rfl rfl (fun W => ?_)
  refine c_seq (fun K1 hK1 => ?_)
  refine c_region ?_
  refine tp rfl (lv_assign rfl) ?_
  refine t_done ?_
  refine q_then_n (hK1 _ _ ?_)
  refine c_seq (fun K2 hK2 => ?_)
  refine c_seq (fun K3 hK3 => ?_)
  refine c_region ?_
  refine tp rfl (lv_move rfl) ?_
  refine tp rfl (lv_eql rfl rfl (beq_eq_false_iff_ne.2 (by omega))) ?_
  refine t_done ?_
  refine q_then_n (hK3 _ _ ?_)
  refine c_false rfl ?_
  refine c_skip ?_
  refine q_then_n (hK2 _ _ ?_)
  refine c_seq (fun K4 hK4 => ?_)
  refine c_region ?_
  refine tp rfl (lv_move rfl) ?_
  refine tp rfl (lv_move rfl) ?_
  refine tp rfl (lv_neg rfl (neg_u64 h0 hm)) ?_
  refine tp rfl (lv_and (c := ((2 ^ Lib.ctz 64 m : Nat) : Int)) rfl rfl (and_low h0 hm)) ?_
  refine tp rfl (lv_mul (c := ((2 ^ Lib.ctz 64 m * 285870213051353865 % 18446744073709551616 : Nat) : Int)) rfl rfl (mul_low _)) ?_
  refine tp rfl (lv_shr (c := ((2 ^ Lib.ctz 64 m * 285870213051353865 % 18446744073709551616 / 288230376151711744 : Nat) : Int)) rfl rfl (by decide) (shr_58 _)) ?_
  refine tp rfl (lv_indexArr (k' := 2 ^ Lib.ctz 64 m * 285870213051353865 % 18446744073709551616 / 288230376151711744) Tryd.underlying75 Tryd.sizeOf5 rfl rfl (Int.natCast_nonneg _) (Int.ofNat_lt.2 hd.1) (by rw [Nat.mul_one, Int.toNat_natCast])) ?_
  refine tp rfl (lv_load Tryd.isAgg5 rfl (hT (2 ^ Lib.ctz 64 m * 285870213051353865 % 18446744073709551616 / 288230376151711744) hd.1)) ?_
  refine tp rfl (lv_convert (c := ((Lib.ctz 64 m : Nat) : Int)) Tryd.underlying5 Tryd.underlying3 rfl (by rw [hd.2]; exact wr_i64 (by omega) (by omega))) ?_
  refine tp rfl (lv_assign rfl) ?_
  refine t_done ?_
  refine q_then_n (hK4 _ _ ?_)
  refine c_ret ?_
  refine q_ret rfl rfl ?_
  exact ⟨rfl, rfl⟩

set_option maxHeartbeats 4000000 in
theorem rset_ok {R : List HP} {p N : Nat} {es : Es} (a : Nat) (ha : a < N) (hT : Tab R) :
    Ok Tryd.prog 41 [(.pointer (some ⟨p, 0, none⟩)), (.int .i64 ((a : Nat) : Int))] ((GraphO p N es) :: R)
      (fun v M => ∃ m : Nat, m < 2 ^ 64 ∧ (∀ i : Nat, m.testBit i = true ↔ Rch es (a : Int) (i : Int)) ∧ v = .int .u64 (m : Int) ∧ M = GraphO p N es :: R) := by
  refine ok_of (N := 29) Tryd.func41 rfl rfl rfl (fun W => ?_)
  refine t_learn (fun _ h => gok_of h) (fun hgok => ?_)
  have hsmall := hgok.small
  refine c_seq (fun K1 hK1 => ?_)
  refine c_region ?_
  refine tp rfl (lv_assign rfl) ?_
  refine t_done ?_
  refine q_then_n (hK1 _ _ ?_)
  refine c_seq (fun K2 hK2 => ?_)
  refine c_draw (γ := Unit) (n := 4) Tryd.mixed rfl rfl (fun _ S => True) (fun _ => [(0, 8, (.int .i64 ((a : Nat) : Int))), (1, 9, (.int .u64 ((2 ^ a : Nat) : Int))), (2, 5, (.int .u64 0)), (3, 6, (.int .u64 ((2 ^ a : Nat) : Int)))]) (fun _ S => (GraphO p N es) :: R) (()) trivial (fun _ h => h) (fun _ _ h => h) ?_ ?_
  · -- steps
    refine ⟨?_, ?_, ?_, ?_, trivial⟩
    · -- 0
      rintro _ S hF hS D hp K hK
      try dsimp only at hF ⊢
      refine d_need (small := [(1, (.int .i64 ((a : Nat) : Int)))]) ⟨look_b rfl rfl, trivial⟩ ?_
      refine tp rfl (lv_move rfl) ?_
      exact d_closes ⟨look_b rfl rfl, trivial⟩ 0 rfl rfl rfl hS (AgreeR.refl _) (t_sat (fun _ h => h) (hK () trivial))
    · -- 1
      rintro _ S hF hS D hp K hK
      try dsimp only at hF ⊢
      have s0 := hp 0 rfl
      refine d_need (small := [(8, (.int .i64 ((a : Nat) : Int)))]) ⟨look_row rfl 0 rfl s0, trivial⟩ ?_
      refine tp rfl (lv_shl (c := ((2 ^ a : Nat) : Int)) rfl rfl (by omega) (bShl_one a (by omega))) ?_
      exact d_closes ⟨look_row rfl 0 rfl s0, trivial⟩ 1 rfl rfl rfl hS (AgreeR.refl _) (t_sat (fun _ h => h) (hK () trivial))
    · -- 2
      rintro _ S hF hS D hp K hK
      try dsimp only at hF ⊢
      refine d_need (small := []) trivial ?_
      refine tp rfl (lv_assign rfl) ?_
      exact d_closes trivial 2 rfl rfl rfl hS (AgreeR.refl _) (t_sat (fun _ h => h) (hK () trivial))
    · -- 3
      rintro _ S hF hS D hp K hK
      try dsimp only at hF ⊢
      have s1 := hp 1 rfl
      refine d_need (small := [(9, (.int .u64 ((2 ^ a : Nat) : Int)))]) ⟨look_row rfl 1 rfl s1, trivial⟩ ?_
      refine tp rfl (lv_assign rfl) ?_
      exact d_closes ⟨look_row rfl 1 rfl s1, trivial⟩ 3 rfl rfl rfl hS (AgreeR.refl _) (t_sat (fun _ h => h) (hK () trivial))
  · -- behind
    rintro _ hF
    try dsimp only at hF ⊢
    refine t_weak (E' := [(0, (.pointer (some ⟨p, 0, none⟩))), (1, (.int .i64 ((a : Nat) : Int))), (4, (.int .u64 0)), (5, (.int .u64 0)), (6, (.int .u64 ((2 ^ a : Nat) : Int)))]) ⟨rfl, rfl, rfl, rfl, rfl, trivial⟩ ?_
    refine q_then_n (hK2 _ _ ?_)
    refine c_seq (fun K3 hK3 => ?_)
    refine c_block ?_
    refine c_loop (γ := (Nat) × (Nat)) (fun (s, o) => RInv N es a s o) (fun (s, o) => [(0, (.pointer (some ⟨p, 0, none⟩))), (5, (.int .u64 ((s : Nat) : Int))), (6, (.int .u64 ((o : Nat) : Int)))]) (fun (s, o) => (GraphO p N es) :: R) (fun (s, o) => unseen s) (0, 2 ^ a) (RInv.init a (by omega)) ⟨rfl, rfl, rfl, trivial⟩ (fun _ h => h) ?_
    rintro ⟨s, o⟩ K4 hF hK4
    try dsimp only at hF hK4 ⊢
    have hsl := hF.sl
    have hol := hF.ol
    refine c_seq (fun K5 hK5 => ?_)
    refine c_seq (fun K6 hK6 => ?_)
    refine c_region ?_
    refine tp rfl (lv_move rfl) ?_
    by_cases hz : ((o : Nat) : Int) = 0
    · -- yes
      refine tp rfl (lv_neq rfl rfl (bne_eq_false_iff_eq.2 hz)) ?_
      refine t_done ?_
      refine q_then_n (hK6 _ _ ?_)
      refine c_false rfl ?_
      refine c_exit ?_
      refine q_then_x ?_
      refine q_then_x ?_
      refine q_in_x ?_
      refine q_then_n (hK3 _ _ ?_)
      refine c_seq (fun K7 hK7 => ?_)
      refine c_region ?_
      refine tp rfl (lv_move rfl) ?_
      refine tp rfl (lv_assign rfl) ?_
      refine t_done ?_
      refine q_then_n (hK7 _ _ ?_)
      refine c_ret ?_
      refine q_ret rfl rfl ?_
      exact ⟨s, hF.sl, (by have e : o = 0 := (by omega); subst e; exact hF.done hgok), rfl, rfl⟩
    · -- no
      refine tp rfl (lv_neq rfl rfl (bne_iff_ne.2 hz)) ?_
      refine t_done ?_
      refine q_then_n (hK6 _ _ ?_)
      refine c_true rfl ?_
      refine c_skip ?_
      refine q_then_n (hK5 _ _ ?_)
      refine c_block ?_
      refine c_seq (fun K7 hK7 => ?_)
      refine c_region ?_
      have h0 : o ≠ 0 := by intro e; subst e; exact absurd rfl ‹_›
      have hcx := ctz_lt h0 hol
      have hcN : Lib.ctz 64 o < N := by have := (hF.reach _ (.inr (ctz_bit h0 hol))).inn hgok ⟨by omega, by omega⟩; omega
      have hwl := with_lt s _ hcx hsl
      have hml := hgok.mask_lt ((Lib.ctz 64 o : Nat) : Int)
      refine tp rfl (lv_move rfl) ?_
      refine tc rfl (en_fn Tryd.call47 rfl) (tz_ok o h0 hol (Tab.cons hT)) ?_
      rintro _ _ ⟨rfl, rfl⟩
      refine tp rfl (lv_assign rfl) ?_
      refine t_done ?_
      refine q_then_n (hK7 _ _ ?_)
      refine c_seq (fun K8 hK8 => ?_)
      refine c_region ?_
      refine tp rfl (lv_move rfl) ?_
      refine tp rfl (lv_move rfl) ?_
      refine tc rfl (en_fn Tryd.call43 rfl) (with_ok s (Lib.ctz 64 o) hcx hsl) ?_
      rintro _ _ ⟨rfl, rfl⟩
      refine tp rfl (lv_assign rfl) ?_
      refine t_done ?_
      refine q_then_n (hK8 _ _ ?_)
      refine c_region ?_
      refine tp rfl (lv_move rfl) ?_
      obtain ⟨o2, ho2, ho2l, ho2b⟩ := bAndNot_nat (o ||| maskL (outs es ((Lib.ctz 64 o : Nat) : Int))) (s ||| 2 ^ Lib.ctz 64 o) (Nat.or_lt_two_pow hol hml) hwl
      have hst := hF.step hgok h0 ho2b
      refine t_openG (fun bo co bi ci bt ct vo vi hG => ?_)
      have gsm := hG.ok.small
      have glo := hG.lo
      have gli := hG.li
      have gml := masksOf_length N es
      refine tp rfl (lv_move rfl) ?_
      refine tp rfl (lv_nilCheck rfl) ?_
      refine tp rfl (lv_fieldAddr (o' := 2) Tryd.underlying64 rfl Tryd.sizeOf62 rfl rfl) ?_
      refine tp rfl (lv_load Tryd.isAgg62 rfl (gives_blk (.head _) rfl)) ?_
      refine tp rfl (lv_move rfl) ?_
      refine tp rfl (lv_indexAddr (k' := Lib.ctz 64 o) Tryd.underlying62 Tryd.sizeOf68 rfl rfl hG.okt (by omega) (by omega) (by omega)) ?_
      refine tp rfl (lv_load Tryd.isAgg68 rfl (gives_as (by rw [masksOf_get (by omega)]) (gives_sl (.tail _ (.tail _ (.tail _ (.head _)))) (ints_get (by first | omega | (simp; omega)))))) ?_
      refine tp rfl (lv_or (c := ((o ||| maskL (outs es ((Lib.ctz 64 o : Nat) : Int)) : Nat) : Int)) rfl rfl (bOr_nat o _ hol hml)) ?_
      refine tp rfl (lv_move rfl) ?_
      refine tp rfl (lv_andNot (c := ((o2 : Nat) : Int)) rfl rfl ho2) ?_
      refine tp rfl (lv_assign rfl) ?_
      refine t_done ?_
      refine q_in_n ?_
      refine q_then_n ?_
      refine t_f5 ?_
      refine t_f5 ?_
      refine t_f5 ?_
      refine t_f5 ?_
      refine t_f5 ?_
      refine t_f5 ?_
      refine t_shutG hG ?_
      exact t_weak (by exact ⟨rfl, rfl, rfl, trivial⟩) ((hK4 (s ||| 2 ^ Lib.ctz 64 o, o2) hst.1 hst.2))

theorem reaches_t {R : List HP} {p N : Nat} {es : Es} (a b : Nat) (ha : a < N) (hb : b < N) (hT : Tab R) :
    Ok Tryd.prog 23 [(.pointer (some ⟨p, 0, none⟩)), (.int .i64 ((a : Nat) : Int)), (.int .i64 ((b : Nat) : Int))] ((GraphO p N es) :: R)
      (fun v M => v = .bool (reachB N es ((a : Nat) : Int) ((b : Nat) : Int)) ∧ M = GraphO p N es :: R) := by
  refine ok_of (N := 19) Tryd.func23 rfl rfl rfl (fun W => ?_)
  refine t_learn (fun _ h => gok_of h) (fun hgok => ?_)
  have hsmall := hgok.small
  refine c_seq (fun K1 hK1 => ?_)
  refine c_region ?_
  refine tp rfl (lv_assign rfl) ?_
  refine t_done ?_
  refine q_then_n (hK1 _ _ ?_)
  refine c_seq (fun K2 hK2 => ?_)
  refine c_region ?_
  refine tp rfl (lv_move rfl) ?_
  refine tp rfl (lv_move rfl) ?_
  refine tp rfl (lv_move rfl) ?_
  refine tm rfl (mv_buildSlice (cs := [(.int .i64 ((a : Nat) : Int)), (.int .i64 ((b : Nat) : Int))]) Tryd.underlying33 Tryd.sizeOf3 Tryd.zeroValue3 (by decide) rfl rfl rfl rfl) ?_
  rintro _ _ ⟨bs1, cp2, hok3, hle4, rfl, rfl⟩
  refine t_f1 ?_
  refine tc rfl (en_fn Tryd.call39 rfl) (there_is (N := N) (es := es) [((a : Nat) : Int), ((b : Nat) : Int)] (there_t2 ha hb) (rd_sl (.head _)) hok3 (by simp)) ?_
  rintro _ _ ⟨rfl, rfl⟩
  refine tp rfl (lv_move rfl) ?_
  refine t_guard rfl rfl ?_
  refine tp rfl (lv_move rfl) ?_
  refine t_guard rfl rfl ?_
  refine tp rfl (lv_move rfl) ?_
  refine t_guard rfl rfl ?_
  refine tc rfl (en_fn Tryd.call41 rfl) (rset_ok (N := N) (es := es) a (by omega) (Tab.cons hT)) ?_
  rintro _ _ ⟨m, hm1, hm2, rfl, rfl⟩
  refine t_guard rfl rfl ?_
  refine tp rfl (lv_move rfl) ?_
  refine t_guard rfl rfl ?_
  refine tc rfl (en_fn Tryd.call42 rfl) (has_ok m b (by omega) hm1) ?_
  rintro _ _ ⟨rfl, rfl⟩
  refine tp rfl (lv_pick_t rfl rfl) ?_
  refine tp rfl (lv_assign rfl) ?_
  refine t_done ?_
  refine q_then_n (hK2 _ _ ?_)
  refine c_ret ?_
  refine t_f1 ?_
  refine t_drop ?_
  refine q_ret rfl rfl ?_
  exact ⟨by rw [show m.testBit b = reachB N es (a : Int) (b : Int) from by unfold reachB; rw [valid_nat ha, valid_nat hb, Bool.and_self, Bool.true_and, Bool.eq_iff_iff, rch_iff]; exact hm2 b], rfl⟩

theorem reaches_f {R : List HP} {p N : Nat} {es : Es} (a b : Int) (hv : thereB N [a, b] = false) (hv' : (valid N a && valid N b) = false) :
    Ok Tryd.prog 23 [(.pointer (some ⟨p, 0, none⟩)), (.int .i64 a), (.int .i64 b)] ((GraphO p N es) :: R)
      (fun v M => v = .bool (reachB N es a b) ∧ M = GraphO p N es :: R) := by
  refine ok_of (N := 19) Tryd.func23 rfl rfl rfl (fun W => ?_)
  refine c_seq (fun K1 hK1 => ?_)
  refine c_region ?_
  refine tp rfl (lv_assign rfl) ?_
  refine t_done ?_
  refine q_then_n (hK1 _ _ ?_)
  refine c_seq (fun K2 hK2 => ?_)
  refine c_region ?_
  refine tp rfl (lv_move rfl) ?_
  refine tp rfl (lv_move rfl) ?_
  refine tp rfl (lv_move rfl) ?_
  refine tm rfl (mv_buildSlice (cs := [(.int .i64 a), (.int .i64 b)]) Tryd.underlying33 Tryd.sizeOf3 Tryd.zeroValue3 (by decide) rfl rfl rfl rfl) ?_
  rintro _ _ ⟨bs1, cp2, hok3, hle4, rfl, rfl⟩
  refine t_f1 ?_
  refine tc rfl (en_fn Tryd.call39 rfl) (there_is (N := N) (es := es) [a, b] hv (rd_sl (.head _)) hok3 (by simp)) ?_
  rintro _ _ ⟨rfl, rfl⟩
  refine tp rfl (lv_move rfl) ?_
  refine t_skip rfl rfl rfl ?_
  refine t_skip rfl rfl rfl ?_
  refine t_skip rfl rfl rfl ?_
  refine t_skip rfl rfl rfl ?_
  refine t_skip rfl rfl rfl ?_
  refine tp rfl (lv_pick_f rfl rfl) ?_
  refine tp rfl (lv_assign rfl) ?_
  refine t_done ?_
  refine q_then_n (hK2 _ _ ?_)
  refine c_ret ?_
  refine t_f1 ?_
  refine t_drop ?_
  refine q_ret rfl rfl ?_
  exact ⟨by rw [show reachB N es a b = false from by unfold reachB; rw [hv']; rfl], rfl⟩

theorem reaches_ok {R : List HP} {p N : Nat} {es : Es} (a b : Int) (hT : Tab R) : Ok Tryd.prog 23 [(.pointer (some ⟨p, 0, none⟩)), (.int .i64 a), (.int .i64 b)] (GraphO p N es :: R)
      (fun v M => v = .bool (reachB N es a b) ∧ M = GraphO p N es :: R) := by
  rcases there_cases2 N a b with ⟨k, m, hk, hm, rfl, rfl⟩ | ⟨h1, h2⟩
  · exact reaches_t k m hk hm hT
  · exact reaches_f a b h1 h2

set_option maxHeartbeats 4000000 in
theorem new_ok {R : List HP} (n : Int) :
    Ok Tryd.prog 26 [(.int .i64 n)] R
      (fun v M => ∃ p, v = .pointer (some ⟨p, 0, none⟩) ∧ M = GraphO p (clampN n) ([] : Es) :: R) := by
  have hcl : clampN n ≤ 64 := by unfold clampN; omega
  have hce : min (max n 0) 64 = ((clampN n : Nat) : Int) := by unfold clampN; omega
  refine ok_of (N := 14) Tryd.func26 rfl rfl rfl (fun W => ?_)
  refine c_seq (fun K1 hK1 => ?_)
  refine c_region ?_
  refine tp rfl (lv_assign rfl) ?_
  refine t_done ?_
  refine q_then_n (hK1 _ _ ?_)
  refine c_seq (fun K2 hK2 => ?_)
  refine c_region ?_
  refine tp rfl (lv_move rfl) ?_
  refine tp rfl (lv_max (c := max n 0) rfl rfl rfl) ?_
  refine tp rfl (lv_min (c := ((clampN n : Nat) : Int)) rfl rfl hce) ?_
  refine tp rfl (lv_assign rfl) ?_
  refine t_done ?_
  refine q_then_n (hK2 _ _ ?_)
  refine c_seq (fun K3 hK3 => ?_)
  refine c_draw (γ := Option Addr × Nat × Option Addr × Nat × Option Addr × Nat × Nat) (n := 9) Tryd.mixed rfl rfl (fun (bs1, cp2, bs5, cp6, bs9, cp10, b13) S => (S 1 = true → SlOk bs1 (clampN n)) ∧ (S 1 = true → clampN n ≤ cp2) ∧ (S 3 = true → SlOk bs5 (clampN n)) ∧ (S 3 = true → clampN n ≤ cp6) ∧ (S 5 = true → SlOk bs9 (clampN n)) ∧ (S 5 = true → clampN n ≤ cp10)) (fun (bs1, cp2, bs5, cp6, bs9, cp10, b13) => [(0, 6, (.int .i64 ((clampN n : Nat) : Int))), (1, 7, (.slice bs1 (clampN n) cp2)), (2, 8, (.int .i64 ((clampN n : Nat) : Int))), (3, 9, (.slice bs5 (clampN n) cp6)), (4, 10, (.int .i64 ((clampN n : Nat) : Int))), (5, 11, (.slice bs9 (clampN n) cp10)), (6, 12, (.agg #[(.slice bs1 (clampN n) cp2), (.slice bs5 (clampN n) cp6), (.slice bs9 (clampN n) cp10), (.int .i64 0)])), (7, 13, (.pointer (some ⟨b13, 0, none⟩))), (8, 2, (.pointer (some ⟨b13, 0, none⟩)))]) (fun (bs1, cp2, bs5, cp6, bs9, cp10, b13) S => (bif S 1 then (SlV 33 1 (.slice bs1 (clampN n) cp2) (clampN n) (List.replicate (clampN n) (.slice none 0 0))) else Emp) :: (bif S 3 then (SlV 33 1 (.slice bs5 (clampN n) cp6) (clampN n) (List.replicate (clampN n) (.slice none 0 0))) else Emp) :: (bif S 5 then (SlV 68 1 (.slice bs9 (clampN n) cp10) (clampN n) (ints .u64 (List.replicate (clampN n) 0))) else Emp) :: (bif S 7 then (Blk b13 [(.slice bs1 (clampN n) cp2), (.slice bs5 (clampN n) cp6), (.slice bs9 (clampN n) cp10), (.int .i64 0)] 64) else Emp) :: R) (none, 0, none, 0, none, 0, 0) (by simp [Nat.ble]) (fun _ h => sat_emps [] 4 h) (fun _ _ h => h) ?_ ?_
  · -- steps
    refine ⟨?_, ?_, ?_, ?_, ?_, ?_, ?_, ?_, ?_, trivial⟩
    · -- 0
      rintro ⟨bs1, cp2, bs5, cp6, bs9, cp10, b13⟩ S hF hS D hp K hK
      try dsimp only at hF ⊢
      obtain ⟨hf0, hf1, hf2, hf3, hf4, hf5⟩ := hF
      refine d_need (small := [(0, (.int .i64 ((clampN n : Nat) : Int)))]) ⟨look_b rfl rfl, trivial⟩ ?_
      refine tp rfl (lv_move rfl) ?_
      exact d_closes ⟨look_b rfl rfl, trivial⟩ 0 rfl rfl rfl hS (AgreeR.refl _) (t_sat (fun _ h => h) (hK (bs1, cp2, bs5, cp6, bs9, cp10, b13) ⟨hf0, hf1, hf2, hf3, hf4, hf5⟩))
    · -- 1
      rintro ⟨bs1, cp2, bs5, cp6, bs9, cp10, b13⟩ S hF hS D hp K hK
      try dsimp only at hF ⊢
      obtain ⟨hf0, hf1, hf2, hf3, hf4, hf5⟩ := hF
      have s0 := hp 0 rfl
      refine d_need (small := [(6, (.int .i64 ((clampN n : Nat) : Int)))]) ⟨look_row rfl 0 rfl s0, trivial⟩ ?_
      refine tm rfl (mv_makeSlice (i := Tryd.t33) Tryd.underlying61 Tryd.type33 rfl rfl rfl rfl rfl (by omega) (by rw [show Tryd.t33.bytes = 24 from rfl]; omega) (by omega)) ?_
      rintro _ _ ⟨bs1, cp2, hok3, hle4, rfl, rfl⟩
      refine t_f4 ?_
      refine t_cF (nf (nf hS D (k := 6) (i := 1) rfl) D (k := 7) (i := 6) rfl) ?_
      refine t_wF (A := (Blk b13 [(.slice bs1 (clampN n) cp2), (.slice bs5 (clampN n) cp6), (.slice bs9 (clampN n) cp10), (.int .i64 0)] 64)) (nf (nf hS D (k := 6) (i := 1) rfl) D (k := 7) (i := 6) rfl) ?_
      refine t_f4 ?_
      refine t_f4 ?_
      refine t_f4 ?_
      refine t_f4 ?_
      refine t_sat (fun _ h => sat_put [] h) ?_
      exact d_closes ⟨look_row rfl 0 rfl s0, trivial⟩ 1 rfl rfl rfl hS (by exact ⟨.inl rfl, .inr ⟨rfl, rfl, hS⟩, .inl rfl, .inl rfl, .inl rfl, .inl rfl, .inr ⟨rfl, rfl, (nf hS D (k := 6) (i := 1) rfl)⟩, .inl rfl, .inl rfl, trivial⟩) (t_sat (fun _ h => h) (hK (bs1, cp2, bs5, cp6, bs9, cp10, b13) ⟨(fun _ => hok3), (fun _ => hle4), hf2, hf3, hf4, hf5⟩))
    · -- 2
      rintro ⟨bs1, cp2, bs5, cp6, bs9, cp10, b13⟩ S hF hS D hp K hK
      try dsimp only at hF ⊢
      obtain ⟨hf0, hf1, hf2, hf3, hf4, hf5⟩ := hF
      refine d_need (small := [(0, (.int .i64 ((clampN n : Nat) : Int)))]) ⟨look_b rfl rfl, trivial⟩ ?_
      refine tp rfl (lv_move rfl) ?_
      exact d_closes ⟨look_b rfl rfl, trivial⟩ 2 rfl rfl rfl hS (AgreeR.refl _) (t_sat (fun _ h => h) (hK (bs1, cp2, bs5, cp6, bs9, cp10, b13) ⟨hf0, hf1, hf2, hf3, hf4, hf5⟩))
    · -- 3
      rintro ⟨bs1, cp2, bs5, cp6, bs9, cp10, b13⟩ S hF hS D hp K hK
      try dsimp only at hF ⊢
      obtain ⟨hf0, hf1, hf2, hf3, hf4, hf5⟩ := hF
      have s2 := hp 2 rfl
      refine d_need (small := [(8, (.int .i64 ((clampN n : Nat) : Int)))]) ⟨look_row rfl 2 rfl s2, trivial⟩ ?_
      refine tm rfl (mv_makeSlice (i := Tryd.t33) Tryd.underlying61 Tryd.type33 rfl rfl rfl rfl rfl (by omega) (by rw [show Tryd.t33.bytes = 24 from rfl]; omega) (by omega)) ?_
      rintro _ _ ⟨bs5, cp6, hok7, hle8, rfl, rfl⟩
      refine t_f4 ?_
      refine t_cF (nf (nf hS D (k := 6) (i := 3) rfl) D (k := 7) (i := 6) rfl) ?_
      refine t_wF (A := (Blk b13 [(.slice bs1 (clampN n) cp2), (.slice bs5 (clampN n) cp6), (.slice bs9 (clampN n) cp10), (.int .i64 0)] 64)) (nf (nf hS D (k := 6) (i := 3) rfl) D (k := 7) (i := 6) rfl) ?_
      refine t_f4 ?_
      refine t_f4 ?_
      refine t_f4 ?_
      refine t_f4 ?_
      refine t_sat (fun _ h => sat_put [_] h) ?_
      exact d_closes ⟨look_row rfl 2 rfl s2, trivial⟩ 3 rfl rfl rfl hS (by exact ⟨.inl rfl, .inl rfl, .inl rfl, .inr ⟨rfl, rfl, hS⟩, .inl rfl, .inl rfl, .inr ⟨rfl, rfl, (nf hS D (k := 6) (i := 3) rfl)⟩, .inl rfl, .inl rfl, trivial⟩) (t_sat (fun _ h => h) (hK (bs1, cp2, bs5, cp6, bs9, cp10, b13) ⟨hf0, hf1, (fun _ => hok7), (fun _ => hle8), hf4, hf5⟩))
    · -- 4
      rintro ⟨bs1, cp2, bs5, cp6, bs9, cp10, b13⟩ S hF hS D hp K hK
      try dsimp only at hF ⊢
      obtain ⟨hf0, hf1, hf2, hf3, hf4, hf5⟩ := hF
      refine d_need (small := [(0, (.int .i64 ((clampN n : Nat) : Int)))]) ⟨look_b rfl rfl, trivial⟩ ?_
      refine tp rfl (lv_move rfl) ?_
      exact d_closes ⟨look_b rfl rfl, trivial⟩ 4 rfl rfl rfl hS (AgreeR.refl _) (t_sat (fun _ h => h) (hK (bs1, cp2, bs5, cp6, bs9, cp10, b13) ⟨hf0, hf1, hf2, hf3, hf4, hf5⟩))
    · -- 5
      rintro ⟨bs1, cp2, bs5, cp6, bs9, cp10, b13⟩ S hF hS D hp K hK
      try dsimp only at hF ⊢
      obtain ⟨hf0, hf1, hf2, hf3, hf4, hf5⟩ := hF
      have s4 := hp 4 rfl
      refine d_need (small := [(10, (.int .i64 ((clampN n : Nat) : Int)))]) ⟨look_row rfl 4 rfl s4, trivial⟩ ?_
      refine tm rfl (mv_makeSlice (i := Tryd.t68) Tryd.underlying62 Tryd.type68 rfl rfl rfl rfl rfl (by omega) (by rw [show Tryd.t68.bytes = 8 from rfl]; omega) (by omega)) ?_
      rintro _ _ ⟨bs9, cp10, hok11, hle12, rfl, rfl⟩
      rw [ints_rep]
      refine t_f4 ?_
      refine t_cF (nf (nf hS D (k := 6) (i := 5) rfl) D (k := 7) (i := 6) rfl) ?_
      refine t_wF (A := (Blk b13 [(.slice bs1 (clampN n) cp2), (.slice bs5 (clampN n) cp6), (.slice bs9 (clampN n) cp10), (.int .i64 0)] 64)) (nf (nf hS D (k := 6) (i := 5) rfl) D (k := 7) (i := 6) rfl) ?_
      refine t_f4 ?_
      refine t_f4 ?_
      refine t_f4 ?_
      refine t_f4 ?_
      refine t_sat (fun _ h => sat_put [_, _] h) ?_
      exact d_closes ⟨look_row rfl 4 rfl s4, trivial⟩ 5 rfl rfl rfl hS (by exact ⟨.inl rfl, .inl rfl, .inl rfl, .inl rfl, .inl rfl, .inr ⟨rfl, rfl, hS⟩, .inr ⟨rfl, rfl, (nf hS D (k := 6) (i := 5) rfl)⟩, .inl rfl, .inl rfl, trivial⟩) (t_sat (fun _ h => h) (hK (bs1, cp2, bs5, cp6, bs9, cp10, b13) ⟨hf0, hf1, hf2, hf3, (fun _ => hok11), (fun _ => hle12)⟩))
    · -- 6
      rintro ⟨bs1, cp2, bs5, cp6, bs9, cp10, b13⟩ S hF hS D hp K hK
      try dsimp only at hF ⊢
      obtain ⟨hf0, hf1, hf2, hf3, hf4, hf5⟩ := hF
      have s1 := hp 1 rfl
      have hok3 := hf0 s1
      have hle4 := hf1 s1
      have s3 := hp 3 rfl
      have hok7 := hf2 s3
      have hle8 := hf3 s3
      have s5 := hp 5 rfl
      have hok11 := hf4 s5
      have hle12 := hf5 s5
      refine d_need (small := [(7, (.slice bs1 (clampN n) cp2)), (9, (.slice bs5 (clampN n) cp6)), (11, (.slice bs9 (clampN n) cp10))]) ⟨look_row rfl 1 rfl s1, look_row rfl 3 rfl s3, look_row rfl 5 rfl s5, trivial⟩ ?_
      refine tp rfl (lv_build (cs := [(.slice bs1 (clampN n) cp2), (.slice bs5 (clampN n) cp6), (.slice bs9 (clampN n) cp10), (.int .i64 0)]) (pl := [(0, 1), (1, 1), (2, 1), (3, 1)]) Tryd.underlying64 Tryd.zeroValue64 (fun _ => by simp) rfl rfl) ?_
      exact d_closes ⟨look_row rfl 1 rfl s1, look_row rfl 3 rfl s3, look_row rfl 5 rfl s5, trivial⟩ 6 rfl rfl rfl hS (AgreeR.refl _) (t_sat (fun _ h => h) (hK (bs1, cp2, bs5, cp6, bs9, cp10, b13) ⟨hf0, hf1, hf2, hf3, hf4, hf5⟩))
    · -- 7
      rintro ⟨bs1, cp2, bs5, cp6, bs9, cp10, b13⟩ S hF hS D hp K hK
      try dsimp only at hF ⊢
      obtain ⟨hf0, hf1, hf2, hf3, hf4, hf5⟩ := hF
      have s6 := hp 6 rfl
      have s1 := D 6 1 rfl s6
      have hok3 := hf0 s1
      have hle4 := hf1 s1
      have s3 := D 6 3 rfl s6
      have hok7 := hf2 s3
      have hle8 := hf3 s3
      have s5 := D 6 5 rfl s6
      have hok11 := hf4 s5
      have hle12 := hf5 s5
      refine d_need (small := [(12, (.agg #[(.slice bs1 (clampN n) cp2), (.slice bs5 (clampN n) cp6), (.slice bs9 (clampN n) cp10), (.int .i64 0)]))]) ⟨look_row rfl 6 rfl s6, trivial⟩ ?_
      refine tm rfl (mv_box rfl rfl) ?_
      rintro _ _ ⟨b13, rfl, rfl⟩
      refine t_sat (fun _ h => sat_put [_, _, _] h) ?_
      exact d_closes ⟨look_row rfl 6 rfl s6, trivial⟩ 7 rfl rfl rfl hS (by exact ⟨.inl rfl, .inl rfl, .inl rfl, .inl rfl, .inl rfl, .inl rfl, .inl rfl, .inr ⟨rfl, rfl, hS⟩, .inr ⟨rfl, rfl, (nf hS D (k := 8) (i := 7) rfl)⟩, trivial⟩) (t_sat (fun _ h => h) (hK (bs1, cp2, bs5, cp6, bs9, cp10, b13) ⟨hf0, hf1, hf2, hf3, hf4, hf5⟩))
    · -- 8
      rintro ⟨bs1, cp2, bs5, cp6, bs9, cp10, b13⟩ S hF hS D hp K hK
      try dsimp only at hF ⊢
      obtain ⟨hf0, hf1, hf2, hf3, hf4, hf5⟩ := hF
      have s7 := hp 7 rfl
      refine d_need (small := [(13, (.pointer (some ⟨b13, 0, none⟩)))]) ⟨look_row rfl 7 rfl s7, trivial⟩ ?_
      refine tp rfl (lv_assign rfl) ?_
      exact d_closes ⟨look_row rfl 7 rfl s7, trivial⟩ 8 rfl rfl rfl hS (AgreeR.refl _) (t_sat (fun _ h => h) (hK (bs1, cp2, bs5, cp6, bs9, cp10, b13) ⟨hf0, hf1, hf2, hf3, hf4, hf5⟩))
  · -- behind
    rintro ⟨bs1, cp2, bs5, cp6, bs9, cp10, b13⟩ hF
    try dsimp only at hF ⊢
    obtain ⟨hf0, hf1, hf2, hf3, hf4, hf5⟩ := hF
    have hok3 := hf0 rfl
    have hle4 := hf1 rfl
    have hok7 := hf2 rfl
    have hle8 := hf3 rfl
    have hok11 := hf4 rfl
    have hle12 := hf5 rfl
    refine t_weak (E' := [(0, (.int .i64 ((clampN n : Nat) : Int))), (2, (.pointer (some ⟨b13, 0, none⟩)))]) ⟨rfl, rfl, trivial⟩ ?_
    refine q_then_n (hK3 _ _ ?_)
    refine c_ret ?_
    refine t_f2 ?_
    refine t_f2 ?_
    refine t_f2 ?_
    refine t_f3 ?_
    refine t_sat (fun _ h => sat_newG (by omega) hok3 hok7 hok11 h) ?_
    refine q_ret rfl rfl ?_
    exact ⟨_, rfl, rfl⟩
end Go.Proofs.YtppgccafgfpkdaaDoor
