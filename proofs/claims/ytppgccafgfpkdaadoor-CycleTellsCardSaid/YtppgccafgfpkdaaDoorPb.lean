/- Contracts of cycle: Path, Closes. -/
import Derived.Test.YtppgccafgfpkdaaDoorPa
set_option maxRecDepth 100000
set_option linter.unusedVariables false
set_option linter.unusedSimpArgs false
namespace Go.Proofs.YtppgccafgfpkdaaDoor
open Go Go.Proofs Sp
set_option maxHeartbeats 4000000 in
theorem path1_ok {R : List HP} (x y : Int) {c1 c2 N cp : Nat} {E : Es} {to : Int} {bf : Option Addr} (hx : 0 ≤ x ∧ x < N) (hy : 0 ≤ y ∧ y < N) (hf : Rd R bf (ints .i64 (farL N E to))) (okf : SlOk bf N) (h1 : Gives R ⟨c1, 0, none⟩ (.slice bf N cp)) (h2 : Gives R ⟨c2, 0, none⟩ (.int .i64 y)) (hlow : -1 ≤ farF E to y) (hup : farF E to y < 100) :
    Ok Tryd.prog 33 [(.int .i64 x), (.pointer (some ⟨c1, 0, none⟩)), (.pointer (some ⟨c2, 0, none⟩))] R
      (fun v M => v = .bool (farF E to x == farF E to y - 1) ∧ M = R) := by
  have hfl := farL_len N E to
  refine ok_of (N := 15) Tryd.func33 rfl rfl rfl (fun W => ?_)
  refine c_seq (fun K1 hK1 => ?_)
  refine c_region ?_
  refine tp rfl (lv_assign rfl) ?_
  refine t_done ?_
  refine q_then_n (hK1 _ _ ?_)
  refine c_seq (fun K2 hK2 => ?_)
  refine c_draw (γ := Unit) (n := 11) Tryd.mixed rfl rfl (fun _ S => True) (fun _ => [(0, 5, (.slice bf N cp)), (1, 6, (.int .i64 x)), (2, 7, (.pointer (some (ad bf x.toNat)))), (3, 8, (.int .i64 (farF E to x))), (4, 9, (.slice bf N cp)), (5, 10, (.int .i64 y)), (6, 11, (.pointer (some (ad bf y.toNat)))), (7, 12, (.int .i64 (farF E to y))), (8, 13, (.int .i64 (farF E to y - 1))), (9, 14, (.bool (farF E to x == farF E to y - 1))), (10, 4, (.bool (farF E to x == farF E to y - 1)))]) (fun _ S => R) (()) trivial (fun _ h => h) (fun _ _ h => h) ?_ ?_
  · -- steps
    refine ⟨?_, ?_, ?_, ?_, ?_, ?_, ?_, ?_, ?_, ?_, ?_, trivial⟩
    · -- 0
      rintro _ S hF hS D hp K hK
      try dsimp only at hF ⊢
      refine d_need (small := [(1, (.pointer (some ⟨c1, 0, none⟩)))]) ⟨look_b rfl rfl, trivial⟩ ?_
      refine tp rfl (lv_load Tryd.isAgg33 rfl h1) ?_
      exact d_closes ⟨look_b rfl rfl, trivial⟩ 0 rfl rfl rfl hS (AgreeR.refl _) (t_sat (fun _ h => h) (hK () trivial))
    · -- 1
      rintro _ S hF hS D hp K hK
      try dsimp only at hF ⊢
      refine d_need (small := [(0, (.int .i64 x))]) ⟨look_b rfl rfl, trivial⟩ ?_
      refine tp rfl (lv_move rfl) ?_
      exact d_closes ⟨look_b rfl rfl, trivial⟩ 1 rfl rfl rfl hS (AgreeR.refl _) (t_sat (fun _ h => h) (hK () trivial))
    · -- 2
      rintro _ S hF hS D hp K hK
      try dsimp only at hF ⊢
      have s0 := hp 0 rfl
      have s1 := hp 1 rfl
      refine d_need (small := [(5, (.slice bf N cp)), (6, (.int .i64 x))]) ⟨look_row rfl 0 rfl s0, look_row rfl 1 rfl s1, trivial⟩ ?_
      refine tp rfl (lv_indexAddr (k' := x.toNat) Tryd.underlying33 Tryd.sizeOf3 rfl rfl okf (by omega) (by omega) (by omega)) ?_
      exact d_closes ⟨look_row rfl 0 rfl s0, look_row rfl 1 rfl s1, trivial⟩ 2 rfl rfl rfl hS (AgreeR.refl _) (t_sat (fun _ h => h) (hK () trivial))
    · -- 3
      rintro _ S hF hS D hp K hK
      try dsimp only at hF ⊢
      have s2 := hp 2 rfl
      refine d_need (small := [(7, (.pointer (some (ad bf x.toNat))))]) ⟨look_row rfl 2 rfl s2, trivial⟩ ?_
      refine tp rfl (lv_load Tryd.isAgg3 rfl (gives_as (v := .int .i64 (farF E to x)) (by rw [farL_at hx]) (Rd.gives hf (ints_get (by omega))))) ?_
      exact d_closes ⟨look_row rfl 2 rfl s2, trivial⟩ 3 rfl rfl rfl hS (AgreeR.refl _) (t_sat (fun _ h => h) (hK () trivial))
    · -- 4
      rintro _ S hF hS D hp K hK
      try dsimp only at hF ⊢
      refine d_need (small := [(1, (.pointer (some ⟨c1, 0, none⟩)))]) ⟨look_b rfl rfl, trivial⟩ ?_
      refine tp rfl (lv_load Tryd.isAgg33 rfl h1) ?_
      exact d_closes ⟨look_b rfl rfl, trivial⟩ 4 rfl rfl rfl hS (AgreeR.refl _) (t_sat (fun _ h => h) (hK () trivial))
    · -- 5
      rintro _ S hF hS D hp K hK
      try dsimp only at hF ⊢
      refine d_need (small := [(2, (.pointer (some ⟨c2, 0, none⟩)))]) ⟨look_b rfl rfl, trivial⟩ ?_
      refine tp rfl (lv_load Tryd.isAgg3 rfl h2) ?_
      exact d_closes ⟨look_b rfl rfl, trivial⟩ 5 rfl rfl rfl hS (AgreeR.refl _) (t_sat (fun _ h => h) (hK () trivial))
    · -- 6
      rintro _ S hF hS D hp K hK
      try dsimp only at hF ⊢
      have s4 := hp 4 rfl
      have s5 := hp 5 rfl
      refine d_need (small := [(9, (.slice bf N cp)), (10, (.int .i64 y))]) ⟨look_row rfl 4 rfl s4, look_row rfl 5 rfl s5, trivial⟩ ?_
      refine tp rfl (lv_indexAddr (k' := y.toNat) Tryd.underlying33 Tryd.sizeOf3 rfl rfl okf (by omega) (by omega) (by omega)) ?_
      exact d_closes ⟨look_row rfl 4 rfl s4, look_row rfl 5 rfl s5, trivial⟩ 6 rfl rfl rfl hS (AgreeR.refl _) (t_sat (fun _ h => h) (hK () trivial))
    · -- 7
      rintro _ S hF hS D hp K hK
      try dsimp only at hF ⊢
      have s6 := hp 6 rfl
      refine d_need (small := [(11, (.pointer (some (ad bf y.toNat))))]) ⟨look_row rfl 6 rfl s6, trivial⟩ ?_
      refine tp rfl (lv_load Tryd.isAgg3 rfl (gives_as (v := .int .i64 (farF E to y)) (by rw [farL_at hy]) (Rd.gives hf (ints_get (by omega))))) ?_
      exact d_closes ⟨look_row rfl 6 rfl s6, trivial⟩ 7 rfl rfl rfl hS (AgreeR.refl _) (t_sat (fun _ h => h) (hK () trivial))
    · -- 8
      rintro _ S hF hS D hp K hK
      try dsimp only at hF ⊢
      have s7 := hp 7 rfl
      refine d_need (small := [(12, (.int .i64 (farF E to y)))]) ⟨look_row rfl 7 rfl s7, trivial⟩ ?_
      refine tp rfl (lv_sub (c := farF E to y - 1) rfl rfl (wr_i64 (by omega) (by have h3 := hup; omega))) ?_
      exact d_closes ⟨look_row rfl 7 rfl s7, trivial⟩ 8 rfl rfl rfl hS (AgreeR.refl _) (t_sat (fun _ h => h) (hK () trivial))
    · -- 9
      rintro _ S hF hS D hp K hK
      try dsimp only at hF ⊢
      have s3 := hp 3 rfl
      have s8 := hp 8 rfl
      refine d_need (small := [(8, (.int .i64 (farF E to x))), (13, (.int .i64 (farF E to y - 1)))]) ⟨look_row rfl 3 rfl s3, look_row rfl 8 rfl s8, trivial⟩ ?_
      refine tp rfl (lv_eql rfl rfl rfl) ?_
      exact d_closes ⟨look_row rfl 3 rfl s3, look_row rfl 8 rfl s8, trivial⟩ 9 rfl rfl rfl hS (AgreeR.refl _) (t_sat (fun _ h => h) (hK () trivial))
    · -- 10
      rintro _ S hF hS D hp K hK
      try dsimp only at hF ⊢
      have s9 := hp 9 rfl
      refine d_need (small := [(14, (.bool (farF E to x == farF E to y - 1)))]) ⟨look_row rfl 9 rfl s9, trivial⟩ ?_
      refine tp rfl (lv_assign rfl) ?_
      exact d_closes ⟨look_row rfl 9 rfl s9, trivial⟩ 10 rfl rfl rfl hS (AgreeR.refl _) (t_sat (fun _ h => h) (hK () trivial))
  · -- behind
    rintro _ hF
    try dsimp only at hF ⊢
    refine t_weak (E' := [(0, (.int .i64 x)), (1, (.pointer (some ⟨c1, 0, none⟩))), (2, (.pointer (some ⟨c2, 0, none⟩))), (4, (.bool (farF E to x == farF E to y - 1)))]) ⟨rfl, rfl, rfl, rfl, trivial⟩ ?_
    refine q_then_n (hK2 _ _ ?_)
    refine c_ret ?_
    refine q_ret rfl rfl ?_
    exact ⟨rfl, rfl⟩

set_option maxHeartbeats 4000000 in
theorem path_ok {R : List HP} {g N : Nat} {E : Es} (a to : Int) :
    Ok Tryd.prog 16 [(.pointer (some ⟨g, 0, none⟩)), (.int .i64 a), (.int .i64 to)] ((GraphO g N E) :: R)
      (OutSl 3 1 ((pathL N E a to).length) (ints .i64 (pathL N E a to)) (GraphO g N E :: R)) := by
  refine ok_of (N := 50) Tryd.func16 rfl rfl rfl (fun W => ?_)
  refine t_learn (fun _ h => gok_of h) (fun hgok => ?_)
  have hsmall := hgok.small
  refine c_seq (fun K1 hK1 => ?_)
  refine c_region ?_
  refine tp rfl (lv_assign rfl) ?_
  refine t_done ?_
  refine q_then_n (hK1 _ _ ?_)
  refine c_seq (fun K2 hK2 => ?_)
  refine c_seq (fun K3 hK3 => ?_)
  refine c_region ?_
  refine tp rfl (lv_move rfl) ?_
  refine tp rfl (lv_move rfl) ?_
  refine tc rfl (en_fn Tryd.call30 rfl) (cthere_ok (N := N) (es := E) a) ?_
  rintro _ _ ⟨rfl, rfl⟩
  refine tp rfl (lv_not (c := !(valid N a)) rfl rfl) ?_
  refine tp rfl (lv_move rfl) ?_
  rcases hb1 : valid N a with _ | _
  · -- false
    refine t_skip rfl rfl rfl ?_
    refine t_skip rfl rfl rfl ?_
    refine t_skip rfl rfl rfl ?_
    refine t_skip rfl rfl rfl ?_
    refine tp rfl (lv_pick_t rfl rfl) ?_
    refine t_done ?_
    refine q_then_n (hK3 _ _ ?_)
    refine c_true rfl ?_
    refine c_seq (fun K4 hK4 => ?_)
    refine c_region ?_
    refine tp rfl (lv_assign rfl) ?_
    refine t_done ?_
    refine q_then_n (hK4 _ _ ?_)
    refine c_ret ?_
    refine q_then_r ?_
    refine t_sat (fun _ h => sat_nilsl 3 1 h) ?_
    refine q_ret rfl rfl ?_
    rw [show pathL N E a to = [] from if_neg (by rintro ⟨q1, q2, q3⟩; first | omega | (have hA := ‹valid N a = false›; rw [q1] at hA; cases hA) | (have hA := ‹(!valid N to) = true›; rw [q2] at hA; cases hA))]
    exact ⟨none, 0, slok_none, Nat.le_refl _, rfl, rfl⟩
  · -- true
    refine t_guard rfl rfl ?_
    refine tp rfl (lv_move rfl) ?_
    refine t_guard rfl rfl ?_
    refine tp rfl (lv_move rfl) ?_
    refine t_guard rfl rfl ?_
    refine tc rfl (en_fn Tryd.call30 rfl) (cthere_ok (N := N) (es := E) to) ?_
    rintro _ _ ⟨rfl, rfl⟩
    refine t_guard rfl rfl ?_
    refine tp rfl (lv_not (c := !(valid N to)) rfl rfl) ?_
    refine tp rfl (lv_pick_f rfl rfl) ?_
    refine t_done ?_
    refine q_then_n (hK3 _ _ ?_)
    refine c_split rfl (fun c2 => ?_) (fun c2 => ?_)
    · -- true
      refine c_seq (fun K4 hK4 => ?_)
      refine c_region ?_
      refine tp rfl (lv_assign rfl) ?_
      refine t_done ?_
      refine q_then_n (hK4 _ _ ?_)
      refine c_ret ?_
      refine q_then_r ?_
      refine t_sat (fun _ h => sat_nilsl 3 1 h) ?_
      refine q_ret rfl rfl ?_
      rw [show pathL N E a to = [] from if_neg (by rintro ⟨q1, q2, q3⟩; first | omega | (have hA := ‹valid N a = false›; rw [q1] at hA; cases hA) | (have hA := ‹(!valid N to) = true›; rw [q2] at hA; cases hA))]
      exact ⟨none, 0, slok_none, Nat.le_refl _, rfl, rfl⟩
    · -- false
      refine c_skip ?_
      refine q_then_n (hK2 _ _ ?_)
      refine c_seq (fun K4 hK4 => ?_)
      refine c_region ?_
      have hva : valid N a = true := by simp_all
      have hvt : valid N to = true := by simp_all
      have ha := valid_iff.1 hva
      have ht := valid_iff.1 hvt
      refine tp rfl (lv_move rfl) ?_
      refine tp rfl (lv_move rfl) ?_
      refine tc rfl (en_fn Tryd.call31 rfl) (dist_ok (N := N) (E := E) to (by omega)) ?_
      rintro _ _ ⟨bs3, cp4, hok5, hle6, rfl, rfl⟩
      refine tm rfl (mv_alloc Tryd.zeroValue33 rfl) ?_
      rintro _ _ ⟨b7, rfl, rfl⟩
      refine ts (sv_blk Tryd.sizeOf33 rfl rfl rfl (Nat.le_of_ble_eq_true rfl) rfl) ?_
      refine t_done ?_
      refine q_then_n (hK4 _ _ ?_)
      refine c_seq (fun K5 hK5 => ?_)
      refine c_seq (fun K6 hK6 => ?_)
      refine c_region ?_
      have hfll := farL_len N E to
      refine tp rfl (lv_load Tryd.isAgg33 rfl (gives_blk (.head _) rfl)) ?_
      refine tp rfl (lv_move rfl) ?_
      refine tp rfl (lv_indexAddr (k' := a.toNat) Tryd.underlying33 Tryd.sizeOf3 rfl rfl hok5 (by omega) (by omega) (by omega)) ?_
      refine tp rfl (lv_load Tryd.isAgg3 rfl (gives_as (v := .int .i64 (farF E to a)) (by rw [farL_at ha]) (gives_sl (.tail _ (.head _)) (ints_get (by omega))))) ?_
      by_cases h8 : (farF E to a) < 0
      · -- yes
        refine tp rfl (lv_lss rfl rfl (decide_eq_true h8)) ?_
        refine t_done ?_
        refine q_then_n (hK6 _ _ ?_)
        refine c_true rfl ?_
        refine c_seq (fun K7 hK7 => ?_)
        refine c_region ?_
        refine tp rfl (lv_assign rfl) ?_
        refine t_done ?_
        refine q_then_n (hK7 _ _ ?_)
        refine c_ret ?_
        refine q_then_r ?_
        refine t_sat (fun _ h => sat_nilsl 3 1 h) ?_
        refine t_f1 ?_
        refine t_drop ?_
        refine t_f1 ?_
        refine t_drop ?_
        refine q_ret rfl rfl ?_
        rw [show pathL N E a to = [] from if_neg (by rintro ⟨q1, q2, q3⟩; first | omega | (have hA := ‹valid N a = false›; rw [q1] at hA; cases hA) | (have hA := ‹(!valid N to) = true›; rw [q2] at hA; cases hA))]
        exact ⟨none, 0, slok_none, Nat.le_refl _, rfl, rfl⟩
      · -- no
        refine tp rfl (lv_lss rfl rfl (decide_eq_false h8)) ?_
        refine t_done ?_
        refine q_then_n (hK6 _ _ ?_)
        refine c_false rfl ?_
        refine c_skip ?_
        refine q_then_n (hK5 _ _ ?_)
        refine c_seq (fun K7 hK7 => ?_)
        refine c_region ?_
        obtain ⟨d, hd⟩ : ∃ d : Nat, farF E to a = (d : Int) := ⟨(farF E to a).toNat, by omega⟩
        have hdl : d < 64 := by have := farF_lt hgok ha ht; omega
        refine tp rfl (lv_move rfl) ?_
        refine tm rfl (mv_buildSlice (cs := [(.int .i64 a)]) Tryd.underlying33 Tryd.sizeOf3 Tryd.zeroValue3 (by decide) rfl rfl rfl rfl) ?_
        rintro _ _ ⟨bs9, cp10, hok11, hle12, rfl, rfl⟩
        refine tp rfl (lv_assign rfl) ?_
        refine t_done ?_
        refine q_then_n (hK7 _ _ ?_)
        refine c_seq (fun K8 hK8 => ?_)
        refine c_seq (fun K9 hK9 => ?_)
        refine c_region ?_
        refine tp rfl (lv_move rfl) ?_
        refine tm rfl (mv_alloc Tryd.zeroValue3 rfl) ?_
        rintro _ _ ⟨b13, rfl, rfl⟩
        refine ts (sv_blk Tryd.sizeOf3 rfl rfl rfl (Nat.le_of_ble_eq_true rfl) rfl) ?_
        refine t_done ?_
        refine q_then_n (hK9 _ _ ?_)
        refine c_block ?_
        have hl1 : SlOk bs9 (0 + 1) ∧ 0 + 1 ≤ cp10 := ⟨hok11, hle12⟩
        rw [show [Value.int .i64 a] = ints .i64 (pathN E to 0 a) from rfl]
        skip
        refine c_loop (γ := (Nat) × (Nat) × (Option Addr) × (Nat)) (fun (k, b9, bt, ct) => k ≤ d ∧ SlOk bt (k + 1) ∧ k + 1 ≤ ct) (fun (k, b9, bt, ct) => [(0, (.pointer (some ⟨g, 0, none⟩))), (1, (.int .i64 a)), (2, (.int .i64 to)), (6, (.slice none 0 0)), (7, (.pointer (some ⟨b7, 0, none⟩))), (8, (.slice bt (k + 1) ct)), (9, (.pointer (some ⟨b9, 0, none⟩))), (20, (.bool (!(valid N to)))), (28, (.bool false))]) (fun (k, b9, bt, ct) => (Blk b9 [(.int .i64 (atN E to k a))] 3) :: (SlV 3 1 (.slice bt (k + 1) ct) (k + 1) (ints .i64 (pathN E to k a))) :: (Blk b7 [(.slice bs3 N cp4)] 33) :: (SlV 3 1 (.slice bs3 N cp4) N (ints .i64 (farL N E to))) :: (GraphO g N E) :: R) (fun (k, b9, bt, ct) => d - k) (0, b13, bs9, cp10) ⟨by omega, hl1.1, hl1.2⟩ ⟨rfl, rfl, rfl, rfl, rfl, rfl, rfl, rfl, rfl, trivial⟩ (fun _ h => h) ?_
        rintro ⟨k, b9, bt, ct⟩ K10 hF hK10
        try dsimp only at hF hK10 ⊢
        obtain ⟨hk, hok, hle⟩ := hF
        have hat := hgok.atN hd ha k hk
        have hfk := atN_far hd k hk
        have hfl0 := farF_ge E to (atN E to k a)
        have hfu : farF E to (atN E to k a) < 100 := by have := farF_lt hgok hat ht; omega
        have hnx : atN E to (k + 1) a = nxtF E to (atN E to k a) := rfl
        have hpn := pathN_snocs E to k a
        have hplen := pathN_len E to k a
        have houl := hgok.outs_le (atN E to k a)
        refine c_seq (fun K11 hK11 => ?_)
        refine c_seq (fun K12 hK12 => ?_)
        refine c_region ?_
        refine tp rfl (lv_load Tryd.isAgg3 rfl (gives_blk (.head _) rfl)) ?_
        refine tp rfl (lv_move rfl) ?_
        by_cases h14 : (atN E to k a) = to
        · -- yes
         refine tp rfl (lv_neq rfl rfl (bne_eq_false_iff_eq.2 h14)) ?_
         refine t_done ?_
         refine q_then_n (hK12 _ _ ?_)
         refine c_false rfl ?_
         refine c_exit ?_
         refine q_then_x ?_
         refine q_then_x ?_
         refine q_in_x ?_
         refine q_then_n (hK8 _ _ ?_)
         refine c_seq (fun K13 hK13 => ?_)
         refine c_region ?_
         refine tp rfl (lv_move rfl) ?_
         refine tp rfl (lv_assign rfl) ?_
         refine t_done ?_
         refine q_then_n (hK13 _ _ ?_)
         refine c_ret ?_
         refine t_drop ?_
         refine t_f1 ?_
         refine t_drop ?_
         refine t_f1 ?_
         refine t_drop ?_
         refine q_ret rfl rfl ?_
         have hkd : k = d := by
           rcases Nat.lt_or_ge k d with h | h
           · have h0 : atN E to k a = to := by first | exact Classical.not_not.1 ‹_› | assumption
             rw [h0, farF_self] at hfk; omega
           · omega
         subst hkd
         rw [show pathN E to k a = pathL N E a to from by unfold pathL; rw [if_pos ⟨hva, hvt, by omega⟩, hd]; rfl]
         have hpl : (pathL N E a to).length = k + 1 := by unfold pathL; rw [if_pos ⟨hva, hvt, by omega⟩, pathN_len, hd]; rfl
         rw [hpl]
         exact ⟨bt, ct, hok, hle, rfl, rfl⟩
        · -- no
         refine tp rfl (lv_neq rfl rfl (bne_iff_ne.2 h14)) ?_
         refine t_done ?_
         refine q_then_n (hK12 _ _ ?_)
         refine c_true rfl ?_
         refine c_skip ?_
         refine q_then_n (hK11 _ _ ?_)
         refine c_seq (fun K13 hK13 => ?_)
         refine c_block ?_
         refine c_seq (fun K14 hK14 => ?_)
         refine c_region ?_
         have hkd : k < d := by
           rcases Nat.lt_or_ge k d with h | h
           · exact h
           · exact absurd (farF_zero (es := E) (by rw [hfk]; omega)) ‹_›
         obtain ⟨hi0, hi1, _, _⟩ := idxF_get (nxt_any (es := E) (to := to) (a := atN E to k a) (d := d - k - 1) (by rw [hfk]; congr 1; omega))
         refine tp rfl (lv_move rfl) ?_
         refine tp rfl (lv_load Tryd.isAgg3 rfl (gives_blk (.head _) rfl)) ?_
         refine t_f4 ?_
         refine tc rfl (en_fn Tryd.call22 rfl) (out_ok (N := N) (es := E) (atN E to k a)) ?_
         rintro _ _ ⟨bs15, cp16, hok17, hle18, rfl, rfl⟩
         refine tp rfl (lv_assign rfl) ?_
         refine t_done ?_
         refine q_then_n (hK14 _ _ ?_)
         refine c_seq (fun K15 hK15 => ?_)
         refine c_region ?_
         refine tp rfl (lv_move rfl) ?_
         refine tp rfl (lv_move rfl) ?_
         refine tp rfl (lv_makeFunc rfl) ?_
         refine tc rfl (en_fn Tryd.call32 rfl) (indexFunc_ok (p := fun b => farF E to b == farF E to (atN E to k a) - 1) (outs E (atN E to k a)) ⟨Tryd.call33, fun x hx => path1_ok x (atN E to k a) (hgok.outs_inn hx) hat (rd_sl (.tail _ (.tail _ (.tail _ (.tail _ (.tail _ (.head _))))))) hok5 (gives_blk (.tail _ (.tail _ (.tail _ (.tail _ (.head _))))) rfl) (gives_blk (.tail _ (.tail _ (.head _))) rfl) hfl0 hfu⟩ (rd_sl (.head _)) hok17 (by first | omega | (simp; omega) | (simp; done))) ?_
         rintro _ _ ⟨rfl, rfl⟩
         refine tp rfl (lv_indexAddr (k' := (idxF (fun b => farF E to b == farF E to (atN E to k a) - 1) (outs E (atN E to k a))).toNat) Tryd.underlying33 Tryd.sizeOf3 rfl rfl hok17 (by omega) (by omega) (by omega)) ?_
         refine tp rfl (lv_load Tryd.isAgg3 rfl (gives_as (v := .int .i64 (atN E to (k + 1) a)) rfl (gives_sl (.head _) (ints_get (by omega))))) ?_
         refine t_f2 ?_
         refine ts (sv_blk Tryd.sizeOf3 rfl rfl rfl (Nat.le_of_ble_eq_true rfl) rfl) ?_
         refine t_done ?_
         refine q_then_n (hK15 _ _ ?_)
         refine c_region ?_
         refine tp rfl (lv_move rfl) ?_
         refine tp rfl (lv_load Tryd.isAgg3 rfl (gives_blk (.head _) rfl)) ?_
         refine tm rfl (mv_buildSlice (cs := [(.int .i64 (atN E to (k + 1) a))]) Tryd.underlying33 Tryd.sizeOf3 Tryd.zeroValue3 (by decide) rfl rfl rfl rfl) ?_
         rintro _ _ ⟨bs19, cp20, hok21, hle22, rfl, rfl⟩
         refine t_f4 ?_
         refine tm rfl (mv_append (i := Tryd.t3) Tryd.underlying33 Tryd.type3 rfl rfl rfl (by decide) rfl rfl hok21 (by first | (simp; done) | (simp; omega)) (rd_sl (.tail _ (.head _))) (by simp [Value.oneCell']) (by rw [show Tryd.t3.bytes = 8 from rfl]; omega)) ?_
         rintro _ _ ⟨bs23, cp24, hok25, hle26, rfl, rfl⟩
         rw [show ints .i64 (pathN E to k a) ++ [(.int .i64 (atN E to (k + 1) a))] = ints .i64 ((pathN E to k a) ++ [atN E to (k + 1) a]) from ints_snoc _ _ _]
         refine tp rfl (lv_assign rfl) ?_
         refine t_done ?_
         refine q_in_n ?_
         refine q_then_n (hK13 _ _ ?_)
         refine c_seq (fun K16 hK16 => ?_)
         refine c_region ?_
         refine tp rfl (lv_load Tryd.isAgg3 rfl (gives_blk (.tail _ (.tail _ (.head _))) rfl)) ?_
         refine t_done ?_
         refine q_then_n (hK16 _ _ ?_)
         refine c_region ?_
         refine tm rfl (mv_alloc Tryd.zeroValue3 rfl) ?_
         rintro _ _ ⟨b27, rfl, rfl⟩
         refine ts (sv_blk Tryd.sizeOf3 rfl rfl rfl (Nat.le_of_ble_eq_true rfl) rfl) ?_
         refine t_done ?_
         refine q_then_n ?_
         refine t_f2 ?_
         refine t_drop ?_
         refine t_f2 ?_
         refine t_drop ?_
         refine t_f2 ?_
         refine t_drop ?_
         refine t_f2 ?_
         refine t_f4 ?_
         refine t_f4 ?_
         refine t_f4 ?_
         refine t_f4 ?_
         rw [← hpn]
         exact t_weak (by exact ⟨rfl, rfl, rfl, rfl, rfl, rfl, rfl, rfl, rfl, trivial⟩) ((hK10 (k + 1, b27, bs23, cp24) ⟨by omega, hok25, hle26⟩ (by dsimp only; omega)))


theorem closes_ok {R : List HP} {g N : Nat} {E : Es} (a b : Int) :
    Ok Tryd.prog 18 [(.pointer (some ⟨g, 0, none⟩)), (.int .i64 a), (.int .i64 b)] ((GraphO g N E) :: R)
      (OutSl 3 1 ((pathL N E b a).length) (ints .i64 (pathL N E b a)) (GraphO g N E :: R)) := by
  refine ok_of (N := 11) Tryd.func18 rfl rfl rfl (fun W => ?_)
  refine c_seq (fun K1 hK1 => ?_)
  refine c_region ?_
  refine tp rfl (lv_assign rfl) ?_
  refine t_done ?_
  refine q_then_n (hK1 _ _ ?_)
  refine c_seq (fun K2 hK2 => ?_)
  refine c_region ?_
  refine tp rfl (lv_move rfl) ?_
  refine tp rfl (lv_move rfl) ?_
  refine tp rfl (lv_move rfl) ?_
  refine tc rfl (en_fn Tryd.call16 rfl) (path_ok b a) ?_
  rintro _ _ ⟨bs1, cp2, hok3, hle4, rfl, rfl⟩
  refine tp rfl (lv_assign rfl) ?_
  refine t_done ?_
  refine q_then_n (hK2 _ _ ?_)
  refine c_ret ?_
  refine q_ret rfl rfl ?_
  exact ⟨_, _, hok3, hle4, rfl, rfl⟩
end Go.Proofs.YtppgccafgfpkdaaDoor
