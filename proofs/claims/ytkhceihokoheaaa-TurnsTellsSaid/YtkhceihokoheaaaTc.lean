/- Package turns: Take. -/
import Derived.Test.YtkhceihokoheaaaTb
set_option maxRecDepth 100000
set_option linter.unusedVariables false
set_option linter.unusedSimpArgs false
namespace Go.Proofs.Ytkhceihokoheaaa
open Go Go.Proofs Sp
theorem take_no {R : List HP} {p a : Nat} {q : Int} {ms : List M3} (ws : List (Int × Int)) {bl : Option Addr} {cl : Nat} (hw : Rd R bl (pairs ws)) (okl : SlOk bl ws.length) (lw : ws.length ≤ 1000000) (hb : ms.length ≤ 50000) (hany : anyPos (costsL ms ws) = false) :
    Ok Try.prog 13 [(.pointer (some ⟨p, 0, none⟩)), (.slice bl ws.length cl)] ((TurnsO p q ms a) :: R)
      (fun v M => v = .tuple #[.int .i64 0, .bool false] ∧ M = TurnsO p q ms a :: R) := by
  refine ok_of (N := 125) Try.func13 rfl rfl rfl (fun W => ?_)
  refine t_openT (fun ba ca ps hT => ?_)
  have hTlp := hT.lp
  have hTat := hT.at_
  have hTq1 := hT.q1
  have hTq2 := hT.q2
  refine c_seq (fun K1 hK1 => ?_)
  refine c_region ?_
  refine tp rfl (lv_assign rfl) ?_
  refine tp rfl (lv_assign rfl) ?_
  refine t_done ?_
  refine q_then_n (hK1 _ _ ?_)
  refine c_scope0 ?_
  refine c_seq (fun K2 hK2 => ?_)
  refine c_region ?_
  refine tp rfl (lv_move rfl) ?_
  refine tp rfl (lv_move rfl) ?_
  refine t_f2 ?_
  refine t_f2 ?_
  refine t_f2 ?_
  refine tc rfl (en_fn Try.call25 rfl) (costs_ok hTlp rfl hT.ok (by omega) hT.nd ws hw okl (by omega)) ?_
  rintro _ _ ⟨bs1, cp2, hok3, hle4, rfl, rfl⟩
  rw [show anyPos (costsL ms ws) = false from hany]
  refine tp rfl (lv_move rfl) ?_
  refine tp rfl (lv_extract rfl rfl) ?_
  refine tp rfl (lv_extract rfl rfl) ?_
  refine tp rfl (lv_assign rfl) ?_
  refine tp rfl (lv_assign rfl) ?_
  refine t_done ?_
  refine q_then_n (hK2 _ _ ?_)
  refine c_seq (fun K3 hK3 => ?_)
  refine c_seq (fun K4 hK4 => ?_)
  refine c_region ?_
  refine tp rfl (lv_move rfl) ?_
  refine tp rfl (lv_not (c := true) rfl rfl) ?_
  refine t_done ?_
  refine q_then_n (hK4 _ _ ?_)
  refine c_true rfl ?_
  refine c_seq (fun K5 hK5 => ?_)
  refine c_region ?_
  refine tp rfl (lv_assign rfl) ?_
  refine tp rfl (lv_assign rfl) ?_
  refine t_done ?_
  refine q_then_n (hK5 _ _ ?_)
  refine c_ret ?_
  refine q_then_r ?_
  refine q_ng_r ?_
  refine t_f3 ?_
  refine t_f3 ?_
  refine t_f3 ?_
  refine t_shutTn rfl hT ?_
  refine t_f1 ?_
  refine t_drop ?_
  refine q_ret2 rfl rfl rfl ?_
  exact ⟨rfl, rfl⟩

set_option maxHeartbeats 4000000 in
theorem take_ok {R : List HP} {p a : Nat} {q : Int} {ms : List M3} (ws : List (Int × Int)) {bl : Option Addr} {cl : Nat} (hw : Rd R bl (pairs ws)) (okl : SlOk bl ws.length) (lw : ws.length ≤ 1000000) (hb : ms.length ≤ 50000) (hany : anyPos (costsL ms ws) = true) :
    Ok Try.prog 13 [(.pointer (some ⟨p, 0, none⟩)), (.slice bl ws.length cl)] ((TurnsO p q ms a) :: R)
      (fun v M => ∃ (tm : List M3) (ta : Nat), TakeR q (costsL ms ws) (ms, a) (tm, ta) ∧ v = .tuple #[.int .i64 (tm.getD ta M3.z).id, .bool true] ∧ M = TurnsO p q (setC tm ta ((tm.getD ta M3.z).c - (costsL ms ws).getD ta 0)) ta :: R) := by
  obtain ⟨cs, hcs⟩ : ∃ x, costsL ms ws = x := ⟨_, rfl⟩
  rw [hcs]
  refine ok_of (N := 125) Try.func13 rfl rfl rfl (fun W => ?_)
  refine t_openT (fun ba ca ps hT => ?_)
  have hTlp := hT.lp
  have hTat := hT.at_
  have hTq1 := hT.q1
  have hTq2 := hT.q2
  have hcb : ∀ i, 0 ≤ cs.getD i 0 ∧ cs.getD i 0 ≤ 1048576 := fun i => by rw [← hcs]; exact costsL_bd ms ws i
  have hcl : cs.length = ms.length := by rw [← hcs]; exact costsL_len ms ws
  have hany2 : ∃ j, j < ms.length ∧ 0 < cs.getD j 0 := by have := anyPos_iff.1 (hcs ▸ hany); rw [hcl] at this; exact this
  have hal0 : a < ms.length := by obtain ⟨j, hj, _⟩ := hany2; rcases hTat with h | ⟨_, h⟩; exact h; subst h; simp at hj
  refine c_seq (fun K1 hK1 => ?_)
  refine c_region ?_
  refine tp rfl (lv_assign rfl) ?_
  refine tp rfl (lv_assign rfl) ?_
  refine t_done ?_
  refine q_then_n (hK1 _ _ ?_)
  refine c_scope (γ := (Option Addr) × (Nat) × (List M3) × (Nat) × (Nat)) (c := _) 0 (fun (bs, cp, mx, ax, k) => TInv q cs ms a mx ax k ∧ SlOk bs ms.length) (fun (bs, cp, mx, ax, k) => [(0, (.pointer (some ⟨p, 0, none⟩))), (6, (.slice bs ms.length cp)), (8, (.int .i64 ((k : Nat) : Int)))]) (fun (bs, cp, mx, ax, k) => (SlV 3 1 (.slice bs ms.length cp) ms.length (ints .i64 cs)) :: (Blk p [(.int .i64 q), (.slice ba ms.length ca), (.int .i64 ((ax : Nat) : Int))] 62) :: (SlV 63 1 (.slice ba ms.length ca) ms.length (recs ptrF ps)) :: (Join (mems ps mx)) :: R) (fun (bs, cp, mx, ax, k) => 2 * ms.length - k) rfl ?_ ?_
  · -- a pass
    rintro ⟨bs, cp, mx, ax, k⟩ K2 hF hK2
    try dsimp only at hF hK2 ⊢
    obtain ⟨hI, hbs⟩ := hF
    have hal := hI.al
    have hlx := hI.len
    have hcr := hI.cr ax hal
    rw [if_pos rfl] at hcr
    have hga := hI.gn ax hal
    have hsx := hI.same ax hal
    have hca := hcb ax
    have hk2 := hI.k2
    refine c_seq (fun K3 hK3 => ?_)
    refine c_draw (γ := Unit) (n := 19) Try.mixed rfl rfl (fun _ S => True) (fun _ => [(0, 19, (.pointer (some ⟨p, 0, none⟩))), (1, 20, (.pointer (some ⟨p, 0, none⟩))), (2, 21, (.pointer (some ⟨p, 1, none⟩))), (3, 22, (.slice ba ms.length ca)), (4, 23, (.pointer (some ⟨p, 0, none⟩))), (5, 24, (.pointer (some ⟨p, 0, none⟩))), (6, 25, (.pointer (some ⟨p, 2, none⟩))), (7, 26, (.int .i64 ((ax : Nat) : Int))), (8, 27, (.pointer (some (ad ba ax)))), (9, 28, (.pointer (some ⟨(ps.getD ax 0), 0, none⟩))), (10, 29, (.slice bs ms.length cp)), (11, 30, (.pointer (some ⟨p, 0, none⟩))), (12, 31, (.pointer (some ⟨p, 0, none⟩))), (13, 32, (.pointer (some ⟨p, 2, none⟩))), (14, 33, (.int .i64 ((ax : Nat) : Int))), (15, 34, (.pointer (some (ad bs ax)))), (16, 35, (.int .i64 ((cs).getD ax 0))), (17, 9, (.pointer (some ⟨(ps.getD ax 0), 0, none⟩))), (18, 10, (.int .i64 ((cs).getD ax 0)))]) (fun _ S => (SlV 3 1 (.slice bs ms.length cp) ms.length (ints .i64 cs)) :: (Blk p [(.int .i64 q), (.slice ba ms.length ca), (.int .i64 ((ax : Nat) : Int))] 62) :: (SlV 63 1 (.slice ba ms.length ca) ms.length (recs ptrF ps)) :: (Join (mems ps mx)) :: R) (()) trivial (fun _ h => h) (fun _ _ h => h) ?_ ?_
    · -- steps
      refine ⟨?_, ?_, ?_, ?_, ?_, ?_, ?_, ?_, ?_, ?_, ?_, ?_, ?_, ?_, ?_, ?_, ?_, ?_, ?_, trivial⟩
      · -- 0
        rintro _ S hF hS D hp K hK
        try dsimp only at hF ⊢
        refine d_need (small := [(0, (.pointer (some ⟨p, 0, none⟩)))]) ⟨look_b rfl rfl, trivial⟩ ?_
        refine tp rfl (lv_move rfl) ?_
        exact d_closes ⟨look_b rfl rfl, trivial⟩ 0 rfl rfl rfl hS (AgreeR.refl _) (t_sat (fun _ h => h) (hK () trivial))
      · -- 1
        rintro _ S hF hS D hp K hK
        try dsimp only at hF ⊢
        have s0 := hp 0 rfl
        refine d_need (small := [(19, (.pointer (some ⟨p, 0, none⟩)))]) ⟨look_row rfl 0 rfl s0, trivial⟩ ?_
        refine tp rfl (lv_nilCheck rfl) ?_
        exact d_closes ⟨look_row rfl 0 rfl s0, trivial⟩ 1 rfl rfl rfl hS (AgreeR.refl _) (t_sat (fun _ h => h) (hK () trivial))
      · -- 2
        rintro _ S hF hS D hp K hK
        try dsimp only at hF ⊢
        have s1 := hp 1 rfl
        refine d_need (small := [(20, (.pointer (some ⟨p, 0, none⟩)))]) ⟨look_row rfl 1 rfl s1, trivial⟩ ?_
        refine tp rfl (lv_fieldAddr (o' := 1) Try.underlying62 rfl Try.sizeOf60 rfl rfl) ?_
        exact d_closes ⟨look_row rfl 1 rfl s1, trivial⟩ 2 rfl rfl rfl hS (AgreeR.refl _) (t_sat (fun _ h => h) (hK () trivial))
      · -- 3
        rintro _ S hF hS D hp K hK
        try dsimp only at hF ⊢
        have s2 := hp 2 rfl
        refine d_need (small := [(21, (.pointer (some ⟨p, 1, none⟩)))]) ⟨look_row rfl 2 rfl s2, trivial⟩ ?_
        refine tp rfl (lv_load Try.isAgg60 rfl (gives_blk (.tail _ (.head _)) rfl)) ?_
        exact d_closes ⟨look_row rfl 2 rfl s2, trivial⟩ 3 rfl rfl rfl hS (AgreeR.refl _) (t_sat (fun _ h => h) (hK () trivial))
      · -- 4
        rintro _ S hF hS D hp K hK
        try dsimp only at hF ⊢
        refine d_need (small := [(0, (.pointer (some ⟨p, 0, none⟩)))]) ⟨look_b rfl rfl, trivial⟩ ?_
        refine tp rfl (lv_move rfl) ?_
        exact d_closes ⟨look_b rfl rfl, trivial⟩ 4 rfl rfl rfl hS (AgreeR.refl _) (t_sat (fun _ h => h) (hK () trivial))
      · -- 5
        rintro _ S hF hS D hp K hK
        try dsimp only at hF ⊢
        have s4 := hp 4 rfl
        refine d_need (small := [(23, (.pointer (some ⟨p, 0, none⟩)))]) ⟨look_row rfl 4 rfl s4, trivial⟩ ?_
        refine tp rfl (lv_nilCheck rfl) ?_
        exact d_closes ⟨look_row rfl 4 rfl s4, trivial⟩ 5 rfl rfl rfl hS (AgreeR.refl _) (t_sat (fun _ h => h) (hK () trivial))
      · -- 6
        rintro _ S hF hS D hp K hK
        try dsimp only at hF ⊢
        have s5 := hp 5 rfl
        refine d_need (small := [(24, (.pointer (some ⟨p, 0, none⟩)))]) ⟨look_row rfl 5 rfl s5, trivial⟩ ?_
        refine tp rfl (lv_fieldAddr (o' := 2) Try.underlying62 rfl Try.sizeOf3 rfl rfl) ?_
        exact d_closes ⟨look_row rfl 5 rfl s5, trivial⟩ 6 rfl rfl rfl hS (AgreeR.refl _) (t_sat (fun _ h => h) (hK () trivial))
      · -- 7
        rintro _ S hF hS D hp K hK
        try dsimp only at hF ⊢
        have s6 := hp 6 rfl
        refine d_need (small := [(25, (.pointer (some ⟨p, 2, none⟩)))]) ⟨look_row rfl 6 rfl s6, trivial⟩ ?_
        refine tp rfl (lv_load Try.isAgg3 rfl (gives_blk (.tail _ (.head _)) rfl)) ?_
        exact d_closes ⟨look_row rfl 6 rfl s6, trivial⟩ 7 rfl rfl rfl hS (AgreeR.refl _) (t_sat (fun _ h => h) (hK () trivial))
      · -- 8
        rintro _ S hF hS D hp K hK
        try dsimp only at hF ⊢
        have s3 := hp 3 rfl
        have s7 := hp 7 rfl
        refine d_need (small := [(22, (.slice ba ms.length ca)), (26, (.int .i64 ((ax : Nat) : Int)))]) ⟨look_row rfl 3 rfl s3, look_row rfl 7 rfl s7, trivial⟩ ?_
        refine tp rfl (lv_indexAddr (k' := ax) Try.underlying60 Try.sizeOf63 rfl rfl hT.ok (by omega) (by omega) (by omega)) ?_
        exact d_closes ⟨look_row rfl 3 rfl s3, look_row rfl 7 rfl s7, trivial⟩ 8 rfl rfl rfl hS (AgreeR.refl _) (t_sat (fun _ h => h) (hK () trivial))
      · -- 9
        rintro _ S hF hS D hp K hK
        try dsimp only at hF ⊢
        have s8 := hp 8 rfl
        refine d_need (small := [(27, (.pointer (some (ad ba ax))))]) ⟨look_row rfl 8 rfl s8, trivial⟩ ?_
        refine tp rfl (lv_load Try.isAgg63 rfl (gives_sl (.tail _ (.tail _ (.head _))) (ptrs_get (by first | omega | (simp; omega))))) ?_
        exact d_closes ⟨look_row rfl 8 rfl s8, trivial⟩ 9 rfl rfl rfl hS (AgreeR.refl _) (t_sat (fun _ h => h) (hK () trivial))
      · -- 10
        rintro _ S hF hS D hp K hK
        try dsimp only at hF ⊢
        refine d_need (small := [(6, (.slice bs ms.length cp))]) ⟨look_b rfl rfl, trivial⟩ ?_
        refine tp rfl (lv_move rfl) ?_
        exact d_closes ⟨look_b rfl rfl, trivial⟩ 10 rfl rfl rfl hS (AgreeR.refl _) (t_sat (fun _ h => h) (hK () trivial))
      · -- 11
        rintro _ S hF hS D hp K hK
        try dsimp only at hF ⊢
        refine d_need (small := [(0, (.pointer (some ⟨p, 0, none⟩)))]) ⟨look_b rfl rfl, trivial⟩ ?_
        refine tp rfl (lv_move rfl) ?_
        exact d_closes ⟨look_b rfl rfl, trivial⟩ 11 rfl rfl rfl hS (AgreeR.refl _) (t_sat (fun _ h => h) (hK () trivial))
      · -- 12
        rintro _ S hF hS D hp K hK
        try dsimp only at hF ⊢
        have s11 := hp 11 rfl
        refine d_need (small := [(30, (.pointer (some ⟨p, 0, none⟩)))]) ⟨look_row rfl 11 rfl s11, trivial⟩ ?_
        refine tp rfl (lv_nilCheck rfl) ?_
        exact d_closes ⟨look_row rfl 11 rfl s11, trivial⟩ 12 rfl rfl rfl hS (AgreeR.refl _) (t_sat (fun _ h => h) (hK () trivial))
      · -- 13
        rintro _ S hF hS D hp K hK
        try dsimp only at hF ⊢
        have s12 := hp 12 rfl
        refine d_need (small := [(31, (.pointer (some ⟨p, 0, none⟩)))]) ⟨look_row rfl 12 rfl s12, trivial⟩ ?_
        refine tp rfl (lv_fieldAddr (o' := 2) Try.underlying62 rfl Try.sizeOf3 rfl rfl) ?_
        exact d_closes ⟨look_row rfl 12 rfl s12, trivial⟩ 13 rfl rfl rfl hS (AgreeR.refl _) (t_sat (fun _ h => h) (hK () trivial))
      · -- 14
        rintro _ S hF hS D hp K hK
        try dsimp only at hF ⊢
        have s13 := hp 13 rfl
        refine d_need (small := [(32, (.pointer (some ⟨p, 2, none⟩)))]) ⟨look_row rfl 13 rfl s13, trivial⟩ ?_
        refine tp rfl (lv_load Try.isAgg3 rfl (gives_blk (.tail _ (.head _)) rfl)) ?_
        exact d_closes ⟨look_row rfl 13 rfl s13, trivial⟩ 14 rfl rfl rfl hS (AgreeR.refl _) (t_sat (fun _ h => h) (hK () trivial))
      · -- 15
        rintro _ S hF hS D hp K hK
        try dsimp only at hF ⊢
        have s10 := hp 10 rfl
        have s14 := hp 14 rfl
        refine d_need (small := [(29, (.slice bs ms.length cp)), (33, (.int .i64 ((ax : Nat) : Int)))]) ⟨look_row rfl 10 rfl s10, look_row rfl 14 rfl s14, trivial⟩ ?_
        refine tp rfl (lv_indexAddr (k' := ax) Try.underlying22 Try.sizeOf3 rfl rfl hbs (by omega) (by omega) (by omega)) ?_
        exact d_closes ⟨look_row rfl 10 rfl s10, look_row rfl 14 rfl s14, trivial⟩ 15 rfl rfl rfl hS (AgreeR.refl _) (t_sat (fun _ h => h) (hK () trivial))
      · -- 16
        rintro _ S hF hS D hp K hK
        try dsimp only at hF ⊢
        have s15 := hp 15 rfl
        refine d_need (small := [(34, (.pointer (some (ad bs ax))))]) ⟨look_row rfl 15 rfl s15, trivial⟩ ?_
        refine tp rfl (lv_load Try.isAgg3 rfl (gives_sl (.head _) (ints_get (by first | omega | (simp; omega))))) ?_
        exact d_closes ⟨look_row rfl 15 rfl s15, trivial⟩ 16 rfl rfl rfl hS (AgreeR.refl _) (t_sat (fun _ h => h) (hK () trivial))
      · -- 17
        rintro _ S hF hS D hp K hK
        try dsimp only at hF ⊢
        have s9 := hp 9 rfl
        refine d_need (small := [(28, (.pointer (some ⟨(ps.getD ax 0), 0, none⟩)))]) ⟨look_row rfl 9 rfl s9, trivial⟩ ?_
        refine tp rfl (lv_assign rfl) ?_
        exact d_closes ⟨look_row rfl 9 rfl s9, trivial⟩ 17 rfl rfl rfl hS (AgreeR.refl _) (t_sat (fun _ h => h) (hK () trivial))
      · -- 18
        rintro _ S hF hS D hp K hK
        try dsimp only at hF ⊢
        have s16 := hp 16 rfl
        refine d_need (small := [(35, (.int .i64 ((cs).getD ax 0)))]) ⟨look_row rfl 16 rfl s16, trivial⟩ ?_
        refine tp rfl (lv_assign rfl) ?_
        exact d_closes ⟨look_row rfl 16 rfl s16, trivial⟩ 18 rfl rfl rfl hS (AgreeR.refl _) (t_sat (fun _ h => h) (hK () trivial))
    · -- behind
      rintro _ hF
      try dsimp only at hF ⊢
      refine t_weak (E' := [(0, (.pointer (some ⟨p, 0, none⟩))), (6, (.slice bs ms.length cp)), (8, (.int .i64 ((k : Nat) : Int))), (9, (.pointer (some ⟨(ps.getD ax 0), 0, none⟩))), (10, (.int .i64 ((cs).getD ax 0)))]) ⟨rfl, rfl, rfl, rfl, rfl, trivial⟩ ?_
      refine q_then_n (hK3 _ _ ?_)
      refine c_seq (fun K4 hK4 => ?_)
      refine c_seq (fun K5 hK5 => ?_)
      refine t_f3 ?_
      refine t_takeM (i := ax) (by omega) (by omega) ?_
      refine c_region ?_
      by_cases hc1 : ((cs).getD ax 0) > 0 ∧ ((mx.getD ax M3.z).c) ≥ ((cs).getD ax 0)
      · -- both
        have hc1a := hc1.1
        have hc1b := hc1.2
        refine tp rfl (lv_move rfl) ?_
        refine tp rfl (lv_gtr rfl rfl (decide_eq_true hc1.1)) ?_
        refine tp rfl (lv_move rfl) ?_
        refine t_guard rfl rfl ?_
        refine tp rfl (lv_move rfl) ?_
        refine t_guard rfl rfl ?_
        refine tp rfl (lv_nilCheck rfl) ?_
        refine t_guard rfl rfl ?_
        refine tp rfl (lv_fieldAddr (o' := 2) Try.underlying65 rfl Try.sizeOf3 rfl rfl) ?_
        refine t_guard rfl rfl ?_
        refine tp rfl (lv_load Try.isAgg3 rfl (gives_blk (.head _) rfl)) ?_
        refine t_guard rfl rfl ?_
        refine tp rfl (lv_move rfl) ?_
        refine t_guard rfl rfl ?_
        refine tp rfl (lv_geq rfl rfl (decide_eq_true hc1.2)) ?_
        refine tp rfl (lv_pick_t rfl rfl) ?_
        refine t_done ?_
        refine q_then_n (hK5 _ _ ?_)
        refine c_true rfl ?_
        refine c_seq (fun K6 hK6 => ?_)
        refine c_region ?_
        refine tp rfl (lv_move rfl) ?_
        refine tp rfl (lv_nilCheck rfl) ?_
        refine tp rfl (lv_fieldAddr (o' := 2) Try.underlying65 rfl Try.sizeOf3 rfl rfl) ?_
        refine tp rfl (lv_load Try.isAgg3 rfl (gives_blk (.head _) rfl)) ?_
        refine tp rfl (lv_move rfl) ?_
        refine tp rfl (lv_sub (c := ((mx.getD ax M3.z).c) - ((cs).getD ax 0)) rfl rfl (wr_i64 (by omega) (by omega))) ?_
        refine tp rfl (lv_nilCheck rfl) ?_
        refine tp rfl (lv_fieldAddr (o' := 2) Try.underlying65 rfl Try.sizeOf3 rfl rfl) ?_
        refine ts (sv_blk Try.sizeOf3 rfl rfl rfl (Nat.le_of_ble_eq_true rfl) rfl) ?_
        refine t_done ?_
        refine q_then_n (hK6 _ _ ?_)
        refine c_seq (fun K7 hK7 => ?_)
        refine c_region ?_
        refine tp rfl (lv_move rfl) ?_
        refine tp rfl (lv_nilCheck rfl) ?_
        refine tp rfl (lv_fieldAddr (o' := 0) Try.underlying65 rfl Try.sizeOf3 rfl rfl) ?_
        refine tp rfl (lv_load Try.isAgg3 rfl (gives_blk (.head _) rfl)) ?_
        refine tp rfl (lv_assign rfl) ?_
        refine tp rfl (lv_assign rfl) ?_
        refine t_done ?_
        refine q_then_n (hK7 _ _ ?_)
        refine c_ret ?_
        refine q_then_r ?_
        refine q_jump_r ?_
        have hr : rdyT cs (mx, ax) = true := rdyT_true.2 ⟨by show 0 < cs.getD ax 0; omega, by show cs.getD ax 0 ≤ (mx.getD ax M3.z).c; omega⟩
        refine t_f1 ?_
        refine t_f1 ?_
        refine t_putM (c := ((mx.getD ax M3.z).c) - ((cs).getD ax 0)) (by omega) (by omega) ?_
        refine t_f3 ?_
        refine t_f3 ?_
        refine t_shutTn (by rw [setC_len]; exact hlx) ((hT.of_inv hI).took (by omega) hr) ?_
        refine t_f1 ?_
        refine t_drop ?_
        refine q_ret2 rfl rfl rfl ?_
        exact ⟨mx, ax, hI.red _ (.here hr), rfl, rfl⟩
      · -- not both
        refine t_cut0 (E' := [(0, (.pointer (some ⟨p, 0, none⟩))), (6, (.slice bs ms.length cp)), (8, (.int .i64 ((k : Nat) : Int))), (9, (.pointer (some ⟨(ps.getD ax 0), 0, none⟩))), (10, (.int .i64 ((cs).getD ax 0))), (45, (.bool false))]) ?_ (fun KK hKK => ?_)
        ·
         refine q_then_n (hK5 _ _ ?_)
         refine c_false rfl ?_
         refine c_skip ?_
         refine q_then_n (hK4 _ _ ?_)
         refine c_seq (fun K6 hK6 => ?_)
         refine c_seq (fun K7 hK7 => ?_)
         refine c_region ?_
         have hr : rdyT cs (mx, ax) = false := rdyT_false.2 (fun hw => by have hw2 : 0 < cs.getD ax 0 := hw; show (mx.getD ax M3.z).c < cs.getD ax 0; omega)
         have hz := hI.zfacts
         refine tp rfl (lv_move rfl) ?_
         by_cases h2 : ((cs).getD ax 0) = 0
         · -- yes
          refine tp rfl (lv_eql rfl rfl (beq_iff_eq.2 h2)) ?_
          refine t_done ?_
          refine q_then_n (hK7 _ _ ?_)
          refine c_true rfl ?_
          refine c_region ?_
          refine tp rfl (lv_move rfl) ?_
          refine tp rfl (lv_nilCheck rfl) ?_
          refine tp rfl (lv_fieldAddr (o' := 2) Try.underlying65 rfl Try.sizeOf3 rfl rfl) ?_
          refine ts (sv_blk Try.sizeOf3 rfl rfl rfl (Nat.le_of_ble_eq_true rfl) rfl) ?_
          refine t_done ?_
          refine q_then_n (hK6 _ _ ?_)
          refine c_seq (fun K8 hK8 => ?_)
          refine c_seq (fun K9 hK9 => ?_)
          refine c_region ?_
          refine t_f1 ?_
          refine t_f1 ?_
          refine t_putM (c := 0) (by omega) (by omega) ?_
          rw [show setC mx ax 0 = zeroT cs mx ax from by unfold zeroT; first | rw [if_pos (by omega)] | rw [if_neg (by omega)]]
          have hzl : (zeroT cs mx ax).length = ms.length := by rw [zeroT_len]; exact hlx
          refine tp rfl (lv_move rfl) ?_
          refine tp rfl (lv_add (c := ((k + 1 : Nat) : Int)) rfl rfl (wr_i64_succ (by omega))) ?_
          refine tp rfl (lv_assign rfl) ?_
          refine t_done ?_
          refine q_then_n (hK9 _ _ ?_)
          refine c_seq (fun K10 hK10 => ?_)
          refine c_region ?_
          refine tp rfl (lv_move rfl) ?_
          refine tp rfl (lv_move rfl) ?_
          refine tp rfl (lv_nilCheck rfl) ?_
          refine tp rfl (lv_fieldAddr (o' := 1) Try.underlying62 rfl Try.sizeOf60 rfl rfl) ?_
          refine tp rfl (lv_load Try.isAgg60 rfl (gives_blk (.tail _ (.tail _ (.head _))) rfl)) ?_
          refine tp rfl (lv_len Try.underlying60 rfl rfl) ?_
          by_cases h3 : ((k + 1 : Nat) : Int) = ((ms.length : Nat) : Int)
          · -- yes
           refine tp rfl (lv_eql rfl rfl (beq_iff_eq.2 h3)) ?_
           refine t_done ?_
           refine q_then_n (hK10 _ _ ?_)
           refine c_true rfl ?_
           refine c_region ?_
           refine tp rfl (lv_move rfl) ?_
           refine tp rfl (lv_move rfl) ?_
           refine t_f3 ?_
           refine t_f3 ?_
           refine t_f3 ?_
           refine tc rfl (en_fn Try.call26 rfl) (skip_ok hTlp hzl hT.ok (by omega) hbs hcl (by omega) (fun i h1 h2 => (hI.low hr (by omega) i (by omega)).2.1 h2) hz hcb hany2) ?_
           rintro _ _ ⟨r, hub, hex, rfl, rfl⟩
           refine t_done ?_
           refine q_then_n (hK8 _ _ ?_)
           refine c_seq (fun K11 hK11 => ?_)
           have hnl := nxt_lt hal
           refine c_draw (γ := Unit) (n := 15) Try.mixed rfl rfl (fun _ S => True) (fun _ => [(0, 75, (.pointer (some ⟨p, 0, none⟩))), (1, 76, (.pointer (some ⟨p, 0, none⟩))), (2, 77, (.pointer (some ⟨p, 0, none⟩))), (3, 78, (.pointer (some ⟨p, 2, none⟩))), (4, 79, (.int .i64 ((ax : Nat) : Int))), (5, 80, (.int .i64 ((ax + 1 : Nat) : Int))), (6, 81, (.pointer (some ⟨p, 0, none⟩))), (7, 82, (.pointer (some ⟨p, 0, none⟩))), (8, 83, (.pointer (some ⟨p, 1, none⟩))), (9, 84, (.slice ba ms.length ca)), (10, 85, (.int .i64 ((ms.length : Nat) : Int))), (11, 86, (.int .i64 ((nxt ax ms.length : Nat) : Int))), (12, 87, (.pointer (some ⟨p, 0, none⟩))), (13, 88, (.pointer (some ⟨p, 2, none⟩)))]) (fun _ S => (SlV 3 1 (.slice bs ms.length cp) ms.length (ints .i64 cs)) :: (bif S 14 then (Blk p [(.int .i64 q), (.slice ba ms.length ca), (.int .i64 ((nxt ax ms.length : Nat) : Int))] 62) else (Blk p [(.int .i64 q), (.slice ba ms.length ca), (.int .i64 ((ax : Nat) : Int))] 62)) :: (SlV 63 1 (.slice ba ms.length ca) ms.length (recs ptrF ps)) :: (Join (mems ps (bumpF q cs (fun _ => ((r : Nat) : Int)) (zeroT cs mx ax)))) :: R) (()) trivial (fun _ h => h) (fun _ _ h => h) ?_ ?_
           · -- steps
            refine ⟨?_, ?_, ?_, ?_, ?_, ?_, ?_, ?_, ?_, ?_, ?_, ?_, ?_, ?_, ?_, trivial⟩
            · -- 0
             rintro _ S hF hS D hp K hK
             try dsimp only at hF ⊢
             refine d_need (small := [(0, (.pointer (some ⟨p, 0, none⟩)))]) ⟨look_b rfl rfl, trivial⟩ ?_
             refine tp rfl (lv_move rfl) ?_
             exact d_closes ⟨look_b rfl rfl, trivial⟩ 0 rfl rfl rfl hS (AgreeR.refl _) (t_sat (fun _ h => h) (hK () trivial))
            · -- 1
             rintro _ S hF hS D hp K hK
             try dsimp only at hF ⊢
             refine d_need (small := [(0, (.pointer (some ⟨p, 0, none⟩)))]) ⟨look_b rfl rfl, trivial⟩ ?_
             refine tp rfl (lv_move rfl) ?_
             exact d_closes ⟨look_b rfl rfl, trivial⟩ 1 rfl rfl rfl hS (AgreeR.refl _) (t_sat (fun _ h => h) (hK () trivial))
            · -- 2
             rintro _ S hF hS D hp K hK
             try dsimp only at hF ⊢
             have s1 := hp 1 rfl
             refine d_need (small := [(76, (.pointer (some ⟨p, 0, none⟩)))]) ⟨look_row rfl 1 rfl s1, trivial⟩ ?_
             refine tp rfl (lv_nilCheck rfl) ?_
             exact d_closes ⟨look_row rfl 1 rfl s1, trivial⟩ 2 rfl rfl rfl hS (AgreeR.refl _) (t_sat (fun _ h => h) (hK () trivial))
            · -- 3
             rintro _ S hF hS D hp K hK
             try dsimp only at hF ⊢
             have s2 := hp 2 rfl
             refine d_need (small := [(77, (.pointer (some ⟨p, 0, none⟩)))]) ⟨look_row rfl 2 rfl s2, trivial⟩ ?_
             refine tp rfl (lv_fieldAddr (o' := 2) Try.underlying62 rfl Try.sizeOf3 rfl rfl) ?_
             exact d_closes ⟨look_row rfl 2 rfl s2, trivial⟩ 3 rfl rfl rfl hS (AgreeR.refl _) (t_sat (fun _ h => h) (hK () trivial))
            · -- 4
             rintro _ S hF hS D hp K hK
             try dsimp only at hF ⊢
             have s3 := hp 3 rfl
             refine d_need (small := [(78, (.pointer (some ⟨p, 2, none⟩)))]) ⟨look_row rfl 3 rfl s3, trivial⟩ ?_
             refine tp rfl (lv_load Try.isAgg3 rfl (gives_blk (mem_cF (nf hS D (k := 14) (i := 4) rfl) (.tail _ (.head _))) rfl)) ?_
             exact d_closes ⟨look_row rfl 3 rfl s3, trivial⟩ 4 rfl rfl rfl hS (AgreeR.refl _) (t_sat (fun _ h => h) (hK () trivial))
            · -- 5
             rintro _ S hF hS D hp K hK
             try dsimp only at hF ⊢
             have s4 := hp 4 rfl
             refine d_need (small := [(79, (.int .i64 ((ax : Nat) : Int)))]) ⟨look_row rfl 4 rfl s4, trivial⟩ ?_
             refine tp rfl (lv_add (c := ((ax + 1 : Nat) : Int)) rfl rfl (wr_i64_succ (by omega))) ?_
             exact d_closes ⟨look_row rfl 4 rfl s4, trivial⟩ 5 rfl rfl rfl hS (AgreeR.refl _) (t_sat (fun _ h => h) (hK () trivial))
            · -- 6
             rintro _ S hF hS D hp K hK
             try dsimp only at hF ⊢
             refine d_need (small := [(0, (.pointer (some ⟨p, 0, none⟩)))]) ⟨look_b rfl rfl, trivial⟩ ?_
             refine tp rfl (lv_move rfl) ?_
             exact d_closes ⟨look_b rfl rfl, trivial⟩ 6 rfl rfl rfl hS (AgreeR.refl _) (t_sat (fun _ h => h) (hK () trivial))
            · -- 7
             rintro _ S hF hS D hp K hK
             try dsimp only at hF ⊢
             have s6 := hp 6 rfl
             refine d_need (small := [(81, (.pointer (some ⟨p, 0, none⟩)))]) ⟨look_row rfl 6 rfl s6, trivial⟩ ?_
             refine tp rfl (lv_nilCheck rfl) ?_
             exact d_closes ⟨look_row rfl 6 rfl s6, trivial⟩ 7 rfl rfl rfl hS (AgreeR.refl _) (t_sat (fun _ h => h) (hK () trivial))
            · -- 8
             rintro _ S hF hS D hp K hK
             try dsimp only at hF ⊢
             have s7 := hp 7 rfl
             refine d_need (small := [(82, (.pointer (some ⟨p, 0, none⟩)))]) ⟨look_row rfl 7 rfl s7, trivial⟩ ?_
             refine tp rfl (lv_fieldAddr (o' := 1) Try.underlying62 rfl Try.sizeOf60 rfl rfl) ?_
             exact d_closes ⟨look_row rfl 7 rfl s7, trivial⟩ 8 rfl rfl rfl hS (AgreeR.refl _) (t_sat (fun _ h => h) (hK () trivial))
            · -- 9
             rintro _ S hF hS D hp K hK
             try dsimp only at hF ⊢
             have s8 := hp 8 rfl
             refine d_need (small := [(83, (.pointer (some ⟨p, 1, none⟩)))]) ⟨look_row rfl 8 rfl s8, trivial⟩ ?_
             refine tp rfl (lv_load Try.isAgg60 rfl (gives_blk (mem_cF (nf hS D (k := 14) (i := 9) rfl) (.tail _ (.head _))) rfl)) ?_
             exact d_closes ⟨look_row rfl 8 rfl s8, trivial⟩ 9 rfl rfl rfl hS (AgreeR.refl _) (t_sat (fun _ h => h) (hK () trivial))
            · -- 10
             rintro _ S hF hS D hp K hK
             try dsimp only at hF ⊢
             have s9 := hp 9 rfl
             refine d_need (small := [(84, (.slice ba ms.length ca))]) ⟨look_row rfl 9 rfl s9, trivial⟩ ?_
             refine tp rfl (lv_len Try.underlying60 rfl rfl) ?_
             exact d_closes ⟨look_row rfl 9 rfl s9, trivial⟩ 10 rfl rfl rfl hS (AgreeR.refl _) (t_sat (fun _ h => h) (hK () trivial))
            · -- 11
             rintro _ S hF hS D hp K hK
             try dsimp only at hF ⊢
             have s5 := hp 5 rfl
             have s10 := hp 10 rfl
             refine d_need (small := [(80, (.int .i64 ((ax + 1 : Nat) : Int))), (85, (.int .i64 ((ms.length : Nat) : Int)))]) ⟨look_row rfl 5 rfl s5, look_row rfl 10 rfl s10, trivial⟩ ?_
             refine tp rfl (lv_rem (c := ((nxt ax ms.length : Nat) : Int)) rfl rfl (by omega) (nxt_mod hal)) ?_
             exact d_closes ⟨look_row rfl 5 rfl s5, look_row rfl 10 rfl s10, trivial⟩ 11 rfl rfl rfl hS (AgreeR.refl _) (t_sat (fun _ h => h) (hK () trivial))
            · -- 12
             rintro _ S hF hS D hp K hK
             try dsimp only at hF ⊢
             have s0 := hp 0 rfl
             refine d_need (small := [(75, (.pointer (some ⟨p, 0, none⟩)))]) ⟨look_row rfl 0 rfl s0, trivial⟩ ?_
             refine tp rfl (lv_nilCheck rfl) ?_
             exact d_closes ⟨look_row rfl 0 rfl s0, trivial⟩ 12 rfl rfl rfl hS (AgreeR.refl _) (t_sat (fun _ h => h) (hK () trivial))
            · -- 13
             rintro _ S hF hS D hp K hK
             try dsimp only at hF ⊢
             have s12 := hp 12 rfl
             refine d_need (small := [(87, (.pointer (some ⟨p, 0, none⟩)))]) ⟨look_row rfl 12 rfl s12, trivial⟩ ?_
             refine tp rfl (lv_fieldAddr (o' := 2) Try.underlying62 rfl Try.sizeOf3 rfl rfl) ?_
             exact d_closes ⟨look_row rfl 12 rfl s12, trivial⟩ 13 rfl rfl rfl hS (AgreeR.refl _) (t_sat (fun _ h => h) (hK () trivial))
            · -- 14
             rintro _ S hF hS D hp K hK
             try dsimp only at hF ⊢
             have s11 := hp 11 rfl
             have s13 := hp 13 rfl
             refine d_need (small := [(86, (.int .i64 ((nxt ax ms.length : Nat) : Int))), (88, (.pointer (some ⟨p, 2, none⟩)))]) ⟨look_row rfl 11 rfl s11, look_row rfl 13 rfl s13, trivial⟩ ?_
             refine t_f1 ?_
             refine t_cF hS ?_
             refine ts (sv_blk Try.sizeOf3 rfl rfl rfl (Nat.le_of_ble_eq_true rfl) rfl) ?_
             refine t_f1 ?_
             exact d_closes0 ⟨look_row rfl 11 rfl s11, look_row rfl 13 rfl s13, trivial⟩ rfl (t_sat (fun _ h => h) (hK () trivial))
           · -- behind
            rintro _ hF
            try dsimp only at hF ⊢
            refine t_weak (E' := [(0, (.pointer (some ⟨p, 0, none⟩))), (6, (.slice bs ms.length cp)), (8, (.int .i64 ((k + 1 : Nat) : Int))), (9, (.pointer (some ⟨(ps.getD ax 0), 0, none⟩))), (10, (.int .i64 ((cs).getD ax 0))), (45, (.bool false)), (59, (.bool true)), (71, (.bool true))]) ⟨rfl, rfl, rfl, rfl, rfl, rfl, rfl, rfl, trivial⟩ ?_
            refine q_then_n (hK11 _ _ ?_)
            refine c_seq (fun K12 hK12 => ?_)
            refine c_seq (fun K13 hK13 => ?_)
            refine c_region ?_
            refine tp rfl (lv_move rfl) ?_
            refine tp rfl (lv_move rfl) ?_
            refine tp rfl (lv_nilCheck rfl) ?_
            refine tp rfl (lv_fieldAddr (o' := 2) Try.underlying62 rfl Try.sizeOf3 rfl rfl) ?_
            refine tp rfl (lv_load Try.isAgg3 rfl (gives_blk (.tail _ (.head _)) rfl)) ?_
            refine tp rfl (lv_indexAddr (k' := nxt ax ms.length) Try.underlying22 Try.sizeOf3 rfl rfl hbs (by omega) (by omega) (by omega)) ?_
            refine tp rfl (lv_load Try.isAgg3 rfl (gives_sl (.head _) (ints_get (by first | omega | (simp; omega))))) ?_
            by_cases h4 : ((cs).getD (nxt ax ms.length) 0) > 0
            · -- yes
             refine tp rfl (lv_gtr rfl rfl (decide_eq_true h4)) ?_
             refine t_done ?_
             refine q_then_n (hK13 _ _ ?_)
             refine c_true rfl ?_
             have hbl : (bumpF q cs (fun _ => ((r : Nat) : Int)) (zeroT cs mx ax)).length = ms.length := by rw [bumpF_len]; exact hzl
             have hzj := hz (nxt ax ms.length) hnl
             have hubj := hub (nxt ax ms.length) hnl (by omega)
             have hcbj := hcb (nxt ax ms.length)
             have hrg : 0 ≤ ((r : Nat) : Int) * (q * ((zeroT cs mx ax).getD (nxt ax ms.length) M3.z).w) := Int.mul_nonneg (by omega) (by omega)
             have hgj : (bumpF q cs (fun _ => ((r : Nat) : Int)) (zeroT cs mx ax)).getD (nxt ax ms.length) M3.z = ⟨((zeroT cs mx ax).getD (nxt ax ms.length) M3.z).id, ((zeroT cs mx ax).getD (nxt ax ms.length) M3.z).w, ((zeroT cs mx ax).getD (nxt ax ms.length) M3.z).c + ((r : Nat) : Int) * (q * ((zeroT cs mx ax).getD (nxt ax ms.length) M3.z).w)⟩ := by rw [bumpF_get (by omega), if_pos (by omega)]
             have hw1 : 0 ≤ q * ((bumpF q cs (fun _ => ((r : Nat) : Int)) (zeroT cs mx ax)).getD (nxt ax ms.length) M3.z).w ∧ q * ((bumpF q cs (fun _ => ((r : Nat) : Int)) (zeroT cs mx ax)).getD (nxt ax ms.length) M3.z).w ≤ 104857600 ∧ 0 ≤ ((bumpF q cs (fun _ => ((r : Nat) : Int)) (zeroT cs mx ax)).getD (nxt ax ms.length) M3.z).c ∧ ((bumpF q cs (fun _ => ((r : Nat) : Int)) (zeroT cs mx ax)).getD (nxt ax ms.length) M3.z).c ≤ 1048576 := by rw [hgj]; dsimp only; omega
             refine t_f3 ?_
             refine t_takeM (i := (nxt ax ms.length)) (by omega) (by omega) ?_
             refine c_draw (γ := Unit) (n := 29) Try.mixed rfl rfl (fun _ S => True) (fun _ => [(0, 97, (.pointer (some ⟨p, 0, none⟩))), (1, 98, (.pointer (some ⟨p, 0, none⟩))), (2, 99, (.pointer (some ⟨p, 1, none⟩))), (3, 100, (.slice ba ms.length ca)), (4, 101, (.pointer (some ⟨p, 0, none⟩))), (5, 102, (.pointer (some ⟨p, 0, none⟩))), (6, 103, (.pointer (some ⟨p, 2, none⟩))), (7, 104, (.int .i64 ((nxt ax ms.length : Nat) : Int))), (8, 105, (.pointer (some (ad ba (nxt ax ms.length))))), (9, 106, (.pointer (some ⟨(ps.getD (nxt ax ms.length) 0), 0, none⟩))), (10, 107, (.pointer (some ⟨(ps.getD (nxt ax ms.length) 0), 0, none⟩))), (11, 108, (.pointer (some ⟨(ps.getD (nxt ax ms.length) 0), 2, none⟩))), (12, 109, (.int .i64 (((bumpF q cs (fun _ => ((r : Nat) : Int)) (zeroT cs mx ax)).getD (nxt ax ms.length) M3.z).c))), (13, 110, (.pointer (some ⟨p, 0, none⟩))), (14, 111, (.pointer (some ⟨p, 0, none⟩))), (15, 112, (.pointer (some ⟨p, 0, none⟩))), (16, 113, (.pointer (some ⟨p, 1, none⟩))), (17, 114, (.slice ba ms.length ca)), (18, 115, (.pointer (some ⟨p, 0, none⟩))), (19, 116, (.pointer (some ⟨p, 0, none⟩))), (20, 117, (.pointer (some ⟨p, 2, none⟩))), (21, 118, (.int .i64 ((nxt ax ms.length : Nat) : Int))), (22, 119, (.pointer (some (ad ba (nxt ax ms.length))))), (23, 120, (.pointer (some ⟨(ps.getD (nxt ax ms.length) 0), 0, none⟩))), (24, 121, (.int .i64 (q * (((bumpF q cs (fun _ => ((r : Nat) : Int)) (zeroT cs mx ax)).getD (nxt ax ms.length) M3.z).w)))), (25, 122, (.int .i64 ((((bumpF q cs (fun _ => ((r : Nat) : Int)) (zeroT cs mx ax)).getD (nxt ax ms.length) M3.z).c) + (q * (((bumpF q cs (fun _ => ((r : Nat) : Int)) (zeroT cs mx ax)).getD (nxt ax ms.length) M3.z).w))))), (26, 123, (.pointer (some ⟨(ps.getD (nxt ax ms.length) 0), 0, none⟩))), (27, 124, (.pointer (some ⟨(ps.getD (nxt ax ms.length) 0), 2, none⟩)))]) (fun _ S => (bif S 28 then (Blk (ps.getD (nxt ax ms.length) 0) [(.int .i64 (((bumpF q cs (fun _ => ((r : Nat) : Int)) (zeroT cs mx ax)).getD (nxt ax ms.length) M3.z).id)), (.int .i64 (((bumpF q cs (fun _ => ((r : Nat) : Int)) (zeroT cs mx ax)).getD (nxt ax ms.length) M3.z).w)), (.int .i64 ((((bumpF q cs (fun _ => ((r : Nat) : Int)) (zeroT cs mx ax)).getD (nxt ax ms.length) M3.z).c) + (q * (((bumpF q cs (fun _ => ((r : Nat) : Int)) (zeroT cs mx ax)).getD (nxt ax ms.length) M3.z).w))))] 65) else (Blk (ps.getD (nxt ax ms.length) 0) [(.int .i64 (((bumpF q cs (fun _ => ((r : Nat) : Int)) (zeroT cs mx ax)).getD (nxt ax ms.length) M3.z).id)), (.int .i64 (((bumpF q cs (fun _ => ((r : Nat) : Int)) (zeroT cs mx ax)).getD (nxt ax ms.length) M3.z).w)), (.int .i64 (((bumpF q cs (fun _ => ((r : Nat) : Int)) (zeroT cs mx ax)).getD (nxt ax ms.length) M3.z).c))] 65)) :: (Join (mems (ps.eraseIdx (nxt ax ms.length)) ((bumpF q cs (fun _ => ((r : Nat) : Int)) (zeroT cs mx ax)).eraseIdx (nxt ax ms.length)))) :: (SlV 3 1 (.slice bs ms.length cp) ms.length (ints .i64 cs)) :: (Blk p [(.int .i64 q), (.slice ba ms.length ca), (.int .i64 ((nxt ax ms.length : Nat) : Int))] 62) :: (SlV 63 1 (.slice ba ms.length ca) ms.length (recs ptrF ps)) :: R) (()) trivial (fun _ h => h) (fun _ _ h => h) ?_ ?_
             · -- steps
              refine ⟨?_, ?_, ?_, ?_, ?_, ?_, ?_, ?_, ?_, ?_, ?_, ?_, ?_, ?_, ?_, ?_, ?_, ?_, ?_, ?_, ?_, ?_, ?_, ?_, ?_, ?_, ?_, ?_, ?_, trivial⟩
              · -- 0
               rintro _ S hF hS D hp K hK
               try dsimp only at hF ⊢
               refine d_need (small := [(0, (.pointer (some ⟨p, 0, none⟩)))]) ⟨look_b rfl rfl, trivial⟩ ?_
               refine tp rfl (lv_move rfl) ?_
               exact d_closes ⟨look_b rfl rfl, trivial⟩ 0 rfl rfl rfl hS (AgreeR.refl _) (t_sat (fun _ h => h) (hK () trivial))
              · -- 1
               rintro _ S hF hS D hp K hK
               try dsimp only at hF ⊢
               have s0 := hp 0 rfl
               refine d_need (small := [(97, (.pointer (some ⟨p, 0, none⟩)))]) ⟨look_row rfl 0 rfl s0, trivial⟩ ?_
               refine tp rfl (lv_nilCheck rfl) ?_
               exact d_closes ⟨look_row rfl 0 rfl s0, trivial⟩ 1 rfl rfl rfl hS (AgreeR.refl _) (t_sat (fun _ h => h) (hK () trivial))
              · -- 2
               rintro _ S hF hS D hp K hK
               try dsimp only at hF ⊢
               have s1 := hp 1 rfl
               refine d_need (small := [(98, (.pointer (some ⟨p, 0, none⟩)))]) ⟨look_row rfl 1 rfl s1, trivial⟩ ?_
               refine tp rfl (lv_fieldAddr (o' := 1) Try.underlying62 rfl Try.sizeOf60 rfl rfl) ?_
               exact d_closes ⟨look_row rfl 1 rfl s1, trivial⟩ 2 rfl rfl rfl hS (AgreeR.refl _) (t_sat (fun _ h => h) (hK () trivial))
              · -- 3
               rintro _ S hF hS D hp K hK
               try dsimp only at hF ⊢
               have s2 := hp 2 rfl
               refine d_need (small := [(99, (.pointer (some ⟨p, 1, none⟩)))]) ⟨look_row rfl 2 rfl s2, trivial⟩ ?_
               refine tp rfl (lv_load Try.isAgg60 rfl (gives_blk (.tail _ (.tail _ (.tail _ (.head _)))) rfl)) ?_
               exact d_closes ⟨look_row rfl 2 rfl s2, trivial⟩ 3 rfl rfl rfl hS (AgreeR.refl _) (t_sat (fun _ h => h) (hK () trivial))
              · -- 4
               rintro _ S hF hS D hp K hK
               try dsimp only at hF ⊢
               refine d_need (small := [(0, (.pointer (some ⟨p, 0, none⟩)))]) ⟨look_b rfl rfl, trivial⟩ ?_
               refine tp rfl (lv_move rfl) ?_
               exact d_closes ⟨look_b rfl rfl, trivial⟩ 4 rfl rfl rfl hS (AgreeR.refl _) (t_sat (fun _ h => h) (hK () trivial))
              · -- 5
               rintro _ S hF hS D hp K hK
               try dsimp only at hF ⊢
               have s4 := hp 4 rfl
               refine d_need (small := [(101, (.pointer (some ⟨p, 0, none⟩)))]) ⟨look_row rfl 4 rfl s4, trivial⟩ ?_
               refine tp rfl (lv_nilCheck rfl) ?_
               exact d_closes ⟨look_row rfl 4 rfl s4, trivial⟩ 5 rfl rfl rfl hS (AgreeR.refl _) (t_sat (fun _ h => h) (hK () trivial))
              · -- 6
               rintro _ S hF hS D hp K hK
               try dsimp only at hF ⊢
               have s5 := hp 5 rfl
               refine d_need (small := [(102, (.pointer (some ⟨p, 0, none⟩)))]) ⟨look_row rfl 5 rfl s5, trivial⟩ ?_
               refine tp rfl (lv_fieldAddr (o' := 2) Try.underlying62 rfl Try.sizeOf3 rfl rfl) ?_
               exact d_closes ⟨look_row rfl 5 rfl s5, trivial⟩ 6 rfl rfl rfl hS (AgreeR.refl _) (t_sat (fun _ h => h) (hK () trivial))
              · -- 7
               rintro _ S hF hS D hp K hK
               try dsimp only at hF ⊢
               have s6 := hp 6 rfl
               refine d_need (small := [(103, (.pointer (some ⟨p, 2, none⟩)))]) ⟨look_row rfl 6 rfl s6, trivial⟩ ?_
               refine tp rfl (lv_load Try.isAgg3 rfl (gives_blk (.tail _ (.tail _ (.tail _ (.head _)))) rfl)) ?_
               exact d_closes ⟨look_row rfl 6 rfl s6, trivial⟩ 7 rfl rfl rfl hS (AgreeR.refl _) (t_sat (fun _ h => h) (hK () trivial))
              · -- 8
               rintro _ S hF hS D hp K hK
               try dsimp only at hF ⊢
               have s3 := hp 3 rfl
               have s7 := hp 7 rfl
               refine d_need (small := [(100, (.slice ba ms.length ca)), (104, (.int .i64 ((nxt ax ms.length : Nat) : Int)))]) ⟨look_row rfl 3 rfl s3, look_row rfl 7 rfl s7, trivial⟩ ?_
               refine tp rfl (lv_indexAddr (k' := nxt ax ms.length) Try.underlying60 Try.sizeOf63 rfl rfl hT.ok (by omega) (by omega) (by omega)) ?_
               exact d_closes ⟨look_row rfl 3 rfl s3, look_row rfl 7 rfl s7, trivial⟩ 8 rfl rfl rfl hS (AgreeR.refl _) (t_sat (fun _ h => h) (hK () trivial))
              · -- 9
               rintro _ S hF hS D hp K hK
               try dsimp only at hF ⊢
               have s8 := hp 8 rfl
               refine d_need (small := [(105, (.pointer (some (ad ba (nxt ax ms.length)))))]) ⟨look_row rfl 8 rfl s8, trivial⟩ ?_
               refine tp rfl (lv_load Try.isAgg63 rfl (gives_sl (.tail _ (.tail _ (.tail _ (.tail _ (.head _))))) (ptrs_get (by first | omega | (simp; omega))))) ?_
               exact d_closes ⟨look_row rfl 8 rfl s8, trivial⟩ 9 rfl rfl rfl hS (AgreeR.refl _) (t_sat (fun _ h => h) (hK () trivial))
              · -- 10
               rintro _ S hF hS D hp K hK
               try dsimp only at hF ⊢
               have s9 := hp 9 rfl
               refine d_need (small := [(106, (.pointer (some ⟨(ps.getD (nxt ax ms.length) 0), 0, none⟩)))]) ⟨look_row rfl 9 rfl s9, trivial⟩ ?_
               refine tp rfl (lv_nilCheck rfl) ?_
               exact d_closes ⟨look_row rfl 9 rfl s9, trivial⟩ 10 rfl rfl rfl hS (AgreeR.refl _) (t_sat (fun _ h => h) (hK () trivial))
              · -- 11
               rintro _ S hF hS D hp K hK
               try dsimp only at hF ⊢
               have s10 := hp 10 rfl
               refine d_need (small := [(107, (.pointer (some ⟨(ps.getD (nxt ax ms.length) 0), 0, none⟩)))]) ⟨look_row rfl 10 rfl s10, trivial⟩ ?_
               refine tp rfl (lv_fieldAddr (o' := 2) Try.underlying65 rfl Try.sizeOf3 rfl rfl) ?_
               exact d_closes ⟨look_row rfl 10 rfl s10, trivial⟩ 11 rfl rfl rfl hS (AgreeR.refl _) (t_sat (fun _ h => h) (hK () trivial))
              · -- 12
               rintro _ S hF hS D hp K hK
               try dsimp only at hF ⊢
               have s11 := hp 11 rfl
               refine d_need (small := [(108, (.pointer (some ⟨(ps.getD (nxt ax ms.length) 0), 2, none⟩)))]) ⟨look_row rfl 11 rfl s11, trivial⟩ ?_
               refine tp rfl (lv_load Try.isAgg3 rfl (gives_blk (mem_cF (nf hS D (k := 28) (i := 12) rfl) (.head _)) rfl)) ?_
               exact d_closes ⟨look_row rfl 11 rfl s11, trivial⟩ 12 rfl rfl rfl hS (AgreeR.refl _) (t_sat (fun _ h => h) (hK () trivial))
              · -- 13
               rintro _ S hF hS D hp K hK
               try dsimp only at hF ⊢
               refine d_need (small := [(0, (.pointer (some ⟨p, 0, none⟩)))]) ⟨look_b rfl rfl, trivial⟩ ?_
               refine tp rfl (lv_move rfl) ?_
               exact d_closes ⟨look_b rfl rfl, trivial⟩ 13 rfl rfl rfl hS (AgreeR.refl _) (t_sat (fun _ h => h) (hK () trivial))
              · -- 14
               rintro _ S hF hS D hp K hK
               try dsimp only at hF ⊢
               refine d_need (small := [(0, (.pointer (some ⟨p, 0, none⟩)))]) ⟨look_b rfl rfl, trivial⟩ ?_
               refine tp rfl (lv_move rfl) ?_
               exact d_closes ⟨look_b rfl rfl, trivial⟩ 14 rfl rfl rfl hS (AgreeR.refl _) (t_sat (fun _ h => h) (hK () trivial))
              · -- 15
               rintro _ S hF hS D hp K hK
               try dsimp only at hF ⊢
               have s14 := hp 14 rfl
               refine d_need (small := [(111, (.pointer (some ⟨p, 0, none⟩)))]) ⟨look_row rfl 14 rfl s14, trivial⟩ ?_
               refine tp rfl (lv_nilCheck rfl) ?_
               exact d_closes ⟨look_row rfl 14 rfl s14, trivial⟩ 15 rfl rfl rfl hS (AgreeR.refl _) (t_sat (fun _ h => h) (hK () trivial))
              · -- 16
               rintro _ S hF hS D hp K hK
               try dsimp only at hF ⊢
               have s15 := hp 15 rfl
               refine d_need (small := [(112, (.pointer (some ⟨p, 0, none⟩)))]) ⟨look_row rfl 15 rfl s15, trivial⟩ ?_
               refine tp rfl (lv_fieldAddr (o' := 1) Try.underlying62 rfl Try.sizeOf60 rfl rfl) ?_
               exact d_closes ⟨look_row rfl 15 rfl s15, trivial⟩ 16 rfl rfl rfl hS (AgreeR.refl _) (t_sat (fun _ h => h) (hK () trivial))
              · -- 17
               rintro _ S hF hS D hp K hK
               try dsimp only at hF ⊢
               have s16 := hp 16 rfl
               refine d_need (small := [(113, (.pointer (some ⟨p, 1, none⟩)))]) ⟨look_row rfl 16 rfl s16, trivial⟩ ?_
               refine tp rfl (lv_load Try.isAgg60 rfl (gives_blk (.tail _ (.tail _ (.tail _ (.head _)))) rfl)) ?_
               exact d_closes ⟨look_row rfl 16 rfl s16, trivial⟩ 17 rfl rfl rfl hS (AgreeR.refl _) (t_sat (fun _ h => h) (hK () trivial))
              · -- 18
               rintro _ S hF hS D hp K hK
               try dsimp only at hF ⊢
               refine d_need (small := [(0, (.pointer (some ⟨p, 0, none⟩)))]) ⟨look_b rfl rfl, trivial⟩ ?_
               refine tp rfl (lv_move rfl) ?_
               exact d_closes ⟨look_b rfl rfl, trivial⟩ 18 rfl rfl rfl hS (AgreeR.refl _) (t_sat (fun _ h => h) (hK () trivial))
              · -- 19
               rintro _ S hF hS D hp K hK
               try dsimp only at hF ⊢
               have s18 := hp 18 rfl
               refine d_need (small := [(115, (.pointer (some ⟨p, 0, none⟩)))]) ⟨look_row rfl 18 rfl s18, trivial⟩ ?_
               refine tp rfl (lv_nilCheck rfl) ?_
               exact d_closes ⟨look_row rfl 18 rfl s18, trivial⟩ 19 rfl rfl rfl hS (AgreeR.refl _) (t_sat (fun _ h => h) (hK () trivial))
              · -- 20
               rintro _ S hF hS D hp K hK
               try dsimp only at hF ⊢
               have s19 := hp 19 rfl
               refine d_need (small := [(116, (.pointer (some ⟨p, 0, none⟩)))]) ⟨look_row rfl 19 rfl s19, trivial⟩ ?_
               refine tp rfl (lv_fieldAddr (o' := 2) Try.underlying62 rfl Try.sizeOf3 rfl rfl) ?_
               exact d_closes ⟨look_row rfl 19 rfl s19, trivial⟩ 20 rfl rfl rfl hS (AgreeR.refl _) (t_sat (fun _ h => h) (hK () trivial))
              · -- 21
               rintro _ S hF hS D hp K hK
               try dsimp only at hF ⊢
               have s20 := hp 20 rfl
               refine d_need (small := [(117, (.pointer (some ⟨p, 2, none⟩)))]) ⟨look_row rfl 20 rfl s20, trivial⟩ ?_
               refine tp rfl (lv_load Try.isAgg3 rfl (gives_blk (.tail _ (.tail _ (.tail _ (.head _)))) rfl)) ?_
               exact d_closes ⟨look_row rfl 20 rfl s20, trivial⟩ 21 rfl rfl rfl hS (AgreeR.refl _) (t_sat (fun _ h => h) (hK () trivial))
              · -- 22
               rintro _ S hF hS D hp K hK
               try dsimp only at hF ⊢
               have s17 := hp 17 rfl
               have s21 := hp 21 rfl
               refine d_need (small := [(114, (.slice ba ms.length ca)), (118, (.int .i64 ((nxt ax ms.length : Nat) : Int)))]) ⟨look_row rfl 17 rfl s17, look_row rfl 21 rfl s21, trivial⟩ ?_
               refine tp rfl (lv_indexAddr (k' := nxt ax ms.length) Try.underlying60 Try.sizeOf63 rfl rfl hT.ok (by omega) (by omega) (by omega)) ?_
               exact d_closes ⟨look_row rfl 17 rfl s17, look_row rfl 21 rfl s21, trivial⟩ 22 rfl rfl rfl hS (AgreeR.refl _) (t_sat (fun _ h => h) (hK () trivial))
              · -- 23
               rintro _ S hF hS D hp K hK
               try dsimp only at hF ⊢
               have s22 := hp 22 rfl
               refine d_need (small := [(119, (.pointer (some (ad ba (nxt ax ms.length)))))]) ⟨look_row rfl 22 rfl s22, trivial⟩ ?_
               refine tp rfl (lv_load Try.isAgg63 rfl (gives_sl (.tail _ (.tail _ (.tail _ (.tail _ (.head _))))) (ptrs_get (by first | omega | (simp; omega))))) ?_
               exact d_closes ⟨look_row rfl 22 rfl s22, trivial⟩ 23 rfl rfl rfl hS (AgreeR.refl _) (t_sat (fun _ h => h) (hK () trivial))
              · -- 24
               rintro _ S hF hS D hp K hK
               try dsimp only at hF ⊢
               have s13 := hp 13 rfl
               have s23 := hp 23 rfl
               refine d_need (small := [(110, (.pointer (some ⟨p, 0, none⟩))), (120, (.pointer (some ⟨(ps.getD (nxt ax ms.length) 0), 0, none⟩)))]) ⟨look_row rfl 13 rfl s13, look_row rfl 23 rfl s23, trivial⟩ ?_
               refine t_cF (nf hS D (k := 28) (i := 24) rfl) ?_
               refine t_f3 ?_
               refine tc rfl (en_fn Try.call27 rfl) (gain_ok (by omega)) ?_
               rintro _ _ ⟨rfl, rfl⟩
               refine t_f1 ?_
               refine t_wF (A := (Blk (ps.getD (nxt ax ms.length) 0) [(.int .i64 (((bumpF q cs (fun _ => ((r : Nat) : Int)) (zeroT cs mx ax)).getD (nxt ax ms.length) M3.z).id)), (.int .i64 (((bumpF q cs (fun _ => ((r : Nat) : Int)) (zeroT cs mx ax)).getD (nxt ax ms.length) M3.z).w)), (.int .i64 ((((bumpF q cs (fun _ => ((r : Nat) : Int)) (zeroT cs mx ax)).getD (nxt ax ms.length) M3.z).c) + (q * (((bumpF q cs (fun _ => ((r : Nat) : Int)) (zeroT cs mx ax)).getD (nxt ax ms.length) M3.z).w))))] 65)) (nf hS D (k := 28) (i := 24) rfl) ?_
               refine t_f1 ?_
               refine t_f3 ?_
               refine t_f3 ?_
               refine t_f3 ?_
               exact d_closes ⟨look_row rfl 13 rfl s13, look_row rfl 23 rfl s23, trivial⟩ 24 rfl rfl rfl hS (AgreeR.refl _) (t_sat (fun _ h => h) (hK () trivial))
              · -- 25
               rintro _ S hF hS D hp K hK
               try dsimp only at hF ⊢
               have s12 := hp 12 rfl
               have s24 := hp 24 rfl
               refine d_need (small := [(109, (.int .i64 (((bumpF q cs (fun _ => ((r : Nat) : Int)) (zeroT cs mx ax)).getD (nxt ax ms.length) M3.z).c))), (121, (.int .i64 (q * (((bumpF q cs (fun _ => ((r : Nat) : Int)) (zeroT cs mx ax)).getD (nxt ax ms.length) M3.z).w))))]) ⟨look_row rfl 12 rfl s12, look_row rfl 24 rfl s24, trivial⟩ ?_
               refine tp rfl (lv_add (c := (((bumpF q cs (fun _ => ((r : Nat) : Int)) (zeroT cs mx ax)).getD (nxt ax ms.length) M3.z).c) + (q * (((bumpF q cs (fun _ => ((r : Nat) : Int)) (zeroT cs mx ax)).getD (nxt ax ms.length) M3.z).w))) rfl rfl (wr_i64 (by omega) (by omega))) ?_
               exact d_closes ⟨look_row rfl 12 rfl s12, look_row rfl 24 rfl s24, trivial⟩ 25 rfl rfl rfl hS (AgreeR.refl _) (t_sat (fun _ h => h) (hK () trivial))
              · -- 26
               rintro _ S hF hS D hp K hK
               try dsimp only at hF ⊢
               have s9 := hp 9 rfl
               refine d_need (small := [(106, (.pointer (some ⟨(ps.getD (nxt ax ms.length) 0), 0, none⟩)))]) ⟨look_row rfl 9 rfl s9, trivial⟩ ?_
               refine tp rfl (lv_nilCheck rfl) ?_
               exact d_closes ⟨look_row rfl 9 rfl s9, trivial⟩ 26 rfl rfl rfl hS (AgreeR.refl _) (t_sat (fun _ h => h) (hK () trivial))
              · -- 27
               rintro _ S hF hS D hp K hK
               try dsimp only at hF ⊢
               have s26 := hp 26 rfl
               refine d_need (small := [(123, (.pointer (some ⟨(ps.getD (nxt ax ms.length) 0), 0, none⟩)))]) ⟨look_row rfl 26 rfl s26, trivial⟩ ?_
               refine tp rfl (lv_fieldAddr (o' := 2) Try.underlying65 rfl Try.sizeOf3 rfl rfl) ?_
               exact d_closes ⟨look_row rfl 26 rfl s26, trivial⟩ 27 rfl rfl rfl hS (AgreeR.refl _) (t_sat (fun _ h => h) (hK () trivial))
              · -- 28
               rintro _ S hF hS D hp K hK
               try dsimp only at hF ⊢
               have s25 := hp 25 rfl
               have s27 := hp 27 rfl
               refine d_need (small := [(122, (.int .i64 ((((bumpF q cs (fun _ => ((r : Nat) : Int)) (zeroT cs mx ax)).getD (nxt ax ms.length) M3.z).c) + (q * (((bumpF q cs (fun _ => ((r : Nat) : Int)) (zeroT cs mx ax)).getD (nxt ax ms.length) M3.z).w))))), (124, (.pointer (some ⟨(ps.getD (nxt ax ms.length) 0), 2, none⟩)))]) ⟨look_row rfl 25 rfl s25, look_row rfl 27 rfl s27, trivial⟩ ?_
               refine t_cF hS ?_
               refine ts (sv_blk Try.sizeOf3 rfl rfl rfl (Nat.le_of_ble_eq_true rfl) rfl) ?_
               exact d_closes0 ⟨look_row rfl 25 rfl s25, look_row rfl 27 rfl s27, trivial⟩ rfl (t_sat (fun _ h => h) (hK () trivial))
             · -- behind
              rintro _ hF
              try dsimp only at hF ⊢
              refine t_weak (E' := [(0, (.pointer (some ⟨p, 0, none⟩))), (6, (.slice bs ms.length cp)), (8, (.int .i64 ((k + 1 : Nat) : Int))), (9, (.pointer (some ⟨(ps.getD ax 0), 0, none⟩))), (10, (.int .i64 ((cs).getD ax 0))), (45, (.bool false)), (59, (.bool true)), (71, (.bool true)), (96, (.bool true))]) ⟨rfl, rfl, rfl, rfl, rfl, rfl, rfl, rfl, rfl, trivial⟩ ?_
              refine q_then_n (hK12 _ _ ?_)
              refine c_goto ?_
              refine q_jump_g ?_
              refine t_f1 ?_
              refine t_f1 ?_
              refine t_putM (c := (((bumpF q cs (fun _ => ((r : Nat) : Int)) (zeroT cs mx ax)).getD (nxt ax ms.length) M3.z).c) + (q * (((bumpF q cs (fun _ => ((r : Nat) : Int)) (zeroT cs mx ax)).getD (nxt ax ms.length) M3.z).w))) (by omega) (by omega) ?_
              rw [show setC (bumpF q cs (fun _ => ((r : Nat) : Int)) (zeroT cs mx ax)) (nxt ax ms.length) ((((bumpF q cs (fun _ => ((r : Nat) : Int)) (zeroT cs mx ax)).getD (nxt ax ms.length) M3.z).c) + (q * (((bumpF q cs (fun _ => ((r : Nat) : Int)) (zeroT cs mx ax)).getD (nxt ax ms.length) M3.z).w))) = gainT q cs (bumpF q cs (fun _ => ((r : Nat) : Int)) (zeroT cs mx ax)) (nxt ax ms.length) from by unfold gainT; rw [if_pos (by omega)]]
              refine t_f3 ?_
              refine t_f3 ?_
              refine t_f3 ?_
              exact t_weak (by exact ⟨rfl, rfl, rfl, trivial⟩) (hK2 (bs, cp, gainT q cs (bumpF q cs (fun _ => ((r : Nat) : Int)) (zeroT cs mx ax)) (nxt ax ms.length), nxt ax ms.length, k + 1) ⟨hI.skip hr (by omega) r hub hex, hbs⟩ (by dsimp only; have := hI.k2; omega))
            · -- no
             refine tp rfl (lv_gtr rfl rfl (decide_eq_false h4)) ?_
             refine t_done ?_
             refine q_then_n (hK13 _ _ ?_)
             refine c_false rfl ?_
             refine c_skip ?_
             refine q_then_n (hK12 _ _ ?_)
             refine c_goto ?_
             refine q_jump_g ?_
             rw [show bumpF q cs (fun _ => ((r : Nat) : Int)) (zeroT cs mx ax) = gainT q cs (bumpF q cs (fun _ => ((r : Nat) : Int)) (zeroT cs mx ax)) (nxt ax ms.length) from by unfold gainT; rw [if_neg (by omega)]]
             exact t_weak (by exact ⟨rfl, rfl, rfl, trivial⟩) (hK2 (bs, cp, gainT q cs (bumpF q cs (fun _ => ((r : Nat) : Int)) (zeroT cs mx ax)) (nxt ax ms.length), nxt ax ms.length, k + 1) ⟨hI.skip hr (by omega) r hub hex, hbs⟩ (by dsimp only; have := hI.k2; omega))
          · -- no
           refine tp rfl (lv_eql rfl rfl (beq_eq_false_iff_ne.2 h3)) ?_
           refine t_done ?_
           refine q_then_n (hK10 _ _ ?_)
           refine c_false rfl ?_
           refine c_skip ?_
           refine q_then_n (hK8 _ _ ?_)
           refine c_seq (fun K11 hK11 => ?_)
           have hnl := nxt_lt hal
           refine c_draw (γ := Unit) (n := 15) Try.mixed rfl rfl (fun _ S => True) (fun _ => [(0, 75, (.pointer (some ⟨p, 0, none⟩))), (1, 76, (.pointer (some ⟨p, 0, none⟩))), (2, 77, (.pointer (some ⟨p, 0, none⟩))), (3, 78, (.pointer (some ⟨p, 2, none⟩))), (4, 79, (.int .i64 ((ax : Nat) : Int))), (5, 80, (.int .i64 ((ax + 1 : Nat) : Int))), (6, 81, (.pointer (some ⟨p, 0, none⟩))), (7, 82, (.pointer (some ⟨p, 0, none⟩))), (8, 83, (.pointer (some ⟨p, 1, none⟩))), (9, 84, (.slice ba ms.length ca)), (10, 85, (.int .i64 ((ms.length : Nat) : Int))), (11, 86, (.int .i64 ((nxt ax ms.length : Nat) : Int))), (12, 87, (.pointer (some ⟨p, 0, none⟩))), (13, 88, (.pointer (some ⟨p, 2, none⟩)))]) (fun _ S => (Join (mems ps (zeroT cs mx ax))) :: (SlV 3 1 (.slice bs ms.length cp) ms.length (ints .i64 cs)) :: (bif S 14 then (Blk p [(.int .i64 q), (.slice ba ms.length ca), (.int .i64 ((nxt ax ms.length : Nat) : Int))] 62) else (Blk p [(.int .i64 q), (.slice ba ms.length ca), (.int .i64 ((ax : Nat) : Int))] 62)) :: (SlV 63 1 (.slice ba ms.length ca) ms.length (recs ptrF ps)) :: R) (()) trivial (fun _ h => h) (fun _ _ h => h) ?_ ?_
           · -- steps
            refine ⟨?_, ?_, ?_, ?_, ?_, ?_, ?_, ?_, ?_, ?_, ?_, ?_, ?_, ?_, ?_, trivial⟩
            · -- 0
             rintro _ S hF hS D hp K hK
             try dsimp only at hF ⊢
             refine d_need (small := [(0, (.pointer (some ⟨p, 0, none⟩)))]) ⟨look_b rfl rfl, trivial⟩ ?_
             refine tp rfl (lv_move rfl) ?_
             exact d_closes ⟨look_b rfl rfl, trivial⟩ 0 rfl rfl rfl hS (AgreeR.refl _) (t_sat (fun _ h => h) (hK () trivial))
            · -- 1
             rintro _ S hF hS D hp K hK
             try dsimp only at hF ⊢
             refine d_need (small := [(0, (.pointer (some ⟨p, 0, none⟩)))]) ⟨look_b rfl rfl, trivial⟩ ?_
             refine tp rfl (lv_move rfl) ?_
             exact d_closes ⟨look_b rfl rfl, trivial⟩ 1 rfl rfl rfl hS (AgreeR.refl _) (t_sat (fun _ h => h) (hK () trivial))
            · -- 2
             rintro _ S hF hS D hp K hK
             try dsimp only at hF ⊢
             have s1 := hp 1 rfl
             refine d_need (small := [(76, (.pointer (some ⟨p, 0, none⟩)))]) ⟨look_row rfl 1 rfl s1, trivial⟩ ?_
             refine tp rfl (lv_nilCheck rfl) ?_
             exact d_closes ⟨look_row rfl 1 rfl s1, trivial⟩ 2 rfl rfl rfl hS (AgreeR.refl _) (t_sat (fun _ h => h) (hK () trivial))
            · -- 3
             rintro _ S hF hS D hp K hK
             try dsimp only at hF ⊢
             have s2 := hp 2 rfl
             refine d_need (small := [(77, (.pointer (some ⟨p, 0, none⟩)))]) ⟨look_row rfl 2 rfl s2, trivial⟩ ?_
             refine tp rfl (lv_fieldAddr (o' := 2) Try.underlying62 rfl Try.sizeOf3 rfl rfl) ?_
             exact d_closes ⟨look_row rfl 2 rfl s2, trivial⟩ 3 rfl rfl rfl hS (AgreeR.refl _) (t_sat (fun _ h => h) (hK () trivial))
            · -- 4
             rintro _ S hF hS D hp K hK
             try dsimp only at hF ⊢
             have s3 := hp 3 rfl
             refine d_need (small := [(78, (.pointer (some ⟨p, 2, none⟩)))]) ⟨look_row rfl 3 rfl s3, trivial⟩ ?_
             refine tp rfl (lv_load Try.isAgg3 rfl (gives_blk (mem_cF (nf hS D (k := 14) (i := 4) rfl) (.tail _ (.tail _ (.head _)))) rfl)) ?_
             exact d_closes ⟨look_row rfl 3 rfl s3, trivial⟩ 4 rfl rfl rfl hS (AgreeR.refl _) (t_sat (fun _ h => h) (hK () trivial))
            · -- 5
             rintro _ S hF hS D hp K hK
             try dsimp only at hF ⊢
             have s4 := hp 4 rfl
             refine d_need (small := [(79, (.int .i64 ((ax : Nat) : Int)))]) ⟨look_row rfl 4 rfl s4, trivial⟩ ?_
             refine tp rfl (lv_add (c := ((ax + 1 : Nat) : Int)) rfl rfl (wr_i64_succ (by omega))) ?_
             exact d_closes ⟨look_row rfl 4 rfl s4, trivial⟩ 5 rfl rfl rfl hS (AgreeR.refl _) (t_sat (fun _ h => h) (hK () trivial))
            · -- 6
             rintro _ S hF hS D hp K hK
             try dsimp only at hF ⊢
             refine d_need (small := [(0, (.pointer (some ⟨p, 0, none⟩)))]) ⟨look_b rfl rfl, trivial⟩ ?_
             refine tp rfl (lv_move rfl) ?_
             exact d_closes ⟨look_b rfl rfl, trivial⟩ 6 rfl rfl rfl hS (AgreeR.refl _) (t_sat (fun _ h => h) (hK () trivial))
            · -- 7
             rintro _ S hF hS D hp K hK
             try dsimp only at hF ⊢
             have s6 := hp 6 rfl
             refine d_need (small := [(81, (.pointer (some ⟨p, 0, none⟩)))]) ⟨look_row rfl 6 rfl s6, trivial⟩ ?_
             refine tp rfl (lv_nilCheck rfl) ?_
             exact d_closes ⟨look_row rfl 6 rfl s6, trivial⟩ 7 rfl rfl rfl hS (AgreeR.refl _) (t_sat (fun _ h => h) (hK () trivial))
            · -- 8
             rintro _ S hF hS D hp K hK
             try dsimp only at hF ⊢
             have s7 := hp 7 rfl
             refine d_need (small := [(82, (.pointer (some ⟨p, 0, none⟩)))]) ⟨look_row rfl 7 rfl s7, trivial⟩ ?_
             refine tp rfl (lv_fieldAddr (o' := 1) Try.underlying62 rfl Try.sizeOf60 rfl rfl) ?_
             exact d_closes ⟨look_row rfl 7 rfl s7, trivial⟩ 8 rfl rfl rfl hS (AgreeR.refl _) (t_sat (fun _ h => h) (hK () trivial))
            · -- 9
             rintro _ S hF hS D hp K hK
             try dsimp only at hF ⊢
             have s8 := hp 8 rfl
             refine d_need (small := [(83, (.pointer (some ⟨p, 1, none⟩)))]) ⟨look_row rfl 8 rfl s8, trivial⟩ ?_
             refine tp rfl (lv_load Try.isAgg60 rfl (gives_blk (mem_cF (nf hS D (k := 14) (i := 9) rfl) (.tail _ (.tail _ (.head _)))) rfl)) ?_
             exact d_closes ⟨look_row rfl 8 rfl s8, trivial⟩ 9 rfl rfl rfl hS (AgreeR.refl _) (t_sat (fun _ h => h) (hK () trivial))
            · -- 10
             rintro _ S hF hS D hp K hK
             try dsimp only at hF ⊢
             have s9 := hp 9 rfl
             refine d_need (small := [(84, (.slice ba ms.length ca))]) ⟨look_row rfl 9 rfl s9, trivial⟩ ?_
             refine tp rfl (lv_len Try.underlying60 rfl rfl) ?_
             exact d_closes ⟨look_row rfl 9 rfl s9, trivial⟩ 10 rfl rfl rfl hS (AgreeR.refl _) (t_sat (fun _ h => h) (hK () trivial))
            · -- 11
             rintro _ S hF hS D hp K hK
             try dsimp only at hF ⊢
             have s5 := hp 5 rfl
             have s10 := hp 10 rfl
             refine d_need (small := [(80, (.int .i64 ((ax + 1 : Nat) : Int))), (85, (.int .i64 ((ms.length : Nat) : Int)))]) ⟨look_row rfl 5 rfl s5, look_row rfl 10 rfl s10, trivial⟩ ?_
             refine tp rfl (lv_rem (c := ((nxt ax ms.length : Nat) : Int)) rfl rfl (by omega) (nxt_mod hal)) ?_
             exact d_closes ⟨look_row rfl 5 rfl s5, look_row rfl 10 rfl s10, trivial⟩ 11 rfl rfl rfl hS (AgreeR.refl _) (t_sat (fun _ h => h) (hK () trivial))
            · -- 12
             rintro _ S hF hS D hp K hK
             try dsimp only at hF ⊢
             have s0 := hp 0 rfl
             refine d_need (small := [(75, (.pointer (some ⟨p, 0, none⟩)))]) ⟨look_row rfl 0 rfl s0, trivial⟩ ?_
             refine tp rfl (lv_nilCheck rfl) ?_
             exact d_closes ⟨look_row rfl 0 rfl s0, trivial⟩ 12 rfl rfl rfl hS (AgreeR.refl _) (t_sat (fun _ h => h) (hK () trivial))
            · -- 13
             rintro _ S hF hS D hp K hK
             try dsimp only at hF ⊢
             have s12 := hp 12 rfl
             refine d_need (small := [(87, (.pointer (some ⟨p, 0, none⟩)))]) ⟨look_row rfl 12 rfl s12, trivial⟩ ?_
             refine tp rfl (lv_fieldAddr (o' := 2) Try.underlying62 rfl Try.sizeOf3 rfl rfl) ?_
             exact d_closes ⟨look_row rfl 12 rfl s12, trivial⟩ 13 rfl rfl rfl hS (AgreeR.refl _) (t_sat (fun _ h => h) (hK () trivial))
            · -- 14
             rintro _ S hF hS D hp K hK
             try dsimp only at hF ⊢
             have s11 := hp 11 rfl
             have s13 := hp 13 rfl
             refine d_need (small := [(86, (.int .i64 ((nxt ax ms.length : Nat) : Int))), (88, (.pointer (some ⟨p, 2, none⟩)))]) ⟨look_row rfl 11 rfl s11, look_row rfl 13 rfl s13, trivial⟩ ?_
             refine t_f2 ?_
             refine t_cF hS ?_
             refine ts (sv_blk Try.sizeOf3 rfl rfl rfl (Nat.le_of_ble_eq_true rfl) rfl) ?_
             refine t_f2 ?_
             refine t_f2 ?_
             exact d_closes0 ⟨look_row rfl 11 rfl s11, look_row rfl 13 rfl s13, trivial⟩ rfl (t_sat (fun _ h => h) (hK () trivial))
           · -- behind
            rintro _ hF
            try dsimp only at hF ⊢
            refine t_weak (E' := [(0, (.pointer (some ⟨p, 0, none⟩))), (6, (.slice bs ms.length cp)), (8, (.int .i64 ((k + 1 : Nat) : Int))), (9, (.pointer (some ⟨(ps.getD ax 0), 0, none⟩))), (10, (.int .i64 ((cs).getD ax 0))), (45, (.bool false)), (59, (.bool true)), (71, (.bool false))]) ⟨rfl, rfl, rfl, rfl, rfl, rfl, rfl, rfl, trivial⟩ ?_
            refine q_then_n (hK11 _ _ ?_)
            refine c_seq (fun K12 hK12 => ?_)
            refine c_seq (fun K13 hK13 => ?_)
            refine c_region ?_
            refine tp rfl (lv_move rfl) ?_
            refine tp rfl (lv_move rfl) ?_
            refine tp rfl (lv_nilCheck rfl) ?_
            refine tp rfl (lv_fieldAddr (o' := 2) Try.underlying62 rfl Try.sizeOf3 rfl rfl) ?_
            refine tp rfl (lv_load Try.isAgg3 rfl (gives_blk (.tail _ (.tail _ (.head _))) rfl)) ?_
            refine tp rfl (lv_indexAddr (k' := nxt ax ms.length) Try.underlying22 Try.sizeOf3 rfl rfl hbs (by omega) (by omega) (by omega)) ?_
            refine tp rfl (lv_load Try.isAgg3 rfl (gives_sl (.tail _ (.head _)) (ints_get (by first | omega | (simp; omega))))) ?_
            by_cases h5 : ((cs).getD (nxt ax ms.length) 0) > 0
            · -- yes
             refine tp rfl (lv_gtr rfl rfl (decide_eq_true h5)) ?_
             refine t_done ?_
             refine q_then_n (hK13 _ _ ?_)
             refine c_true rfl ?_
             have hw1 := hz (nxt ax ms.length) hnl
             refine t_takeM (i := (nxt ax ms.length)) (by omega) (by omega) ?_
             refine c_draw (γ := Unit) (n := 29) Try.mixed rfl rfl (fun _ S => True) (fun _ => [(0, 97, (.pointer (some ⟨p, 0, none⟩))), (1, 98, (.pointer (some ⟨p, 0, none⟩))), (2, 99, (.pointer (some ⟨p, 1, none⟩))), (3, 100, (.slice ba ms.length ca)), (4, 101, (.pointer (some ⟨p, 0, none⟩))), (5, 102, (.pointer (some ⟨p, 0, none⟩))), (6, 103, (.pointer (some ⟨p, 2, none⟩))), (7, 104, (.int .i64 ((nxt ax ms.length : Nat) : Int))), (8, 105, (.pointer (some (ad ba (nxt ax ms.length))))), (9, 106, (.pointer (some ⟨(ps.getD (nxt ax ms.length) 0), 0, none⟩))), (10, 107, (.pointer (some ⟨(ps.getD (nxt ax ms.length) 0), 0, none⟩))), (11, 108, (.pointer (some ⟨(ps.getD (nxt ax ms.length) 0), 2, none⟩))), (12, 109, (.int .i64 (((zeroT cs mx ax).getD (nxt ax ms.length) M3.z).c))), (13, 110, (.pointer (some ⟨p, 0, none⟩))), (14, 111, (.pointer (some ⟨p, 0, none⟩))), (15, 112, (.pointer (some ⟨p, 0, none⟩))), (16, 113, (.pointer (some ⟨p, 1, none⟩))), (17, 114, (.slice ba ms.length ca)), (18, 115, (.pointer (some ⟨p, 0, none⟩))), (19, 116, (.pointer (some ⟨p, 0, none⟩))), (20, 117, (.pointer (some ⟨p, 2, none⟩))), (21, 118, (.int .i64 ((nxt ax ms.length : Nat) : Int))), (22, 119, (.pointer (some (ad ba (nxt ax ms.length))))), (23, 120, (.pointer (some ⟨(ps.getD (nxt ax ms.length) 0), 0, none⟩))), (24, 121, (.int .i64 (q * (((zeroT cs mx ax).getD (nxt ax ms.length) M3.z).w)))), (25, 122, (.int .i64 ((((zeroT cs mx ax).getD (nxt ax ms.length) M3.z).c) + (q * (((zeroT cs mx ax).getD (nxt ax ms.length) M3.z).w))))), (26, 123, (.pointer (some ⟨(ps.getD (nxt ax ms.length) 0), 0, none⟩))), (27, 124, (.pointer (some ⟨(ps.getD (nxt ax ms.length) 0), 2, none⟩)))]) (fun _ S => (bif S 28 then (Blk (ps.getD (nxt ax ms.length) 0) [(.int .i64 (((zeroT cs mx ax).getD (nxt ax ms.length) M3.z).id)), (.int .i64 (((zeroT cs mx ax).getD (nxt ax ms.length) M3.z).w)), (.int .i64 ((((zeroT cs mx ax).getD (nxt ax ms.length) M3.z).c) + (q * (((zeroT cs mx ax).getD (nxt ax ms.length) M3.z).w))))] 65) else (Blk (ps.getD (nxt ax ms.length) 0) [(.int .i64 (((zeroT cs mx ax).getD (nxt ax ms.length) M3.z).id)), (.int .i64 (((zeroT cs mx ax).getD (nxt ax ms.length) M3.z).w)), (.int .i64 (((zeroT cs mx ax).getD (nxt ax ms.length) M3.z).c))] 65)) :: (Join (mems (ps.eraseIdx (nxt ax ms.length)) ((zeroT cs mx ax).eraseIdx (nxt ax ms.length)))) :: (SlV 3 1 (.slice bs ms.length cp) ms.length (ints .i64 cs)) :: (Blk p [(.int .i64 q), (.slice ba ms.length ca), (.int .i64 ((nxt ax ms.length : Nat) : Int))] 62) :: (SlV 63 1 (.slice ba ms.length ca) ms.length (recs ptrF ps)) :: R) (()) trivial (fun _ h => h) (fun _ _ h => h) ?_ ?_
             · -- steps
              refine ⟨?_, ?_, ?_, ?_, ?_, ?_, ?_, ?_, ?_, ?_, ?_, ?_, ?_, ?_, ?_, ?_, ?_, ?_, ?_, ?_, ?_, ?_, ?_, ?_, ?_, ?_, ?_, ?_, ?_, trivial⟩
              · -- 0
               rintro _ S hF hS D hp K hK
               try dsimp only at hF ⊢
               refine d_need (small := [(0, (.pointer (some ⟨p, 0, none⟩)))]) ⟨look_b rfl rfl, trivial⟩ ?_
               refine tp rfl (lv_move rfl) ?_
               exact d_closes ⟨look_b rfl rfl, trivial⟩ 0 rfl rfl rfl hS (AgreeR.refl _) (t_sat (fun _ h => h) (hK () trivial))
              · -- 1
               rintro _ S hF hS D hp K hK
               try dsimp only at hF ⊢
               have s0 := hp 0 rfl
               refine d_need (small := [(97, (.pointer (some ⟨p, 0, none⟩)))]) ⟨look_row rfl 0 rfl s0, trivial⟩ ?_
               refine tp rfl (lv_nilCheck rfl) ?_
               exact d_closes ⟨look_row rfl 0 rfl s0, trivial⟩ 1 rfl rfl rfl hS (AgreeR.refl _) (t_sat (fun _ h => h) (hK () trivial))
              · -- 2
               rintro _ S hF hS D hp K hK
               try dsimp only at hF ⊢
               have s1 := hp 1 rfl
               refine d_need (small := [(98, (.pointer (some ⟨p, 0, none⟩)))]) ⟨look_row rfl 1 rfl s1, trivial⟩ ?_
               refine tp rfl (lv_fieldAddr (o' := 1) Try.underlying62 rfl Try.sizeOf60 rfl rfl) ?_
               exact d_closes ⟨look_row rfl 1 rfl s1, trivial⟩ 2 rfl rfl rfl hS (AgreeR.refl _) (t_sat (fun _ h => h) (hK () trivial))
              · -- 3
               rintro _ S hF hS D hp K hK
               try dsimp only at hF ⊢
               have s2 := hp 2 rfl
               refine d_need (small := [(99, (.pointer (some ⟨p, 1, none⟩)))]) ⟨look_row rfl 2 rfl s2, trivial⟩ ?_
               refine tp rfl (lv_load Try.isAgg60 rfl (gives_blk (.tail _ (.tail _ (.tail _ (.head _)))) rfl)) ?_
               exact d_closes ⟨look_row rfl 2 rfl s2, trivial⟩ 3 rfl rfl rfl hS (AgreeR.refl _) (t_sat (fun _ h => h) (hK () trivial))
              · -- 4
               rintro _ S hF hS D hp K hK
               try dsimp only at hF ⊢
               refine d_need (small := [(0, (.pointer (some ⟨p, 0, none⟩)))]) ⟨look_b rfl rfl, trivial⟩ ?_
               refine tp rfl (lv_move rfl) ?_
               exact d_closes ⟨look_b rfl rfl, trivial⟩ 4 rfl rfl rfl hS (AgreeR.refl _) (t_sat (fun _ h => h) (hK () trivial))
              · -- 5
               rintro _ S hF hS D hp K hK
               try dsimp only at hF ⊢
               have s4 := hp 4 rfl
               refine d_need (small := [(101, (.pointer (some ⟨p, 0, none⟩)))]) ⟨look_row rfl 4 rfl s4, trivial⟩ ?_
               refine tp rfl (lv_nilCheck rfl) ?_
               exact d_closes ⟨look_row rfl 4 rfl s4, trivial⟩ 5 rfl rfl rfl hS (AgreeR.refl _) (t_sat (fun _ h => h) (hK () trivial))
              · -- 6
               rintro _ S hF hS D hp K hK
               try dsimp only at hF ⊢
               have s5 := hp 5 rfl
               refine d_need (small := [(102, (.pointer (some ⟨p, 0, none⟩)))]) ⟨look_row rfl 5 rfl s5, trivial⟩ ?_
               refine tp rfl (lv_fieldAddr (o' := 2) Try.underlying62 rfl Try.sizeOf3 rfl rfl) ?_
               exact d_closes ⟨look_row rfl 5 rfl s5, trivial⟩ 6 rfl rfl rfl hS (AgreeR.refl _) (t_sat (fun _ h => h) (hK () trivial))
              · -- 7
               rintro _ S hF hS D hp K hK
               try dsimp only at hF ⊢
               have s6 := hp 6 rfl
               refine d_need (small := [(103, (.pointer (some ⟨p, 2, none⟩)))]) ⟨look_row rfl 6 rfl s6, trivial⟩ ?_
               refine tp rfl (lv_load Try.isAgg3 rfl (gives_blk (.tail _ (.tail _ (.tail _ (.head _)))) rfl)) ?_
               exact d_closes ⟨look_row rfl 6 rfl s6, trivial⟩ 7 rfl rfl rfl hS (AgreeR.refl _) (t_sat (fun _ h => h) (hK () trivial))
              · -- 8
               rintro _ S hF hS D hp K hK
               try dsimp only at hF ⊢
               have s3 := hp 3 rfl
               have s7 := hp 7 rfl
               refine d_need (small := [(100, (.slice ba ms.length ca)), (104, (.int .i64 ((nxt ax ms.length : Nat) : Int)))]) ⟨look_row rfl 3 rfl s3, look_row rfl 7 rfl s7, trivial⟩ ?_
               refine tp rfl (lv_indexAddr (k' := nxt ax ms.length) Try.underlying60 Try.sizeOf63 rfl rfl hT.ok (by omega) (by omega) (by omega)) ?_
               exact d_closes ⟨look_row rfl 3 rfl s3, look_row rfl 7 rfl s7, trivial⟩ 8 rfl rfl rfl hS (AgreeR.refl _) (t_sat (fun _ h => h) (hK () trivial))
              · -- 9
               rintro _ S hF hS D hp K hK
               try dsimp only at hF ⊢
               have s8 := hp 8 rfl
               refine d_need (small := [(105, (.pointer (some (ad ba (nxt ax ms.length)))))]) ⟨look_row rfl 8 rfl s8, trivial⟩ ?_
               refine tp rfl (lv_load Try.isAgg63 rfl (gives_sl (.tail _ (.tail _ (.tail _ (.tail _ (.head _))))) (ptrs_get (by first | omega | (simp; omega))))) ?_
               exact d_closes ⟨look_row rfl 8 rfl s8, trivial⟩ 9 rfl rfl rfl hS (AgreeR.refl _) (t_sat (fun _ h => h) (hK () trivial))
              · -- 10
               rintro _ S hF hS D hp K hK
               try dsimp only at hF ⊢
               have s9 := hp 9 rfl
               refine d_need (small := [(106, (.pointer (some ⟨(ps.getD (nxt ax ms.length) 0), 0, none⟩)))]) ⟨look_row rfl 9 rfl s9, trivial⟩ ?_
               refine tp rfl (lv_nilCheck rfl) ?_
               exact d_closes ⟨look_row rfl 9 rfl s9, trivial⟩ 10 rfl rfl rfl hS (AgreeR.refl _) (t_sat (fun _ h => h) (hK () trivial))
              · -- 11
               rintro _ S hF hS D hp K hK
               try dsimp only at hF ⊢
               have s10 := hp 10 rfl
               refine d_need (small := [(107, (.pointer (some ⟨(ps.getD (nxt ax ms.length) 0), 0, none⟩)))]) ⟨look_row rfl 10 rfl s10, trivial⟩ ?_
               refine tp rfl (lv_fieldAddr (o' := 2) Try.underlying65 rfl Try.sizeOf3 rfl rfl) ?_
               exact d_closes ⟨look_row rfl 10 rfl s10, trivial⟩ 11 rfl rfl rfl hS (AgreeR.refl _) (t_sat (fun _ h => h) (hK () trivial))
              · -- 12
               rintro _ S hF hS D hp K hK
               try dsimp only at hF ⊢
               have s11 := hp 11 rfl
               refine d_need (small := [(108, (.pointer (some ⟨(ps.getD (nxt ax ms.length) 0), 2, none⟩)))]) ⟨look_row rfl 11 rfl s11, trivial⟩ ?_
               refine tp rfl (lv_load Try.isAgg3 rfl (gives_blk (mem_cF (nf hS D (k := 28) (i := 12) rfl) (.head _)) rfl)) ?_
               exact d_closes ⟨look_row rfl 11 rfl s11, trivial⟩ 12 rfl rfl rfl hS (AgreeR.refl _) (t_sat (fun _ h => h) (hK () trivial))
              · -- 13
               rintro _ S hF hS D hp K hK
               try dsimp only at hF ⊢
               refine d_need (small := [(0, (.pointer (some ⟨p, 0, none⟩)))]) ⟨look_b rfl rfl, trivial⟩ ?_
               refine tp rfl (lv_move rfl) ?_
               exact d_closes ⟨look_b rfl rfl, trivial⟩ 13 rfl rfl rfl hS (AgreeR.refl _) (t_sat (fun _ h => h) (hK () trivial))
              · -- 14
               rintro _ S hF hS D hp K hK
               try dsimp only at hF ⊢
               refine d_need (small := [(0, (.pointer (some ⟨p, 0, none⟩)))]) ⟨look_b rfl rfl, trivial⟩ ?_
               refine tp rfl (lv_move rfl) ?_
               exact d_closes ⟨look_b rfl rfl, trivial⟩ 14 rfl rfl rfl hS (AgreeR.refl _) (t_sat (fun _ h => h) (hK () trivial))
              · -- 15
               rintro _ S hF hS D hp K hK
               try dsimp only at hF ⊢
               have s14 := hp 14 rfl
               refine d_need (small := [(111, (.pointer (some ⟨p, 0, none⟩)))]) ⟨look_row rfl 14 rfl s14, trivial⟩ ?_
               refine tp rfl (lv_nilCheck rfl) ?_
               exact d_closes ⟨look_row rfl 14 rfl s14, trivial⟩ 15 rfl rfl rfl hS (AgreeR.refl _) (t_sat (fun _ h => h) (hK () trivial))
              · -- 16
               rintro _ S hF hS D hp K hK
               try dsimp only at hF ⊢
               have s15 := hp 15 rfl
               refine d_need (small := [(112, (.pointer (some ⟨p, 0, none⟩)))]) ⟨look_row rfl 15 rfl s15, trivial⟩ ?_
               refine tp rfl (lv_fieldAddr (o' := 1) Try.underlying62 rfl Try.sizeOf60 rfl rfl) ?_
               exact d_closes ⟨look_row rfl 15 rfl s15, trivial⟩ 16 rfl rfl rfl hS (AgreeR.refl _) (t_sat (fun _ h => h) (hK () trivial))
              · -- 17
               rintro _ S hF hS D hp K hK
               try dsimp only at hF ⊢
               have s16 := hp 16 rfl
               refine d_need (small := [(113, (.pointer (some ⟨p, 1, none⟩)))]) ⟨look_row rfl 16 rfl s16, trivial⟩ ?_
               refine tp rfl (lv_load Try.isAgg60 rfl (gives_blk (.tail _ (.tail _ (.tail _ (.head _)))) rfl)) ?_
               exact d_closes ⟨look_row rfl 16 rfl s16, trivial⟩ 17 rfl rfl rfl hS (AgreeR.refl _) (t_sat (fun _ h => h) (hK () trivial))
              · -- 18
               rintro _ S hF hS D hp K hK
               try dsimp only at hF ⊢
               refine d_need (small := [(0, (.pointer (some ⟨p, 0, none⟩)))]) ⟨look_b rfl rfl, trivial⟩ ?_
               refine tp rfl (lv_move rfl) ?_
               exact d_closes ⟨look_b rfl rfl, trivial⟩ 18 rfl rfl rfl hS (AgreeR.refl _) (t_sat (fun _ h => h) (hK () trivial))
              · -- 19
               rintro _ S hF hS D hp K hK
               try dsimp only at hF ⊢
               have s18 := hp 18 rfl
               refine d_need (small := [(115, (.pointer (some ⟨p, 0, none⟩)))]) ⟨look_row rfl 18 rfl s18, trivial⟩ ?_
               refine tp rfl (lv_nilCheck rfl) ?_
               exact d_closes ⟨look_row rfl 18 rfl s18, trivial⟩ 19 rfl rfl rfl hS (AgreeR.refl _) (t_sat (fun _ h => h) (hK () trivial))
              · -- 20
               rintro _ S hF hS D hp K hK
               try dsimp only at hF ⊢
               have s19 := hp 19 rfl
               refine d_need (small := [(116, (.pointer (some ⟨p, 0, none⟩)))]) ⟨look_row rfl 19 rfl s19, trivial⟩ ?_
               refine tp rfl (lv_fieldAddr (o' := 2) Try.underlying62 rfl Try.sizeOf3 rfl rfl) ?_
               exact d_closes ⟨look_row rfl 19 rfl s19, trivial⟩ 20 rfl rfl rfl hS (AgreeR.refl _) (t_sat (fun _ h => h) (hK () trivial))
              · -- 21
               rintro _ S hF hS D hp K hK
               try dsimp only at hF ⊢
               have s20 := hp 20 rfl
               refine d_need (small := [(117, (.pointer (some ⟨p, 2, none⟩)))]) ⟨look_row rfl 20 rfl s20, trivial⟩ ?_
               refine tp rfl (lv_load Try.isAgg3 rfl (gives_blk (.tail _ (.tail _ (.tail _ (.head _)))) rfl)) ?_
               exact d_closes ⟨look_row rfl 20 rfl s20, trivial⟩ 21 rfl rfl rfl hS (AgreeR.refl _) (t_sat (fun _ h => h) (hK () trivial))
              · -- 22
               rintro _ S hF hS D hp K hK
               try dsimp only at hF ⊢
               have s17 := hp 17 rfl
               have s21 := hp 21 rfl
               refine d_need (small := [(114, (.slice ba ms.length ca)), (118, (.int .i64 ((nxt ax ms.length : Nat) : Int)))]) ⟨look_row rfl 17 rfl s17, look_row rfl 21 rfl s21, trivial⟩ ?_
               refine tp rfl (lv_indexAddr (k' := nxt ax ms.length) Try.underlying60 Try.sizeOf63 rfl rfl hT.ok (by omega) (by omega) (by omega)) ?_
               exact d_closes ⟨look_row rfl 17 rfl s17, look_row rfl 21 rfl s21, trivial⟩ 22 rfl rfl rfl hS (AgreeR.refl _) (t_sat (fun _ h => h) (hK () trivial))
              · -- 23
               rintro _ S hF hS D hp K hK
               try dsimp only at hF ⊢
               have s22 := hp 22 rfl
               refine d_need (small := [(119, (.pointer (some (ad ba (nxt ax ms.length)))))]) ⟨look_row rfl 22 rfl s22, trivial⟩ ?_
               refine tp rfl (lv_load Try.isAgg63 rfl (gives_sl (.tail _ (.tail _ (.tail _ (.tail _ (.head _))))) (ptrs_get (by first | omega | (simp; omega))))) ?_
               exact d_closes ⟨look_row rfl 22 rfl s22, trivial⟩ 23 rfl rfl rfl hS (AgreeR.refl _) (t_sat (fun _ h => h) (hK () trivial))
              · -- 24
               rintro _ S hF hS D hp K hK
               try dsimp only at hF ⊢
               have s13 := hp 13 rfl
               have s23 := hp 23 rfl
               refine d_need (small := [(110, (.pointer (some ⟨p, 0, none⟩))), (120, (.pointer (some ⟨(ps.getD (nxt ax ms.length) 0), 0, none⟩)))]) ⟨look_row rfl 13 rfl s13, look_row rfl 23 rfl s23, trivial⟩ ?_
               refine t_cF (nf hS D (k := 28) (i := 24) rfl) ?_
               refine t_f3 ?_
               refine tc rfl (en_fn Try.call27 rfl) (gain_ok (by omega)) ?_
               rintro _ _ ⟨rfl, rfl⟩
               refine t_f1 ?_
               refine t_wF (A := (Blk (ps.getD (nxt ax ms.length) 0) [(.int .i64 (((zeroT cs mx ax).getD (nxt ax ms.length) M3.z).id)), (.int .i64 (((zeroT cs mx ax).getD (nxt ax ms.length) M3.z).w)), (.int .i64 ((((zeroT cs mx ax).getD (nxt ax ms.length) M3.z).c) + (q * (((zeroT cs mx ax).getD (nxt ax ms.length) M3.z).w))))] 65)) (nf hS D (k := 28) (i := 24) rfl) ?_
               refine t_f1 ?_
               refine t_f3 ?_
               refine t_f3 ?_
               refine t_f3 ?_
               exact d_closes ⟨look_row rfl 13 rfl s13, look_row rfl 23 rfl s23, trivial⟩ 24 rfl rfl rfl hS (AgreeR.refl _) (t_sat (fun _ h => h) (hK () trivial))
              · -- 25
               rintro _ S hF hS D hp K hK
               try dsimp only at hF ⊢
               have s12 := hp 12 rfl
               have s24 := hp 24 rfl
               refine d_need (small := [(109, (.int .i64 (((zeroT cs mx ax).getD (nxt ax ms.length) M3.z).c))), (121, (.int .i64 (q * (((zeroT cs mx ax).getD (nxt ax ms.length) M3.z).w))))]) ⟨look_row rfl 12 rfl s12, look_row rfl 24 rfl s24, trivial⟩ ?_
               refine tp rfl (lv_add (c := (((zeroT cs mx ax).getD (nxt ax ms.length) M3.z).c) + (q * (((zeroT cs mx ax).getD (nxt ax ms.length) M3.z).w))) rfl rfl (wr_i64 (by omega) (by omega))) ?_
               exact d_closes ⟨look_row rfl 12 rfl s12, look_row rfl 24 rfl s24, trivial⟩ 25 rfl rfl rfl hS (AgreeR.refl _) (t_sat (fun _ h => h) (hK () trivial))
              · -- 26
               rintro _ S hF hS D hp K hK
               try dsimp only at hF ⊢
               have s9 := hp 9 rfl
               refine d_need (small := [(106, (.pointer (some ⟨(ps.getD (nxt ax ms.length) 0), 0, none⟩)))]) ⟨look_row rfl 9 rfl s9, trivial⟩ ?_
               refine tp rfl (lv_nilCheck rfl) ?_
               exact d_closes ⟨look_row rfl 9 rfl s9, trivial⟩ 26 rfl rfl rfl hS (AgreeR.refl _) (t_sat (fun _ h => h) (hK () trivial))
              · -- 27
               rintro _ S hF hS D hp K hK
               try dsimp only at hF ⊢
               have s26 := hp 26 rfl
               refine d_need (small := [(123, (.pointer (some ⟨(ps.getD (nxt ax ms.length) 0), 0, none⟩)))]) ⟨look_row rfl 26 rfl s26, trivial⟩ ?_
               refine tp rfl (lv_fieldAddr (o' := 2) Try.underlying65 rfl Try.sizeOf3 rfl rfl) ?_
               exact d_closes ⟨look_row rfl 26 rfl s26, trivial⟩ 27 rfl rfl rfl hS (AgreeR.refl _) (t_sat (fun _ h => h) (hK () trivial))
              · -- 28
               rintro _ S hF hS D hp K hK
               try dsimp only at hF ⊢
               have s25 := hp 25 rfl
               have s27 := hp 27 rfl
               refine d_need (small := [(122, (.int .i64 ((((zeroT cs mx ax).getD (nxt ax ms.length) M3.z).c) + (q * (((zeroT cs mx ax).getD (nxt ax ms.length) M3.z).w))))), (124, (.pointer (some ⟨(ps.getD (nxt ax ms.length) 0), 2, none⟩)))]) ⟨look_row rfl 25 rfl s25, look_row rfl 27 rfl s27, trivial⟩ ?_
               refine t_cF hS ?_
               refine ts (sv_blk Try.sizeOf3 rfl rfl rfl (Nat.le_of_ble_eq_true rfl) rfl) ?_
               exact d_closes0 ⟨look_row rfl 25 rfl s25, look_row rfl 27 rfl s27, trivial⟩ rfl (t_sat (fun _ h => h) (hK () trivial))
             · -- behind
              rintro _ hF
              try dsimp only at hF ⊢
              refine t_weak (E' := [(0, (.pointer (some ⟨p, 0, none⟩))), (6, (.slice bs ms.length cp)), (8, (.int .i64 ((k + 1 : Nat) : Int))), (9, (.pointer (some ⟨(ps.getD ax 0), 0, none⟩))), (10, (.int .i64 ((cs).getD ax 0))), (45, (.bool false)), (59, (.bool true)), (71, (.bool false)), (96, (.bool true))]) ⟨rfl, rfl, rfl, rfl, rfl, rfl, rfl, rfl, rfl, trivial⟩ ?_
              refine q_then_n (hK12 _ _ ?_)
              refine c_goto ?_
              refine q_jump_g ?_
              refine t_f1 ?_
              refine t_f1 ?_
              refine t_putM (c := (((zeroT cs mx ax).getD (nxt ax ms.length) M3.z).c) + (q * (((zeroT cs mx ax).getD (nxt ax ms.length) M3.z).w))) (by omega) (by omega) ?_
              rw [show setC (zeroT cs mx ax) (nxt ax ms.length) ((((zeroT cs mx ax).getD (nxt ax ms.length) M3.z).c) + (q * (((zeroT cs mx ax).getD (nxt ax ms.length) M3.z).w))) = gainT q cs (zeroT cs mx ax) (nxt ax ms.length) from by unfold gainT; rw [if_pos (by omega)]]
              refine t_f3 ?_
              refine t_f3 ?_
              refine t_f3 ?_
              exact t_weak (by exact ⟨rfl, rfl, rfl, trivial⟩) (hK2 (bs, cp, gainT q cs (zeroT cs mx ax) (nxt ax ms.length), nxt ax ms.length, k + 1) ⟨hI.step' hr (by omega), hbs⟩ (by dsimp only; have := hI.k2; omega))
            · -- no
             refine tp rfl (lv_gtr rfl rfl (decide_eq_false h5)) ?_
             refine t_done ?_
             refine q_then_n (hK13 _ _ ?_)
             refine c_false rfl ?_
             refine c_skip ?_
             refine q_then_n (hK12 _ _ ?_)
             refine c_goto ?_
             refine q_jump_g ?_
             rw [show zeroT cs mx ax = gainT q cs (zeroT cs mx ax) (nxt ax ms.length) from by unfold gainT; rw [if_neg (by omega)]]
             refine t_f3 ?_
             refine t_f3 ?_
             refine t_f3 ?_
             exact t_weak (by exact ⟨rfl, rfl, rfl, trivial⟩) (hK2 (bs, cp, gainT q cs (zeroT cs mx ax) (nxt ax ms.length), nxt ax ms.length, k + 1) ⟨hI.step' hr (by omega), hbs⟩ (by dsimp only; have := hI.k2; omega))
         · -- no
          refine tp rfl (lv_eql rfl rfl (beq_eq_false_iff_ne.2 h2)) ?_
          refine t_done ?_
          refine q_then_n (hK7 _ _ ?_)
          refine c_false rfl ?_
          refine c_skip ?_
          refine q_then_n (hK6 _ _ ?_)
          refine c_seq (fun K8 hK8 => ?_)
          refine c_seq (fun K9 hK9 => ?_)
          refine c_region ?_
          refine t_f1 ?_
          refine t_f1 ?_
          refine t_putM0 (by omega) (by omega) ?_
          rw [show mx = zeroT cs mx ax from by unfold zeroT; first | rw [if_pos (by omega)] | rw [if_neg (by omega)]]
          have hzl : (zeroT cs mx ax).length = ms.length := by rw [zeroT_len]; exact hlx
          refine tp rfl (lv_move rfl) ?_
          refine tp rfl (lv_add (c := ((k + 1 : Nat) : Int)) rfl rfl (wr_i64_succ (by omega))) ?_
          refine tp rfl (lv_assign rfl) ?_
          refine t_done ?_
          refine q_then_n (hK9 _ _ ?_)
          refine c_seq (fun K10 hK10 => ?_)
          refine c_region ?_
          refine tp rfl (lv_move rfl) ?_
          refine tp rfl (lv_move rfl) ?_
          refine tp rfl (lv_nilCheck rfl) ?_
          refine tp rfl (lv_fieldAddr (o' := 1) Try.underlying62 rfl Try.sizeOf60 rfl rfl) ?_
          refine tp rfl (lv_load Try.isAgg60 rfl (gives_blk (.tail _ (.tail _ (.head _))) rfl)) ?_
          refine tp rfl (lv_len Try.underlying60 rfl rfl) ?_
          by_cases h6 : ((k + 1 : Nat) : Int) = ((ms.length : Nat) : Int)
          · -- yes
           refine tp rfl (lv_eql rfl rfl (beq_iff_eq.2 h6)) ?_
           refine t_done ?_
           refine q_then_n (hK10 _ _ ?_)
           refine c_true rfl ?_
           refine c_region ?_
           refine tp rfl (lv_move rfl) ?_
           refine tp rfl (lv_move rfl) ?_
           refine t_f3 ?_
           refine t_f3 ?_
           refine t_f3 ?_
           refine tc rfl (en_fn Try.call26 rfl) (skip_ok hTlp hzl hT.ok (by omega) hbs hcl (by omega) (fun i h1 h2 => (hI.low hr (by omega) i (by omega)).2.1 h2) hz hcb hany2) ?_
           rintro _ _ ⟨r, hub, hex, rfl, rfl⟩
           refine t_done ?_
           refine q_then_n (hK8 _ _ ?_)
           refine c_seq (fun K11 hK11 => ?_)
           have hnl := nxt_lt hal
           refine c_draw (γ := Unit) (n := 15) Try.mixed rfl rfl (fun _ S => True) (fun _ => [(0, 75, (.pointer (some ⟨p, 0, none⟩))), (1, 76, (.pointer (some ⟨p, 0, none⟩))), (2, 77, (.pointer (some ⟨p, 0, none⟩))), (3, 78, (.pointer (some ⟨p, 2, none⟩))), (4, 79, (.int .i64 ((ax : Nat) : Int))), (5, 80, (.int .i64 ((ax + 1 : Nat) : Int))), (6, 81, (.pointer (some ⟨p, 0, none⟩))), (7, 82, (.pointer (some ⟨p, 0, none⟩))), (8, 83, (.pointer (some ⟨p, 1, none⟩))), (9, 84, (.slice ba ms.length ca)), (10, 85, (.int .i64 ((ms.length : Nat) : Int))), (11, 86, (.int .i64 ((nxt ax ms.length : Nat) : Int))), (12, 87, (.pointer (some ⟨p, 0, none⟩))), (13, 88, (.pointer (some ⟨p, 2, none⟩)))]) (fun _ S => (SlV 3 1 (.slice bs ms.length cp) ms.length (ints .i64 cs)) :: (bif S 14 then (Blk p [(.int .i64 q), (.slice ba ms.length ca), (.int .i64 ((nxt ax ms.length : Nat) : Int))] 62) else (Blk p [(.int .i64 q), (.slice ba ms.length ca), (.int .i64 ((ax : Nat) : Int))] 62)) :: (SlV 63 1 (.slice ba ms.length ca) ms.length (recs ptrF ps)) :: (Join (mems ps (bumpF q cs (fun _ => ((r : Nat) : Int)) (zeroT cs mx ax)))) :: R) (()) trivial (fun _ h => h) (fun _ _ h => h) ?_ ?_
           · -- steps
            refine ⟨?_, ?_, ?_, ?_, ?_, ?_, ?_, ?_, ?_, ?_, ?_, ?_, ?_, ?_, ?_, trivial⟩
            · -- 0
             rintro _ S hF hS D hp K hK
             try dsimp only at hF ⊢
             refine d_need (small := [(0, (.pointer (some ⟨p, 0, none⟩)))]) ⟨look_b rfl rfl, trivial⟩ ?_
             refine tp rfl (lv_move rfl) ?_
             exact d_closes ⟨look_b rfl rfl, trivial⟩ 0 rfl rfl rfl hS (AgreeR.refl _) (t_sat (fun _ h => h) (hK () trivial))
            · -- 1
             rintro _ S hF hS D hp K hK
             try dsimp only at hF ⊢
             refine d_need (small := [(0, (.pointer (some ⟨p, 0, none⟩)))]) ⟨look_b rfl rfl, trivial⟩ ?_
             refine tp rfl (lv_move rfl) ?_
             exact d_closes ⟨look_b rfl rfl, trivial⟩ 1 rfl rfl rfl hS (AgreeR.refl _) (t_sat (fun _ h => h) (hK () trivial))
            · -- 2
             rintro _ S hF hS D hp K hK
             try dsimp only at hF ⊢
             have s1 := hp 1 rfl
             refine d_need (small := [(76, (.pointer (some ⟨p, 0, none⟩)))]) ⟨look_row rfl 1 rfl s1, trivial⟩ ?_
             refine tp rfl (lv_nilCheck rfl) ?_
             exact d_closes ⟨look_row rfl 1 rfl s1, trivial⟩ 2 rfl rfl rfl hS (AgreeR.refl _) (t_sat (fun _ h => h) (hK () trivial))
            · -- 3
             rintro _ S hF hS D hp K hK
             try dsimp only at hF ⊢
             have s2 := hp 2 rfl
             refine d_need (small := [(77, (.pointer (some ⟨p, 0, none⟩)))]) ⟨look_row rfl 2 rfl s2, trivial⟩ ?_
             refine tp rfl (lv_fieldAddr (o' := 2) Try.underlying62 rfl Try.sizeOf3 rfl rfl) ?_
             exact d_closes ⟨look_row rfl 2 rfl s2, trivial⟩ 3 rfl rfl rfl hS (AgreeR.refl _) (t_sat (fun _ h => h) (hK () trivial))
            · -- 4
             rintro _ S hF hS D hp K hK
             try dsimp only at hF ⊢
             have s3 := hp 3 rfl
             refine d_need (small := [(78, (.pointer (some ⟨p, 2, none⟩)))]) ⟨look_row rfl 3 rfl s3, trivial⟩ ?_
             refine tp rfl (lv_load Try.isAgg3 rfl (gives_blk (mem_cF (nf hS D (k := 14) (i := 4) rfl) (.tail _ (.head _))) rfl)) ?_
             exact d_closes ⟨look_row rfl 3 rfl s3, trivial⟩ 4 rfl rfl rfl hS (AgreeR.refl _) (t_sat (fun _ h => h) (hK () trivial))
            · -- 5
             rintro _ S hF hS D hp K hK
             try dsimp only at hF ⊢
             have s4 := hp 4 rfl
             refine d_need (small := [(79, (.int .i64 ((ax : Nat) : Int)))]) ⟨look_row rfl 4 rfl s4, trivial⟩ ?_
             refine tp rfl (lv_add (c := ((ax + 1 : Nat) : Int)) rfl rfl (wr_i64_succ (by omega))) ?_
             exact d_closes ⟨look_row rfl 4 rfl s4, trivial⟩ 5 rfl rfl rfl hS (AgreeR.refl _) (t_sat (fun _ h => h) (hK () trivial))
            · -- 6
             rintro _ S hF hS D hp K hK
             try dsimp only at hF ⊢
             refine d_need (small := [(0, (.pointer (some ⟨p, 0, none⟩)))]) ⟨look_b rfl rfl, trivial⟩ ?_
             refine tp rfl (lv_move rfl) ?_
             exact d_closes ⟨look_b rfl rfl, trivial⟩ 6 rfl rfl rfl hS (AgreeR.refl _) (t_sat (fun _ h => h) (hK () trivial))
            · -- 7
             rintro _ S hF hS D hp K hK
             try dsimp only at hF ⊢
             have s6 := hp 6 rfl
             refine d_need (small := [(81, (.pointer (some ⟨p, 0, none⟩)))]) ⟨look_row rfl 6 rfl s6, trivial⟩ ?_
             refine tp rfl (lv_nilCheck rfl) ?_
             exact d_closes ⟨look_row rfl 6 rfl s6, trivial⟩ 7 rfl rfl rfl hS (AgreeR.refl _) (t_sat (fun _ h => h) (hK () trivial))
            · -- 8
             rintro _ S hF hS D hp K hK
             try dsimp only at hF ⊢
             have s7 := hp 7 rfl
             refine d_need (small := [(82, (.pointer (some ⟨p, 0, none⟩)))]) ⟨look_row rfl 7 rfl s7, trivial⟩ ?_
             refine tp rfl (lv_fieldAddr (o' := 1) Try.underlying62 rfl Try.sizeOf60 rfl rfl) ?_
             exact d_closes ⟨look_row rfl 7 rfl s7, trivial⟩ 8 rfl rfl rfl hS (AgreeR.refl _) (t_sat (fun _ h => h) (hK () trivial))
            · -- 9
             rintro _ S hF hS D hp K hK
             try dsimp only at hF ⊢
             have s8 := hp 8 rfl
             refine d_need (small := [(83, (.pointer (some ⟨p, 1, none⟩)))]) ⟨look_row rfl 8 rfl s8, trivial⟩ ?_
             refine tp rfl (lv_load Try.isAgg60 rfl (gives_blk (mem_cF (nf hS D (k := 14) (i := 9) rfl) (.tail _ (.head _))) rfl)) ?_
             exact d_closes ⟨look_row rfl 8 rfl s8, trivial⟩ 9 rfl rfl rfl hS (AgreeR.refl _) (t_sat (fun _ h => h) (hK () trivial))
            · -- 10
             rintro _ S hF hS D hp K hK
             try dsimp only at hF ⊢
             have s9 := hp 9 rfl
             refine d_need (small := [(84, (.slice ba ms.length ca))]) ⟨look_row rfl 9 rfl s9, trivial⟩ ?_
             refine tp rfl (lv_len Try.underlying60 rfl rfl) ?_
             exact d_closes ⟨look_row rfl 9 rfl s9, trivial⟩ 10 rfl rfl rfl hS (AgreeR.refl _) (t_sat (fun _ h => h) (hK () trivial))
            · -- 11
             rintro _ S hF hS D hp K hK
             try dsimp only at hF ⊢
             have s5 := hp 5 rfl
             have s10 := hp 10 rfl
             refine d_need (small := [(80, (.int .i64 ((ax + 1 : Nat) : Int))), (85, (.int .i64 ((ms.length : Nat) : Int)))]) ⟨look_row rfl 5 rfl s5, look_row rfl 10 rfl s10, trivial⟩ ?_
             refine tp rfl (lv_rem (c := ((nxt ax ms.length : Nat) : Int)) rfl rfl (by omega) (nxt_mod hal)) ?_
             exact d_closes ⟨look_row rfl 5 rfl s5, look_row rfl 10 rfl s10, trivial⟩ 11 rfl rfl rfl hS (AgreeR.refl _) (t_sat (fun _ h => h) (hK () trivial))
            · -- 12
             rintro _ S hF hS D hp K hK
             try dsimp only at hF ⊢
             have s0 := hp 0 rfl
             refine d_need (small := [(75, (.pointer (some ⟨p, 0, none⟩)))]) ⟨look_row rfl 0 rfl s0, trivial⟩ ?_
             refine tp rfl (lv_nilCheck rfl) ?_
             exact d_closes ⟨look_row rfl 0 rfl s0, trivial⟩ 12 rfl rfl rfl hS (AgreeR.refl _) (t_sat (fun _ h => h) (hK () trivial))
            · -- 13
             rintro _ S hF hS D hp K hK
             try dsimp only at hF ⊢
             have s12 := hp 12 rfl
             refine d_need (small := [(87, (.pointer (some ⟨p, 0, none⟩)))]) ⟨look_row rfl 12 rfl s12, trivial⟩ ?_
             refine tp rfl (lv_fieldAddr (o' := 2) Try.underlying62 rfl Try.sizeOf3 rfl rfl) ?_
             exact d_closes ⟨look_row rfl 12 rfl s12, trivial⟩ 13 rfl rfl rfl hS (AgreeR.refl _) (t_sat (fun _ h => h) (hK () trivial))
            · -- 14
             rintro _ S hF hS D hp K hK
             try dsimp only at hF ⊢
             have s11 := hp 11 rfl
             have s13 := hp 13 rfl
             refine d_need (small := [(86, (.int .i64 ((nxt ax ms.length : Nat) : Int))), (88, (.pointer (some ⟨p, 2, none⟩)))]) ⟨look_row rfl 11 rfl s11, look_row rfl 13 rfl s13, trivial⟩ ?_
             refine t_f1 ?_
             refine t_cF hS ?_
             refine ts (sv_blk Try.sizeOf3 rfl rfl rfl (Nat.le_of_ble_eq_true rfl) rfl) ?_
             refine t_f1 ?_
             exact d_closes0 ⟨look_row rfl 11 rfl s11, look_row rfl 13 rfl s13, trivial⟩ rfl (t_sat (fun _ h => h) (hK () trivial))
           · -- behind
            rintro _ hF
            try dsimp only at hF ⊢
            refine t_weak (E' := [(0, (.pointer (some ⟨p, 0, none⟩))), (6, (.slice bs ms.length cp)), (8, (.int .i64 ((k + 1 : Nat) : Int))), (9, (.pointer (some ⟨(ps.getD ax 0), 0, none⟩))), (10, (.int .i64 ((cs).getD ax 0))), (45, (.bool false)), (59, (.bool false)), (71, (.bool true))]) ⟨rfl, rfl, rfl, rfl, rfl, rfl, rfl, rfl, trivial⟩ ?_
            refine q_then_n (hK11 _ _ ?_)
            refine c_seq (fun K12 hK12 => ?_)
            refine c_seq (fun K13 hK13 => ?_)
            refine c_region ?_
            refine tp rfl (lv_move rfl) ?_
            refine tp rfl (lv_move rfl) ?_
            refine tp rfl (lv_nilCheck rfl) ?_
            refine tp rfl (lv_fieldAddr (o' := 2) Try.underlying62 rfl Try.sizeOf3 rfl rfl) ?_
            refine tp rfl (lv_load Try.isAgg3 rfl (gives_blk (.tail _ (.head _)) rfl)) ?_
            refine tp rfl (lv_indexAddr (k' := nxt ax ms.length) Try.underlying22 Try.sizeOf3 rfl rfl hbs (by omega) (by omega) (by omega)) ?_
            refine tp rfl (lv_load Try.isAgg3 rfl (gives_sl (.head _) (ints_get (by first | omega | (simp; omega))))) ?_
            by_cases h7 : ((cs).getD (nxt ax ms.length) 0) > 0
            · -- yes
             refine tp rfl (lv_gtr rfl rfl (decide_eq_true h7)) ?_
             refine t_done ?_
             refine q_then_n (hK13 _ _ ?_)
             refine c_true rfl ?_
             have hbl : (bumpF q cs (fun _ => ((r : Nat) : Int)) (zeroT cs mx ax)).length = ms.length := by rw [bumpF_len]; exact hzl
             have hzj := hz (nxt ax ms.length) hnl
             have hubj := hub (nxt ax ms.length) hnl (by omega)
             have hcbj := hcb (nxt ax ms.length)
             have hrg : 0 ≤ ((r : Nat) : Int) * (q * ((zeroT cs mx ax).getD (nxt ax ms.length) M3.z).w) := Int.mul_nonneg (by omega) (by omega)
             have hgj : (bumpF q cs (fun _ => ((r : Nat) : Int)) (zeroT cs mx ax)).getD (nxt ax ms.length) M3.z = ⟨((zeroT cs mx ax).getD (nxt ax ms.length) M3.z).id, ((zeroT cs mx ax).getD (nxt ax ms.length) M3.z).w, ((zeroT cs mx ax).getD (nxt ax ms.length) M3.z).c + ((r : Nat) : Int) * (q * ((zeroT cs mx ax).getD (nxt ax ms.length) M3.z).w)⟩ := by rw [bumpF_get (by omega), if_pos (by omega)]
             have hw1 : 0 ≤ q * ((bumpF q cs (fun _ => ((r : Nat) : Int)) (zeroT cs mx ax)).getD (nxt ax ms.length) M3.z).w ∧ q * ((bumpF q cs (fun _ => ((r : Nat) : Int)) (zeroT cs mx ax)).getD (nxt ax ms.length) M3.z).w ≤ 104857600 ∧ 0 ≤ ((bumpF q cs (fun _ => ((r : Nat) : Int)) (zeroT cs mx ax)).getD (nxt ax ms.length) M3.z).c ∧ ((bumpF q cs (fun _ => ((r : Nat) : Int)) (zeroT cs mx ax)).getD (nxt ax ms.length) M3.z).c ≤ 1048576 := by rw [hgj]; dsimp only; omega
             refine t_f3 ?_
             refine t_takeM (i := (nxt ax ms.length)) (by omega) (by omega) ?_
             refine c_draw (γ := Unit) (n := 29) Try.mixed rfl rfl (fun _ S => True) (fun _ => [(0, 97, (.pointer (some ⟨p, 0, none⟩))), (1, 98, (.pointer (some ⟨p, 0, none⟩))), (2, 99, (.pointer (some ⟨p, 1, none⟩))), (3, 100, (.slice ba ms.length ca)), (4, 101, (.pointer (some ⟨p, 0, none⟩))), (5, 102, (.pointer (some ⟨p, 0, none⟩))), (6, 103, (.pointer (some ⟨p, 2, none⟩))), (7, 104, (.int .i64 ((nxt ax ms.length : Nat) : Int))), (8, 105, (.pointer (some (ad ba (nxt ax ms.length))))), (9, 106, (.pointer (some ⟨(ps.getD (nxt ax ms.length) 0), 0, none⟩))), (10, 107, (.pointer (some ⟨(ps.getD (nxt ax ms.length) 0), 0, none⟩))), (11, 108, (.pointer (some ⟨(ps.getD (nxt ax ms.length) 0), 2, none⟩))), (12, 109, (.int .i64 (((bumpF q cs (fun _ => ((r : Nat) : Int)) (zeroT cs mx ax)).getD (nxt ax ms.length) M3.z).c))), (13, 110, (.pointer (some ⟨p, 0, none⟩))), (14, 111, (.pointer (some ⟨p, 0, none⟩))), (15, 112, (.pointer (some ⟨p, 0, none⟩))), (16, 113, (.pointer (some ⟨p, 1, none⟩))), (17, 114, (.slice ba ms.length ca)), (18, 115, (.pointer (some ⟨p, 0, none⟩))), (19, 116, (.pointer (some ⟨p, 0, none⟩))), (20, 117, (.pointer (some ⟨p, 2, none⟩))), (21, 118, (.int .i64 ((nxt ax ms.length : Nat) : Int))), (22, 119, (.pointer (some (ad ba (nxt ax ms.length))))), (23, 120, (.pointer (some ⟨(ps.getD (nxt ax ms.length) 0), 0, none⟩))), (24, 121, (.int .i64 (q * (((bumpF q cs (fun _ => ((r : Nat) : Int)) (zeroT cs mx ax)).getD (nxt ax ms.length) M3.z).w)))), (25, 122, (.int .i64 ((((bumpF q cs (fun _ => ((r : Nat) : Int)) (zeroT cs mx ax)).getD (nxt ax ms.length) M3.z).c) + (q * (((bumpF q cs (fun _ => ((r : Nat) : Int)) (zeroT cs mx ax)).getD (nxt ax ms.length) M3.z).w))))), (26, 123, (.pointer (some ⟨(ps.getD (nxt ax ms.length) 0), 0, none⟩))), (27, 124, (.pointer (some ⟨(ps.getD (nxt ax ms.length) 0), 2, none⟩)))]) (fun _ S => (bif S 28 then (Blk (ps.getD (nxt ax ms.length) 0) [(.int .i64 (((bumpF q cs (fun _ => ((r : Nat) : Int)) (zeroT cs mx ax)).getD (nxt ax ms.length) M3.z).id)), (.int .i64 (((bumpF q cs (fun _ => ((r : Nat) : Int)) (zeroT cs mx ax)).getD (nxt ax ms.length) M3.z).w)), (.int .i64 ((((bumpF q cs (fun _ => ((r : Nat) : Int)) (zeroT cs mx ax)).getD (nxt ax ms.length) M3.z).c) + (q * (((bumpF q cs (fun _ => ((r : Nat) : Int)) (zeroT cs mx ax)).getD (nxt ax ms.length) M3.z).w))))] 65) else (Blk (ps.getD (nxt ax ms.length) 0) [(.int .i64 (((bumpF q cs (fun _ => ((r : Nat) : Int)) (zeroT cs mx ax)).getD (nxt ax ms.length) M3.z).id)), (.int .i64 (((bumpF q cs (fun _ => ((r : Nat) : Int)) (zeroT cs mx ax)).getD (nxt ax ms.length) M3.z).w)), (.int .i64 (((bumpF q cs (fun _ => ((r : Nat) : Int)) (zeroT cs mx ax)).getD (nxt ax ms.length) M3.z).c))] 65)) :: (Join (mems (ps.eraseIdx (nxt ax ms.length)) ((bumpF q cs (fun _ => ((r : Nat) : Int)) (zeroT cs mx ax)).eraseIdx (nxt ax ms.length)))) :: (SlV 3 1 (.slice bs ms.length cp) ms.length (ints .i64 cs)) :: (Blk p [(.int .i64 q), (.slice ba ms.length ca), (.int .i64 ((nxt ax ms.length : Nat) : Int))] 62) :: (SlV 63 1 (.slice ba ms.length ca) ms.length (recs ptrF ps)) :: R) (()) trivial (fun _ h => h) (fun _ _ h => h) ?_ ?_
             · -- steps
              refine ⟨?_, ?_, ?_, ?_, ?_, ?_, ?_, ?_, ?_, ?_, ?_, ?_, ?_, ?_, ?_, ?_, ?_, ?_, ?_, ?_, ?_, ?_, ?_, ?_, ?_, ?_, ?_, ?_, ?_, trivial⟩
              · -- 0
               rintro _ S hF hS D hp K hK
               try dsimp only at hF ⊢
               refine d_need (small := [(0, (.pointer (some ⟨p, 0, none⟩)))]) ⟨look_b rfl rfl, trivial⟩ ?_
               refine tp rfl (lv_move rfl) ?_
               exact d_closes ⟨look_b rfl rfl, trivial⟩ 0 rfl rfl rfl hS (AgreeR.refl _) (t_sat (fun _ h => h) (hK () trivial))
              · -- 1
               rintro _ S hF hS D hp K hK
               try dsimp only at hF ⊢
               have s0 := hp 0 rfl
               refine d_need (small := [(97, (.pointer (some ⟨p, 0, none⟩)))]) ⟨look_row rfl 0 rfl s0, trivial⟩ ?_
               refine tp rfl (lv_nilCheck rfl) ?_
               exact d_closes ⟨look_row rfl 0 rfl s0, trivial⟩ 1 rfl rfl rfl hS (AgreeR.refl _) (t_sat (fun _ h => h) (hK () trivial))
              · -- 2
               rintro _ S hF hS D hp K hK
               try dsimp only at hF ⊢
               have s1 := hp 1 rfl
               refine d_need (small := [(98, (.pointer (some ⟨p, 0, none⟩)))]) ⟨look_row rfl 1 rfl s1, trivial⟩ ?_
               refine tp rfl (lv_fieldAddr (o' := 1) Try.underlying62 rfl Try.sizeOf60 rfl rfl) ?_
               exact d_closes ⟨look_row rfl 1 rfl s1, trivial⟩ 2 rfl rfl rfl hS (AgreeR.refl _) (t_sat (fun _ h => h) (hK () trivial))
              · -- 3
               rintro _ S hF hS D hp K hK
               try dsimp only at hF ⊢
               have s2 := hp 2 rfl
               refine d_need (small := [(99, (.pointer (some ⟨p, 1, none⟩)))]) ⟨look_row rfl 2 rfl s2, trivial⟩ ?_
               refine tp rfl (lv_load Try.isAgg60 rfl (gives_blk (.tail _ (.tail _ (.tail _ (.head _)))) rfl)) ?_
               exact d_closes ⟨look_row rfl 2 rfl s2, trivial⟩ 3 rfl rfl rfl hS (AgreeR.refl _) (t_sat (fun _ h => h) (hK () trivial))
              · -- 4
               rintro _ S hF hS D hp K hK
               try dsimp only at hF ⊢
               refine d_need (small := [(0, (.pointer (some ⟨p, 0, none⟩)))]) ⟨look_b rfl rfl, trivial⟩ ?_
               refine tp rfl (lv_move rfl) ?_
               exact d_closes ⟨look_b rfl rfl, trivial⟩ 4 rfl rfl rfl hS (AgreeR.refl _) (t_sat (fun _ h => h) (hK () trivial))
              · -- 5
               rintro _ S hF hS D hp K hK
               try dsimp only at hF ⊢
               have s4 := hp 4 rfl
               refine d_need (small := [(101, (.pointer (some ⟨p, 0, none⟩)))]) ⟨look_row rfl 4 rfl s4, trivial⟩ ?_
               refine tp rfl (lv_nilCheck rfl) ?_
               exact d_closes ⟨look_row rfl 4 rfl s4, trivial⟩ 5 rfl rfl rfl hS (AgreeR.refl _) (t_sat (fun _ h => h) (hK () trivial))
              · -- 6
               rintro _ S hF hS D hp K hK
               try dsimp only at hF ⊢
               have s5 := hp 5 rfl
               refine d_need (small := [(102, (.pointer (some ⟨p, 0, none⟩)))]) ⟨look_row rfl 5 rfl s5, trivial⟩ ?_
               refine tp rfl (lv_fieldAddr (o' := 2) Try.underlying62 rfl Try.sizeOf3 rfl rfl) ?_
               exact d_closes ⟨look_row rfl 5 rfl s5, trivial⟩ 6 rfl rfl rfl hS (AgreeR.refl _) (t_sat (fun _ h => h) (hK () trivial))
              · -- 7
               rintro _ S hF hS D hp K hK
               try dsimp only at hF ⊢
               have s6 := hp 6 rfl
               refine d_need (small := [(103, (.pointer (some ⟨p, 2, none⟩)))]) ⟨look_row rfl 6 rfl s6, trivial⟩ ?_
               refine tp rfl (lv_load Try.isAgg3 rfl (gives_blk (.tail _ (.tail _ (.tail _ (.head _)))) rfl)) ?_
               exact d_closes ⟨look_row rfl 6 rfl s6, trivial⟩ 7 rfl rfl rfl hS (AgreeR.refl _) (t_sat (fun _ h => h) (hK () trivial))
              · -- 8
               rintro _ S hF hS D hp K hK
               try dsimp only at hF ⊢
               have s3 := hp 3 rfl
               have s7 := hp 7 rfl
               refine d_need (small := [(100, (.slice ba ms.length ca)), (104, (.int .i64 ((nxt ax ms.length : Nat) : Int)))]) ⟨look_row rfl 3 rfl s3, look_row rfl 7 rfl s7, trivial⟩ ?_
               refine tp rfl (lv_indexAddr (k' := nxt ax ms.length) Try.underlying60 Try.sizeOf63 rfl rfl hT.ok (by omega) (by omega) (by omega)) ?_
               exact d_closes ⟨look_row rfl 3 rfl s3, look_row rfl 7 rfl s7, trivial⟩ 8 rfl rfl rfl hS (AgreeR.refl _) (t_sat (fun _ h => h) (hK () trivial))
              · -- 9
               rintro _ S hF hS D hp K hK
               try dsimp only at hF ⊢
               have s8 := hp 8 rfl
               refine d_need (small := [(105, (.pointer (some (ad ba (nxt ax ms.length)))))]) ⟨look_row rfl 8 rfl s8, trivial⟩ ?_
               refine tp rfl (lv_load Try.isAgg63 rfl (gives_sl (.tail _ (.tail _ (.tail _ (.tail _ (.head _))))) (ptrs_get (by first | omega | (simp; omega))))) ?_
               exact d_closes ⟨look_row rfl 8 rfl s8, trivial⟩ 9 rfl rfl rfl hS (AgreeR.refl _) (t_sat (fun _ h => h) (hK () trivial))
              · -- 10
               rintro _ S hF hS D hp K hK
               try dsimp only at hF ⊢
               have s9 := hp 9 rfl
               refine d_need (small := [(106, (.pointer (some ⟨(ps.getD (nxt ax ms.length) 0), 0, none⟩)))]) ⟨look_row rfl 9 rfl s9, trivial⟩ ?_
               refine tp rfl (lv_nilCheck rfl) ?_
               exact d_closes ⟨look_row rfl 9 rfl s9, trivial⟩ 10 rfl rfl rfl hS (AgreeR.refl _) (t_sat (fun _ h => h) (hK () trivial))
              · -- 11
               rintro _ S hF hS D hp K hK
               try dsimp only at hF ⊢
               have s10 := hp 10 rfl
               refine d_need (small := [(107, (.pointer (some ⟨(ps.getD (nxt ax ms.length) 0), 0, none⟩)))]) ⟨look_row rfl 10 rfl s10, trivial⟩ ?_
               refine tp rfl (lv_fieldAddr (o' := 2) Try.underlying65 rfl Try.sizeOf3 rfl rfl) ?_
               exact d_closes ⟨look_row rfl 10 rfl s10, trivial⟩ 11 rfl rfl rfl hS (AgreeR.refl _) (t_sat (fun _ h => h) (hK () trivial))
              · -- 12
               rintro _ S hF hS D hp K hK
               try dsimp only at hF ⊢
               have s11 := hp 11 rfl
               refine d_need (small := [(108, (.pointer (some ⟨(ps.getD (nxt ax ms.length) 0), 2, none⟩)))]) ⟨look_row rfl 11 rfl s11, trivial⟩ ?_
               refine tp rfl (lv_load Try.isAgg3 rfl (gives_blk (mem_cF (nf hS D (k := 28) (i := 12) rfl) (.head _)) rfl)) ?_
               exact d_closes ⟨look_row rfl 11 rfl s11, trivial⟩ 12 rfl rfl rfl hS (AgreeR.refl _) (t_sat (fun _ h => h) (hK () trivial))
              · -- 13
               rintro _ S hF hS D hp K hK
               try dsimp only at hF ⊢
               refine d_need (small := [(0, (.pointer (some ⟨p, 0, none⟩)))]) ⟨look_b rfl rfl, trivial⟩ ?_
               refine tp rfl (lv_move rfl) ?_
               exact d_closes ⟨look_b rfl rfl, trivial⟩ 13 rfl rfl rfl hS (AgreeR.refl _) (t_sat (fun _ h => h) (hK () trivial))
              · -- 14
               rintro _ S hF hS D hp K hK
               try dsimp only at hF ⊢
               refine d_need (small := [(0, (.pointer (some ⟨p, 0, none⟩)))]) ⟨look_b rfl rfl, trivial⟩ ?_
               refine tp rfl (lv_move rfl) ?_
               exact d_closes ⟨look_b rfl rfl, trivial⟩ 14 rfl rfl rfl hS (AgreeR.refl _) (t_sat (fun _ h => h) (hK () trivial))
              · -- 15
               rintro _ S hF hS D hp K hK
               try dsimp only at hF ⊢
               have s14 := hp 14 rfl
               refine d_need (small := [(111, (.pointer (some ⟨p, 0, none⟩)))]) ⟨look_row rfl 14 rfl s14, trivial⟩ ?_
               refine tp rfl (lv_nilCheck rfl) ?_
               exact d_closes ⟨look_row rfl 14 rfl s14, trivial⟩ 15 rfl rfl rfl hS (AgreeR.refl _) (t_sat (fun _ h => h) (hK () trivial))
              · -- 16
               rintro _ S hF hS D hp K hK
               try dsimp only at hF ⊢
               have s15 := hp 15 rfl
               refine d_need (small := [(112, (.pointer (some ⟨p, 0, none⟩)))]) ⟨look_row rfl 15 rfl s15, trivial⟩ ?_
               refine tp rfl (lv_fieldAddr (o' := 1) Try.underlying62 rfl Try.sizeOf60 rfl rfl) ?_
               exact d_closes ⟨look_row rfl 15 rfl s15, trivial⟩ 16 rfl rfl rfl hS (AgreeR.refl _) (t_sat (fun _ h => h) (hK () trivial))
              · -- 17
               rintro _ S hF hS D hp K hK
               try dsimp only at hF ⊢
               have s16 := hp 16 rfl
               refine d_need (small := [(113, (.pointer (some ⟨p, 1, none⟩)))]) ⟨look_row rfl 16 rfl s16, trivial⟩ ?_
               refine tp rfl (lv_load Try.isAgg60 rfl (gives_blk (.tail _ (.tail _ (.tail _ (.head _)))) rfl)) ?_
               exact d_closes ⟨look_row rfl 16 rfl s16, trivial⟩ 17 rfl rfl rfl hS (AgreeR.refl _) (t_sat (fun _ h => h) (hK () trivial))
              · -- 18
               rintro _ S hF hS D hp K hK
               try dsimp only at hF ⊢
               refine d_need (small := [(0, (.pointer (some ⟨p, 0, none⟩)))]) ⟨look_b rfl rfl, trivial⟩ ?_
               refine tp rfl (lv_move rfl) ?_
               exact d_closes ⟨look_b rfl rfl, trivial⟩ 18 rfl rfl rfl hS (AgreeR.refl _) (t_sat (fun _ h => h) (hK () trivial))
              · -- 19
               rintro _ S hF hS D hp K hK
               try dsimp only at hF ⊢
               have s18 := hp 18 rfl
               refine d_need (small := [(115, (.pointer (some ⟨p, 0, none⟩)))]) ⟨look_row rfl 18 rfl s18, trivial⟩ ?_
               refine tp rfl (lv_nilCheck rfl) ?_
               exact d_closes ⟨look_row rfl 18 rfl s18, trivial⟩ 19 rfl rfl rfl hS (AgreeR.refl _) (t_sat (fun _ h => h) (hK () trivial))
              · -- 20
               rintro _ S hF hS D hp K hK
               try dsimp only at hF ⊢
               have s19 := hp 19 rfl
               refine d_need (small := [(116, (.pointer (some ⟨p, 0, none⟩)))]) ⟨look_row rfl 19 rfl s19, trivial⟩ ?_
               refine tp rfl (lv_fieldAddr (o' := 2) Try.underlying62 rfl Try.sizeOf3 rfl rfl) ?_
               exact d_closes ⟨look_row rfl 19 rfl s19, trivial⟩ 20 rfl rfl rfl hS (AgreeR.refl _) (t_sat (fun _ h => h) (hK () trivial))
              · -- 21
               rintro _ S hF hS D hp K hK
               try dsimp only at hF ⊢
               have s20 := hp 20 rfl
               refine d_need (small := [(117, (.pointer (some ⟨p, 2, none⟩)))]) ⟨look_row rfl 20 rfl s20, trivial⟩ ?_
               refine tp rfl (lv_load Try.isAgg3 rfl (gives_blk (.tail _ (.tail _ (.tail _ (.head _)))) rfl)) ?_
               exact d_closes ⟨look_row rfl 20 rfl s20, trivial⟩ 21 rfl rfl rfl hS (AgreeR.refl _) (t_sat (fun _ h => h) (hK () trivial))
              · -- 22
               rintro _ S hF hS D hp K hK
               try dsimp only at hF ⊢
               have s17 := hp 17 rfl
               have s21 := hp 21 rfl
               refine d_need (small := [(114, (.slice ba ms.length ca)), (118, (.int .i64 ((nxt ax ms.length : Nat) : Int)))]) ⟨look_row rfl 17 rfl s17, look_row rfl 21 rfl s21, trivial⟩ ?_
               refine tp rfl (lv_indexAddr (k' := nxt ax ms.length) Try.underlying60 Try.sizeOf63 rfl rfl hT.ok (by omega) (by omega) (by omega)) ?_
               exact d_closes ⟨look_row rfl 17 rfl s17, look_row rfl 21 rfl s21, trivial⟩ 22 rfl rfl rfl hS (AgreeR.refl _) (t_sat (fun _ h => h) (hK () trivial))
              · -- 23
               rintro _ S hF hS D hp K hK
               try dsimp only at hF ⊢
               have s22 := hp 22 rfl
               refine d_need (small := [(119, (.pointer (some (ad ba (nxt ax ms.length)))))]) ⟨look_row rfl 22 rfl s22, trivial⟩ ?_
               refine tp rfl (lv_load Try.isAgg63 rfl (gives_sl (.tail _ (.tail _ (.tail _ (.tail _ (.head _))))) (ptrs_get (by first | omega | (simp; omega))))) ?_
               exact d_closes ⟨look_row rfl 22 rfl s22, trivial⟩ 23 rfl rfl rfl hS (AgreeR.refl _) (t_sat (fun _ h => h) (hK () trivial))
              · -- 24
               rintro _ S hF hS D hp K hK
               try dsimp only at hF ⊢
               have s13 := hp 13 rfl
               have s23 := hp 23 rfl
               refine d_need (small := [(110, (.pointer (some ⟨p, 0, none⟩))), (120, (.pointer (some ⟨(ps.getD (nxt ax ms.length) 0), 0, none⟩)))]) ⟨look_row rfl 13 rfl s13, look_row rfl 23 rfl s23, trivial⟩ ?_
               refine t_cF (nf hS D (k := 28) (i := 24) rfl) ?_
               refine t_f3 ?_
               refine tc rfl (en_fn Try.call27 rfl) (gain_ok (by omega)) ?_
               rintro _ _ ⟨rfl, rfl⟩
               refine t_f1 ?_
               refine t_wF (A := (Blk (ps.getD (nxt ax ms.length) 0) [(.int .i64 (((bumpF q cs (fun _ => ((r : Nat) : Int)) (zeroT cs mx ax)).getD (nxt ax ms.length) M3.z).id)), (.int .i64 (((bumpF q cs (fun _ => ((r : Nat) : Int)) (zeroT cs mx ax)).getD (nxt ax ms.length) M3.z).w)), (.int .i64 ((((bumpF q cs (fun _ => ((r : Nat) : Int)) (zeroT cs mx ax)).getD (nxt ax ms.length) M3.z).c) + (q * (((bumpF q cs (fun _ => ((r : Nat) : Int)) (zeroT cs mx ax)).getD (nxt ax ms.length) M3.z).w))))] 65)) (nf hS D (k := 28) (i := 24) rfl) ?_
               refine t_f1 ?_
               refine t_f3 ?_
               refine t_f3 ?_
               refine t_f3 ?_
               exact d_closes ⟨look_row rfl 13 rfl s13, look_row rfl 23 rfl s23, trivial⟩ 24 rfl rfl rfl hS (AgreeR.refl _) (t_sat (fun _ h => h) (hK () trivial))
              · -- 25
               rintro _ S hF hS D hp K hK
               try dsimp only at hF ⊢
               have s12 := hp 12 rfl
               have s24 := hp 24 rfl
               refine d_need (small := [(109, (.int .i64 (((bumpF q cs (fun _ => ((r : Nat) : Int)) (zeroT cs mx ax)).getD (nxt ax ms.length) M3.z).c))), (121, (.int .i64 (q * (((bumpF q cs (fun _ => ((r : Nat) : Int)) (zeroT cs mx ax)).getD (nxt ax ms.length) M3.z).w))))]) ⟨look_row rfl 12 rfl s12, look_row rfl 24 rfl s24, trivial⟩ ?_
               refine tp rfl (lv_add (c := (((bumpF q cs (fun _ => ((r : Nat) : Int)) (zeroT cs mx ax)).getD (nxt ax ms.length) M3.z).c) + (q * (((bumpF q cs (fun _ => ((r : Nat) : Int)) (zeroT cs mx ax)).getD (nxt ax ms.length) M3.z).w))) rfl rfl (wr_i64 (by omega) (by omega))) ?_
               exact d_closes ⟨look_row rfl 12 rfl s12, look_row rfl 24 rfl s24, trivial⟩ 25 rfl rfl rfl hS (AgreeR.refl _) (t_sat (fun _ h => h) (hK () trivial))
              · -- 26
               rintro _ S hF hS D hp K hK
               try dsimp only at hF ⊢
               have s9 := hp 9 rfl
               refine d_need (small := [(106, (.pointer (some ⟨(ps.getD (nxt ax ms.length) 0), 0, none⟩)))]) ⟨look_row rfl 9 rfl s9, trivial⟩ ?_
               refine tp rfl (lv_nilCheck rfl) ?_
               exact d_closes ⟨look_row rfl 9 rfl s9, trivial⟩ 26 rfl rfl rfl hS (AgreeR.refl _) (t_sat (fun _ h => h) (hK () trivial))
              · -- 27
               rintro _ S hF hS D hp K hK
               try dsimp only at hF ⊢
               have s26 := hp 26 rfl
               refine d_need (small := [(123, (.pointer (some ⟨(ps.getD (nxt ax ms.length) 0), 0, none⟩)))]) ⟨look_row rfl 26 rfl s26, trivial⟩ ?_
               refine tp rfl (lv_fieldAddr (o' := 2) Try.underlying65 rfl Try.sizeOf3 rfl rfl) ?_
               exact d_closes ⟨look_row rfl 26 rfl s26, trivial⟩ 27 rfl rfl rfl hS (AgreeR.refl _) (t_sat (fun _ h => h) (hK () trivial))
              · -- 28
               rintro _ S hF hS D hp K hK
               try dsimp only at hF ⊢
               have s25 := hp 25 rfl
               have s27 := hp 27 rfl
               refine d_need (small := [(122, (.int .i64 ((((bumpF q cs (fun _ => ((r : Nat) : Int)) (zeroT cs mx ax)).getD (nxt ax ms.length) M3.z).c) + (q * (((bumpF q cs (fun _ => ((r : Nat) : Int)) (zeroT cs mx ax)).getD (nxt ax ms.length) M3.z).w))))), (124, (.pointer (some ⟨(ps.getD (nxt ax ms.length) 0), 2, none⟩)))]) ⟨look_row rfl 25 rfl s25, look_row rfl 27 rfl s27, trivial⟩ ?_
               refine t_cF hS ?_
               refine ts (sv_blk Try.sizeOf3 rfl rfl rfl (Nat.le_of_ble_eq_true rfl) rfl) ?_
               exact d_closes0 ⟨look_row rfl 25 rfl s25, look_row rfl 27 rfl s27, trivial⟩ rfl (t_sat (fun _ h => h) (hK () trivial))
             · -- behind
              rintro _ hF
              try dsimp only at hF ⊢
              refine t_weak (E' := [(0, (.pointer (some ⟨p, 0, none⟩))), (6, (.slice bs ms.length cp)), (8, (.int .i64 ((k + 1 : Nat) : Int))), (9, (.pointer (some ⟨(ps.getD ax 0), 0, none⟩))), (10, (.int .i64 ((cs).getD ax 0))), (45, (.bool false)), (59, (.bool false)), (71, (.bool true)), (96, (.bool true))]) ⟨rfl, rfl, rfl, rfl, rfl, rfl, rfl, rfl, rfl, trivial⟩ ?_
              refine q_then_n (hK12 _ _ ?_)
              refine c_goto ?_
              refine q_jump_g ?_
              refine t_f1 ?_
              refine t_f1 ?_
              refine t_putM (c := (((bumpF q cs (fun _ => ((r : Nat) : Int)) (zeroT cs mx ax)).getD (nxt ax ms.length) M3.z).c) + (q * (((bumpF q cs (fun _ => ((r : Nat) : Int)) (zeroT cs mx ax)).getD (nxt ax ms.length) M3.z).w))) (by omega) (by omega) ?_
              rw [show setC (bumpF q cs (fun _ => ((r : Nat) : Int)) (zeroT cs mx ax)) (nxt ax ms.length) ((((bumpF q cs (fun _ => ((r : Nat) : Int)) (zeroT cs mx ax)).getD (nxt ax ms.length) M3.z).c) + (q * (((bumpF q cs (fun _ => ((r : Nat) : Int)) (zeroT cs mx ax)).getD (nxt ax ms.length) M3.z).w))) = gainT q cs (bumpF q cs (fun _ => ((r : Nat) : Int)) (zeroT cs mx ax)) (nxt ax ms.length) from by unfold gainT; rw [if_pos (by omega)]]
              refine t_f3 ?_
              refine t_f3 ?_
              refine t_f3 ?_
              exact t_weak (by exact ⟨rfl, rfl, rfl, trivial⟩) (hK2 (bs, cp, gainT q cs (bumpF q cs (fun _ => ((r : Nat) : Int)) (zeroT cs mx ax)) (nxt ax ms.length), nxt ax ms.length, k + 1) ⟨hI.skip hr (by omega) r hub hex, hbs⟩ (by dsimp only; have := hI.k2; omega))
            · -- no
             refine tp rfl (lv_gtr rfl rfl (decide_eq_false h7)) ?_
             refine t_done ?_
             refine q_then_n (hK13 _ _ ?_)
             refine c_false rfl ?_
             refine c_skip ?_
             refine q_then_n (hK12 _ _ ?_)
             refine c_goto ?_
             refine q_jump_g ?_
             rw [show bumpF q cs (fun _ => ((r : Nat) : Int)) (zeroT cs mx ax) = gainT q cs (bumpF q cs (fun _ => ((r : Nat) : Int)) (zeroT cs mx ax)) (nxt ax ms.length) from by unfold gainT; rw [if_neg (by omega)]]
             exact t_weak (by exact ⟨rfl, rfl, rfl, trivial⟩) (hK2 (bs, cp, gainT q cs (bumpF q cs (fun _ => ((r : Nat) : Int)) (zeroT cs mx ax)) (nxt ax ms.length), nxt ax ms.length, k + 1) ⟨hI.skip hr (by omega) r hub hex, hbs⟩ (by dsimp only; have := hI.k2; omega))
          · -- no
           refine tp rfl (lv_eql rfl rfl (beq_eq_false_iff_ne.2 h6)) ?_
           refine t_done ?_
           refine q_then_n (hK10 _ _ ?_)
           refine c_false rfl ?_
           refine c_skip ?_
           refine q_then_n (hK8 _ _ ?_)
           refine c_seq (fun K11 hK11 => ?_)
           have hnl := nxt_lt hal
           refine c_draw (γ := Unit) (n := 15) Try.mixed rfl rfl (fun _ S => True) (fun _ => [(0, 75, (.pointer (some ⟨p, 0, none⟩))), (1, 76, (.pointer (some ⟨p, 0, none⟩))), (2, 77, (.pointer (some ⟨p, 0, none⟩))), (3, 78, (.pointer (some ⟨p, 2, none⟩))), (4, 79, (.int .i64 ((ax : Nat) : Int))), (5, 80, (.int .i64 ((ax + 1 : Nat) : Int))), (6, 81, (.pointer (some ⟨p, 0, none⟩))), (7, 82, (.pointer (some ⟨p, 0, none⟩))), (8, 83, (.pointer (some ⟨p, 1, none⟩))), (9, 84, (.slice ba ms.length ca)), (10, 85, (.int .i64 ((ms.length : Nat) : Int))), (11, 86, (.int .i64 ((nxt ax ms.length : Nat) : Int))), (12, 87, (.pointer (some ⟨p, 0, none⟩))), (13, 88, (.pointer (some ⟨p, 2, none⟩)))]) (fun _ S => (Join (mems ps (zeroT cs mx ax))) :: (SlV 3 1 (.slice bs ms.length cp) ms.length (ints .i64 cs)) :: (bif S 14 then (Blk p [(.int .i64 q), (.slice ba ms.length ca), (.int .i64 ((nxt ax ms.length : Nat) : Int))] 62) else (Blk p [(.int .i64 q), (.slice ba ms.length ca), (.int .i64 ((ax : Nat) : Int))] 62)) :: (SlV 63 1 (.slice ba ms.length ca) ms.length (recs ptrF ps)) :: R) (()) trivial (fun _ h => h) (fun _ _ h => h) ?_ ?_
           · -- steps
            refine ⟨?_, ?_, ?_, ?_, ?_, ?_, ?_, ?_, ?_, ?_, ?_, ?_, ?_, ?_, ?_, trivial⟩
            · -- 0
             rintro _ S hF hS D hp K hK
             try dsimp only at hF ⊢
             refine d_need (small := [(0, (.pointer (some ⟨p, 0, none⟩)))]) ⟨look_b rfl rfl, trivial⟩ ?_
             refine tp rfl (lv_move rfl) ?_
             exact d_closes ⟨look_b rfl rfl, trivial⟩ 0 rfl rfl rfl hS (AgreeR.refl _) (t_sat (fun _ h => h) (hK () trivial))
            · -- 1
             rintro _ S hF hS D hp K hK
             try dsimp only at hF ⊢
             refine d_need (small := [(0, (.pointer (some ⟨p, 0, none⟩)))]) ⟨look_b rfl rfl, trivial⟩ ?_
             refine tp rfl (lv_move rfl) ?_
             exact d_closes ⟨look_b rfl rfl, trivial⟩ 1 rfl rfl rfl hS (AgreeR.refl _) (t_sat (fun _ h => h) (hK () trivial))
            · -- 2
             rintro _ S hF hS D hp K hK
             try dsimp only at hF ⊢
             have s1 := hp 1 rfl
             refine d_need (small := [(76, (.pointer (some ⟨p, 0, none⟩)))]) ⟨look_row rfl 1 rfl s1, trivial⟩ ?_
             refine tp rfl (lv_nilCheck rfl) ?_
             exact d_closes ⟨look_row rfl 1 rfl s1, trivial⟩ 2 rfl rfl rfl hS (AgreeR.refl _) (t_sat (fun _ h => h) (hK () trivial))
            · -- 3
             rintro _ S hF hS D hp K hK
             try dsimp only at hF ⊢
             have s2 := hp 2 rfl
             refine d_need (small := [(77, (.pointer (some ⟨p, 0, none⟩)))]) ⟨look_row rfl 2 rfl s2, trivial⟩ ?_
             refine tp rfl (lv_fieldAddr (o' := 2) Try.underlying62 rfl Try.sizeOf3 rfl rfl) ?_
             exact d_closes ⟨look_row rfl 2 rfl s2, trivial⟩ 3 rfl rfl rfl hS (AgreeR.refl _) (t_sat (fun _ h => h) (hK () trivial))
            · -- 4
             rintro _ S hF hS D hp K hK
             try dsimp only at hF ⊢
             have s3 := hp 3 rfl
             refine d_need (small := [(78, (.pointer (some ⟨p, 2, none⟩)))]) ⟨look_row rfl 3 rfl s3, trivial⟩ ?_
             refine tp rfl (lv_load Try.isAgg3 rfl (gives_blk (mem_cF (nf hS D (k := 14) (i := 4) rfl) (.tail _ (.tail _ (.head _)))) rfl)) ?_
             exact d_closes ⟨look_row rfl 3 rfl s3, trivial⟩ 4 rfl rfl rfl hS (AgreeR.refl _) (t_sat (fun _ h => h) (hK () trivial))
            · -- 5
             rintro _ S hF hS D hp K hK
             try dsimp only at hF ⊢
             have s4 := hp 4 rfl
             refine d_need (small := [(79, (.int .i64 ((ax : Nat) : Int)))]) ⟨look_row rfl 4 rfl s4, trivial⟩ ?_
             refine tp rfl (lv_add (c := ((ax + 1 : Nat) : Int)) rfl rfl (wr_i64_succ (by omega))) ?_
             exact d_closes ⟨look_row rfl 4 rfl s4, trivial⟩ 5 rfl rfl rfl hS (AgreeR.refl _) (t_sat (fun _ h => h) (hK () trivial))
            · -- 6
             rintro _ S hF hS D hp K hK
             try dsimp only at hF ⊢
             refine d_need (small := [(0, (.pointer (some ⟨p, 0, none⟩)))]) ⟨look_b rfl rfl, trivial⟩ ?_
             refine tp rfl (lv_move rfl) ?_
             exact d_closes ⟨look_b rfl rfl, trivial⟩ 6 rfl rfl rfl hS (AgreeR.refl _) (t_sat (fun _ h => h) (hK () trivial))
            · -- 7
             rintro _ S hF hS D hp K hK
             try dsimp only at hF ⊢
             have s6 := hp 6 rfl
             refine d_need (small := [(81, (.pointer (some ⟨p, 0, none⟩)))]) ⟨look_row rfl 6 rfl s6, trivial⟩ ?_
             refine tp rfl (lv_nilCheck rfl) ?_
             exact d_closes ⟨look_row rfl 6 rfl s6, trivial⟩ 7 rfl rfl rfl hS (AgreeR.refl _) (t_sat (fun _ h => h) (hK () trivial))
            · -- 8
             rintro _ S hF hS D hp K hK
             try dsimp only at hF ⊢
             have s7 := hp 7 rfl
             refine d_need (small := [(82, (.pointer (some ⟨p, 0, none⟩)))]) ⟨look_row rfl 7 rfl s7, trivial⟩ ?_
             refine tp rfl (lv_fieldAddr (o' := 1) Try.underlying62 rfl Try.sizeOf60 rfl rfl) ?_
             exact d_closes ⟨look_row rfl 7 rfl s7, trivial⟩ 8 rfl rfl rfl hS (AgreeR.refl _) (t_sat (fun _ h => h) (hK () trivial))
            · -- 9
             rintro _ S hF hS D hp K hK
             try dsimp only at hF ⊢
             have s8 := hp 8 rfl
             refine d_need (small := [(83, (.pointer (some ⟨p, 1, none⟩)))]) ⟨look_row rfl 8 rfl s8, trivial⟩ ?_
             refine tp rfl (lv_load Try.isAgg60 rfl (gives_blk (mem_cF (nf hS D (k := 14) (i := 9) rfl) (.tail _ (.tail _ (.head _)))) rfl)) ?_
             exact d_closes ⟨look_row rfl 8 rfl s8, trivial⟩ 9 rfl rfl rfl hS (AgreeR.refl _) (t_sat (fun _ h => h) (hK () trivial))
            · -- 10
             rintro _ S hF hS D hp K hK
             try dsimp only at hF ⊢
             have s9 := hp 9 rfl
             refine d_need (small := [(84, (.slice ba ms.length ca))]) ⟨look_row rfl 9 rfl s9, trivial⟩ ?_
             refine tp rfl (lv_len Try.underlying60 rfl rfl) ?_
             exact d_closes ⟨look_row rfl 9 rfl s9, trivial⟩ 10 rfl rfl rfl hS (AgreeR.refl _) (t_sat (fun _ h => h) (hK () trivial))
            · -- 11
             rintro _ S hF hS D hp K hK
             try dsimp only at hF ⊢
             have s5 := hp 5 rfl
             have s10 := hp 10 rfl
             refine d_need (small := [(80, (.int .i64 ((ax + 1 : Nat) : Int))), (85, (.int .i64 ((ms.length : Nat) : Int)))]) ⟨look_row rfl 5 rfl s5, look_row rfl 10 rfl s10, trivial⟩ ?_
             refine tp rfl (lv_rem (c := ((nxt ax ms.length : Nat) : Int)) rfl rfl (by omega) (nxt_mod hal)) ?_
             exact d_closes ⟨look_row rfl 5 rfl s5, look_row rfl 10 rfl s10, trivial⟩ 11 rfl rfl rfl hS (AgreeR.refl _) (t_sat (fun _ h => h) (hK () trivial))
            · -- 12
             rintro _ S hF hS D hp K hK
             try dsimp only at hF ⊢
             have s0 := hp 0 rfl
             refine d_need (small := [(75, (.pointer (some ⟨p, 0, none⟩)))]) ⟨look_row rfl 0 rfl s0, trivial⟩ ?_
             refine tp rfl (lv_nilCheck rfl) ?_
             exact d_closes ⟨look_row rfl 0 rfl s0, trivial⟩ 12 rfl rfl rfl hS (AgreeR.refl _) (t_sat (fun _ h => h) (hK () trivial))
            · -- 13
             rintro _ S hF hS D hp K hK
             try dsimp only at hF ⊢
             have s12 := hp 12 rfl
             refine d_need (small := [(87, (.pointer (some ⟨p, 0, none⟩)))]) ⟨look_row rfl 12 rfl s12, trivial⟩ ?_
             refine tp rfl (lv_fieldAddr (o' := 2) Try.underlying62 rfl Try.sizeOf3 rfl rfl) ?_
             exact d_closes ⟨look_row rfl 12 rfl s12, trivial⟩ 13 rfl rfl rfl hS (AgreeR.refl _) (t_sat (fun _ h => h) (hK () trivial))
            · -- 14
             rintro _ S hF hS D hp K hK
             try dsimp only at hF ⊢
             have s11 := hp 11 rfl
             have s13 := hp 13 rfl
             refine d_need (small := [(86, (.int .i64 ((nxt ax ms.length : Nat) : Int))), (88, (.pointer (some ⟨p, 2, none⟩)))]) ⟨look_row rfl 11 rfl s11, look_row rfl 13 rfl s13, trivial⟩ ?_
             refine t_f2 ?_
             refine t_cF hS ?_
             refine ts (sv_blk Try.sizeOf3 rfl rfl rfl (Nat.le_of_ble_eq_true rfl) rfl) ?_
             refine t_f2 ?_
             refine t_f2 ?_
             exact d_closes0 ⟨look_row rfl 11 rfl s11, look_row rfl 13 rfl s13, trivial⟩ rfl (t_sat (fun _ h => h) (hK () trivial))
           · -- behind
            rintro _ hF
            try dsimp only at hF ⊢
            refine t_weak (E' := [(0, (.pointer (some ⟨p, 0, none⟩))), (6, (.slice bs ms.length cp)), (8, (.int .i64 ((k + 1 : Nat) : Int))), (9, (.pointer (some ⟨(ps.getD ax 0), 0, none⟩))), (10, (.int .i64 ((cs).getD ax 0))), (45, (.bool false)), (59, (.bool false)), (71, (.bool false))]) ⟨rfl, rfl, rfl, rfl, rfl, rfl, rfl, rfl, trivial⟩ ?_
            refine q_then_n (hK11 _ _ ?_)
            refine c_seq (fun K12 hK12 => ?_)
            refine c_seq (fun K13 hK13 => ?_)
            refine c_region ?_
            refine tp rfl (lv_move rfl) ?_
            refine tp rfl (lv_move rfl) ?_
            refine tp rfl (lv_nilCheck rfl) ?_
            refine tp rfl (lv_fieldAddr (o' := 2) Try.underlying62 rfl Try.sizeOf3 rfl rfl) ?_
            refine tp rfl (lv_load Try.isAgg3 rfl (gives_blk (.tail _ (.tail _ (.head _))) rfl)) ?_
            refine tp rfl (lv_indexAddr (k' := nxt ax ms.length) Try.underlying22 Try.sizeOf3 rfl rfl hbs (by omega) (by omega) (by omega)) ?_
            refine tp rfl (lv_load Try.isAgg3 rfl (gives_sl (.tail _ (.head _)) (ints_get (by first | omega | (simp; omega))))) ?_
            by_cases h8 : ((cs).getD (nxt ax ms.length) 0) > 0
            · -- yes
             refine tp rfl (lv_gtr rfl rfl (decide_eq_true h8)) ?_
             refine t_done ?_
             refine q_then_n (hK13 _ _ ?_)
             refine c_true rfl ?_
             have hw1 := hz (nxt ax ms.length) hnl
             refine t_takeM (i := (nxt ax ms.length)) (by omega) (by omega) ?_
             refine c_draw (γ := Unit) (n := 29) Try.mixed rfl rfl (fun _ S => True) (fun _ => [(0, 97, (.pointer (some ⟨p, 0, none⟩))), (1, 98, (.pointer (some ⟨p, 0, none⟩))), (2, 99, (.pointer (some ⟨p, 1, none⟩))), (3, 100, (.slice ba ms.length ca)), (4, 101, (.pointer (some ⟨p, 0, none⟩))), (5, 102, (.pointer (some ⟨p, 0, none⟩))), (6, 103, (.pointer (some ⟨p, 2, none⟩))), (7, 104, (.int .i64 ((nxt ax ms.length : Nat) : Int))), (8, 105, (.pointer (some (ad ba (nxt ax ms.length))))), (9, 106, (.pointer (some ⟨(ps.getD (nxt ax ms.length) 0), 0, none⟩))), (10, 107, (.pointer (some ⟨(ps.getD (nxt ax ms.length) 0), 0, none⟩))), (11, 108, (.pointer (some ⟨(ps.getD (nxt ax ms.length) 0), 2, none⟩))), (12, 109, (.int .i64 (((zeroT cs mx ax).getD (nxt ax ms.length) M3.z).c))), (13, 110, (.pointer (some ⟨p, 0, none⟩))), (14, 111, (.pointer (some ⟨p, 0, none⟩))), (15, 112, (.pointer (some ⟨p, 0, none⟩))), (16, 113, (.pointer (some ⟨p, 1, none⟩))), (17, 114, (.slice ba ms.length ca)), (18, 115, (.pointer (some ⟨p, 0, none⟩))), (19, 116, (.pointer (some ⟨p, 0, none⟩))), (20, 117, (.pointer (some ⟨p, 2, none⟩))), (21, 118, (.int .i64 ((nxt ax ms.length : Nat) : Int))), (22, 119, (.pointer (some (ad ba (nxt ax ms.length))))), (23, 120, (.pointer (some ⟨(ps.getD (nxt ax ms.length) 0), 0, none⟩))), (24, 121, (.int .i64 (q * (((zeroT cs mx ax).getD (nxt ax ms.length) M3.z).w)))), (25, 122, (.int .i64 ((((zeroT cs mx ax).getD (nxt ax ms.length) M3.z).c) + (q * (((zeroT cs mx ax).getD (nxt ax ms.length) M3.z).w))))), (26, 123, (.pointer (some ⟨(ps.getD (nxt ax ms.length) 0), 0, none⟩))), (27, 124, (.pointer (some ⟨(ps.getD (nxt ax ms.length) 0), 2, none⟩)))]) (fun _ S => (bif S 28 then (Blk (ps.getD (nxt ax ms.length) 0) [(.int .i64 (((zeroT cs mx ax).getD (nxt ax ms.length) M3.z).id)), (.int .i64 (((zeroT cs mx ax).getD (nxt ax ms.length) M3.z).w)), (.int .i64 ((((zeroT cs mx ax).getD (nxt ax ms.length) M3.z).c) + (q * (((zeroT cs mx ax).getD (nxt ax ms.length) M3.z).w))))] 65) else (Blk (ps.getD (nxt ax ms.length) 0) [(.int .i64 (((zeroT cs mx ax).getD (nxt ax ms.length) M3.z).id)), (.int .i64 (((zeroT cs mx ax).getD (nxt ax ms.length) M3.z).w)), (.int .i64 (((zeroT cs mx ax).getD (nxt ax ms.length) M3.z).c))] 65)) :: (Join (mems (ps.eraseIdx (nxt ax ms.length)) ((zeroT cs mx ax).eraseIdx (nxt ax ms.length)))) :: (SlV 3 1 (.slice bs ms.length cp) ms.length (ints .i64 cs)) :: (Blk p [(.int .i64 q), (.slice ba ms.length ca), (.int .i64 ((nxt ax ms.length : Nat) : Int))] 62) :: (SlV 63 1 (.slice ba ms.length ca) ms.length (recs ptrF ps)) :: R) (()) trivial (fun _ h => h) (fun _ _ h => h) ?_ ?_
             · -- steps
              refine ⟨?_, ?_, ?_, ?_, ?_, ?_, ?_, ?_, ?_, ?_, ?_, ?_, ?_, ?_, ?_, ?_, ?_, ?_, ?_, ?_, ?_, ?_, ?_, ?_, ?_, ?_, ?_, ?_, ?_, trivial⟩
              · -- 0
               rintro _ S hF hS D hp K hK
               try dsimp only at hF ⊢
               refine d_need (small := [(0, (.pointer (some ⟨p, 0, none⟩)))]) ⟨look_b rfl rfl, trivial⟩ ?_
               refine tp rfl (lv_move rfl) ?_
               exact d_closes ⟨look_b rfl rfl, trivial⟩ 0 rfl rfl rfl hS (AgreeR.refl _) (t_sat (fun _ h => h) (hK () trivial))
              · -- 1
               rintro _ S hF hS D hp K hK
               try dsimp only at hF ⊢
               have s0 := hp 0 rfl
               refine d_need (small := [(97, (.pointer (some ⟨p, 0, none⟩)))]) ⟨look_row rfl 0 rfl s0, trivial⟩ ?_
               refine tp rfl (lv_nilCheck rfl) ?_
               exact d_closes ⟨look_row rfl 0 rfl s0, trivial⟩ 1 rfl rfl rfl hS (AgreeR.refl _) (t_sat (fun _ h => h) (hK () trivial))
              · -- 2
               rintro _ S hF hS D hp K hK
               try dsimp only at hF ⊢
               have s1 := hp 1 rfl
               refine d_need (small := [(98, (.pointer (some ⟨p, 0, none⟩)))]) ⟨look_row rfl 1 rfl s1, trivial⟩ ?_
               refine tp rfl (lv_fieldAddr (o' := 1) Try.underlying62 rfl Try.sizeOf60 rfl rfl) ?_
               exact d_closes ⟨look_row rfl 1 rfl s1, trivial⟩ 2 rfl rfl rfl hS (AgreeR.refl _) (t_sat (fun _ h => h) (hK () trivial))
              · -- 3
               rintro _ S hF hS D hp K hK
               try dsimp only at hF ⊢
               have s2 := hp 2 rfl
               refine d_need (small := [(99, (.pointer (some ⟨p, 1, none⟩)))]) ⟨look_row rfl 2 rfl s2, trivial⟩ ?_
               refine tp rfl (lv_load Try.isAgg60 rfl (gives_blk (.tail _ (.tail _ (.tail _ (.head _)))) rfl)) ?_
               exact d_closes ⟨look_row rfl 2 rfl s2, trivial⟩ 3 rfl rfl rfl hS (AgreeR.refl _) (t_sat (fun _ h => h) (hK () trivial))
              · -- 4
               rintro _ S hF hS D hp K hK
               try dsimp only at hF ⊢
               refine d_need (small := [(0, (.pointer (some ⟨p, 0, none⟩)))]) ⟨look_b rfl rfl, trivial⟩ ?_
               refine tp rfl (lv_move rfl) ?_
               exact d_closes ⟨look_b rfl rfl, trivial⟩ 4 rfl rfl rfl hS (AgreeR.refl _) (t_sat (fun _ h => h) (hK () trivial))
              · -- 5
               rintro _ S hF hS D hp K hK
               try dsimp only at hF ⊢
               have s4 := hp 4 rfl
               refine d_need (small := [(101, (.pointer (some ⟨p, 0, none⟩)))]) ⟨look_row rfl 4 rfl s4, trivial⟩ ?_
               refine tp rfl (lv_nilCheck rfl) ?_
               exact d_closes ⟨look_row rfl 4 rfl s4, trivial⟩ 5 rfl rfl rfl hS (AgreeR.refl _) (t_sat (fun _ h => h) (hK () trivial))
              · -- 6
               rintro _ S hF hS D hp K hK
               try dsimp only at hF ⊢
               have s5 := hp 5 rfl
               refine d_need (small := [(102, (.pointer (some ⟨p, 0, none⟩)))]) ⟨look_row rfl 5 rfl s5, trivial⟩ ?_
               refine tp rfl (lv_fieldAddr (o' := 2) Try.underlying62 rfl Try.sizeOf3 rfl rfl) ?_
               exact d_closes ⟨look_row rfl 5 rfl s5, trivial⟩ 6 rfl rfl rfl hS (AgreeR.refl _) (t_sat (fun _ h => h) (hK () trivial))
              · -- 7
               rintro _ S hF hS D hp K hK
               try dsimp only at hF ⊢
               have s6 := hp 6 rfl
               refine d_need (small := [(103, (.pointer (some ⟨p, 2, none⟩)))]) ⟨look_row rfl 6 rfl s6, trivial⟩ ?_
               refine tp rfl (lv_load Try.isAgg3 rfl (gives_blk (.tail _ (.tail _ (.tail _ (.head _)))) rfl)) ?_
               exact d_closes ⟨look_row rfl 6 rfl s6, trivial⟩ 7 rfl rfl rfl hS (AgreeR.refl _) (t_sat (fun _ h => h) (hK () trivial))
              · -- 8
               rintro _ S hF hS D hp K hK
               try dsimp only at hF ⊢
               have s3 := hp 3 rfl
               have s7 := hp 7 rfl
               refine d_need (small := [(100, (.slice ba ms.length ca)), (104, (.int .i64 ((nxt ax ms.length : Nat) : Int)))]) ⟨look_row rfl 3 rfl s3, look_row rfl 7 rfl s7, trivial⟩ ?_
               refine tp rfl (lv_indexAddr (k' := nxt ax ms.length) Try.underlying60 Try.sizeOf63 rfl rfl hT.ok (by omega) (by omega) (by omega)) ?_
               exact d_closes ⟨look_row rfl 3 rfl s3, look_row rfl 7 rfl s7, trivial⟩ 8 rfl rfl rfl hS (AgreeR.refl _) (t_sat (fun _ h => h) (hK () trivial))
              · -- 9
               rintro _ S hF hS D hp K hK
               try dsimp only at hF ⊢
               have s8 := hp 8 rfl
               refine d_need (small := [(105, (.pointer (some (ad ba (nxt ax ms.length)))))]) ⟨look_row rfl 8 rfl s8, trivial⟩ ?_
               refine tp rfl (lv_load Try.isAgg63 rfl (gives_sl (.tail _ (.tail _ (.tail _ (.tail _ (.head _))))) (ptrs_get (by first | omega | (simp; omega))))) ?_
               exact d_closes ⟨look_row rfl 8 rfl s8, trivial⟩ 9 rfl rfl rfl hS (AgreeR.refl _) (t_sat (fun _ h => h) (hK () trivial))
              · -- 10
               rintro _ S hF hS D hp K hK
               try dsimp only at hF ⊢
               have s9 := hp 9 rfl
               refine d_need (small := [(106, (.pointer (some ⟨(ps.getD (nxt ax ms.length) 0), 0, none⟩)))]) ⟨look_row rfl 9 rfl s9, trivial⟩ ?_
               refine tp rfl (lv_nilCheck rfl) ?_
               exact d_closes ⟨look_row rfl 9 rfl s9, trivial⟩ 10 rfl rfl rfl hS (AgreeR.refl _) (t_sat (fun _ h => h) (hK () trivial))
              · -- 11
               rintro _ S hF hS D hp K hK
               try dsimp only at hF ⊢
               have s10 := hp 10 rfl
               refine d_need (small := [(107, (.pointer (some ⟨(ps.getD (nxt ax ms.length) 0), 0, none⟩)))]) ⟨look_row rfl 10 rfl s10, trivial⟩ ?_
               refine tp rfl (lv_fieldAddr (o' := 2) Try.underlying65 rfl Try.sizeOf3 rfl rfl) ?_
               exact d_closes ⟨look_row rfl 10 rfl s10, trivial⟩ 11 rfl rfl rfl hS (AgreeR.refl _) (t_sat (fun _ h => h) (hK () trivial))
              · -- 12
               rintro _ S hF hS D hp K hK
               try dsimp only at hF ⊢
               have s11 := hp 11 rfl
               refine d_need (small := [(108, (.pointer (some ⟨(ps.getD (nxt ax ms.length) 0), 2, none⟩)))]) ⟨look_row rfl 11 rfl s11, trivial⟩ ?_
               refine tp rfl (lv_load Try.isAgg3 rfl (gives_blk (mem_cF (nf hS D (k := 28) (i := 12) rfl) (.head _)) rfl)) ?_
               exact d_closes ⟨look_row rfl 11 rfl s11, trivial⟩ 12 rfl rfl rfl hS (AgreeR.refl _) (t_sat (fun _ h => h) (hK () trivial))
              · -- 13
               rintro _ S hF hS D hp K hK
               try dsimp only at hF ⊢
               refine d_need (small := [(0, (.pointer (some ⟨p, 0, none⟩)))]) ⟨look_b rfl rfl, trivial⟩ ?_
               refine tp rfl (lv_move rfl) ?_
               exact d_closes ⟨look_b rfl rfl, trivial⟩ 13 rfl rfl rfl hS (AgreeR.refl _) (t_sat (fun _ h => h) (hK () trivial))
              · -- 14
               rintro _ S hF hS D hp K hK
               try dsimp only at hF ⊢
               refine d_need (small := [(0, (.pointer (some ⟨p, 0, none⟩)))]) ⟨look_b rfl rfl, trivial⟩ ?_
               refine tp rfl (lv_move rfl) ?_
               exact d_closes ⟨look_b rfl rfl, trivial⟩ 14 rfl rfl rfl hS (AgreeR.refl _) (t_sat (fun _ h => h) (hK () trivial))
              · -- 15
               rintro _ S hF hS D hp K hK
               try dsimp only at hF ⊢
               have s14 := hp 14 rfl
               refine d_need (small := [(111, (.pointer (some ⟨p, 0, none⟩)))]) ⟨look_row rfl 14 rfl s14, trivial⟩ ?_
               refine tp rfl (lv_nilCheck rfl) ?_
               exact d_closes ⟨look_row rfl 14 rfl s14, trivial⟩ 15 rfl rfl rfl hS (AgreeR.refl _) (t_sat (fun _ h => h) (hK () trivial))
              · -- 16
               rintro _ S hF hS D hp K hK
               try dsimp only at hF ⊢
               have s15 := hp 15 rfl
               refine d_need (small := [(112, (.pointer (some ⟨p, 0, none⟩)))]) ⟨look_row rfl 15 rfl s15, trivial⟩ ?_
               refine tp rfl (lv_fieldAddr (o' := 1) Try.underlying62 rfl Try.sizeOf60 rfl rfl) ?_
               exact d_closes ⟨look_row rfl 15 rfl s15, trivial⟩ 16 rfl rfl rfl hS (AgreeR.refl _) (t_sat (fun _ h => h) (hK () trivial))
              · -- 17
               rintro _ S hF hS D hp K hK
               try dsimp only at hF ⊢
               have s16 := hp 16 rfl
               refine d_need (small := [(113, (.pointer (some ⟨p, 1, none⟩)))]) ⟨look_row rfl 16 rfl s16, trivial⟩ ?_
               refine tp rfl (lv_load Try.isAgg60 rfl (gives_blk (.tail _ (.tail _ (.tail _ (.head _)))) rfl)) ?_
               exact d_closes ⟨look_row rfl 16 rfl s16, trivial⟩ 17 rfl rfl rfl hS (AgreeR.refl _) (t_sat (fun _ h => h) (hK () trivial))
              · -- 18
               rintro _ S hF hS D hp K hK
               try dsimp only at hF ⊢
               refine d_need (small := [(0, (.pointer (some ⟨p, 0, none⟩)))]) ⟨look_b rfl rfl, trivial⟩ ?_
               refine tp rfl (lv_move rfl) ?_
               exact d_closes ⟨look_b rfl rfl, trivial⟩ 18 rfl rfl rfl hS (AgreeR.refl _) (t_sat (fun _ h => h) (hK () trivial))
              · -- 19
               rintro _ S hF hS D hp K hK
               try dsimp only at hF ⊢
               have s18 := hp 18 rfl
               refine d_need (small := [(115, (.pointer (some ⟨p, 0, none⟩)))]) ⟨look_row rfl 18 rfl s18, trivial⟩ ?_
               refine tp rfl (lv_nilCheck rfl) ?_
               exact d_closes ⟨look_row rfl 18 rfl s18, trivial⟩ 19 rfl rfl rfl hS (AgreeR.refl _) (t_sat (fun _ h => h) (hK () trivial))
              · -- 20
               rintro _ S hF hS D hp K hK
               try dsimp only at hF ⊢
               have s19 := hp 19 rfl
               refine d_need (small := [(116, (.pointer (some ⟨p, 0, none⟩)))]) ⟨look_row rfl 19 rfl s19, trivial⟩ ?_
               refine tp rfl (lv_fieldAddr (o' := 2) Try.underlying62 rfl Try.sizeOf3 rfl rfl) ?_
               exact d_closes ⟨look_row rfl 19 rfl s19, trivial⟩ 20 rfl rfl rfl hS (AgreeR.refl _) (t_sat (fun _ h => h) (hK () trivial))
              · -- 21
               rintro _ S hF hS D hp K hK
               try dsimp only at hF ⊢
               have s20 := hp 20 rfl
               refine d_need (small := [(117, (.pointer (some ⟨p, 2, none⟩)))]) ⟨look_row rfl 20 rfl s20, trivial⟩ ?_
               refine tp rfl (lv_load Try.isAgg3 rfl (gives_blk (.tail _ (.tail _ (.tail _ (.head _)))) rfl)) ?_
               exact d_closes ⟨look_row rfl 20 rfl s20, trivial⟩ 21 rfl rfl rfl hS (AgreeR.refl _) (t_sat (fun _ h => h) (hK () trivial))
              · -- 22
               rintro _ S hF hS D hp K hK
               try dsimp only at hF ⊢
               have s17 := hp 17 rfl
               have s21 := hp 21 rfl
               refine d_need (small := [(114, (.slice ba ms.length ca)), (118, (.int .i64 ((nxt ax ms.length : Nat) : Int)))]) ⟨look_row rfl 17 rfl s17, look_row rfl 21 rfl s21, trivial⟩ ?_
               refine tp rfl (lv_indexAddr (k' := nxt ax ms.length) Try.underlying60 Try.sizeOf63 rfl rfl hT.ok (by omega) (by omega) (by omega)) ?_
               exact d_closes ⟨look_row rfl 17 rfl s17, look_row rfl 21 rfl s21, trivial⟩ 22 rfl rfl rfl hS (AgreeR.refl _) (t_sat (fun _ h => h) (hK () trivial))
              · -- 23
               rintro _ S hF hS D hp K hK
               try dsimp only at hF ⊢
               have s22 := hp 22 rfl
               refine d_need (small := [(119, (.pointer (some (ad ba (nxt ax ms.length)))))]) ⟨look_row rfl 22 rfl s22, trivial⟩ ?_
               refine tp rfl (lv_load Try.isAgg63 rfl (gives_sl (.tail _ (.tail _ (.tail _ (.tail _ (.head _))))) (ptrs_get (by first | omega | (simp; omega))))) ?_
               exact d_closes ⟨look_row rfl 22 rfl s22, trivial⟩ 23 rfl rfl rfl hS (AgreeR.refl _) (t_sat (fun _ h => h) (hK () trivial))
              · -- 24
               rintro _ S hF hS D hp K hK
               try dsimp only at hF ⊢
               have s13 := hp 13 rfl
               have s23 := hp 23 rfl
               refine d_need (small := [(110, (.pointer (some ⟨p, 0, none⟩))), (120, (.pointer (some ⟨(ps.getD (nxt ax ms.length) 0), 0, none⟩)))]) ⟨look_row rfl 13 rfl s13, look_row rfl 23 rfl s23, trivial⟩ ?_
               refine t_cF (nf hS D (k := 28) (i := 24) rfl) ?_
               refine t_f3 ?_
               refine tc rfl (en_fn Try.call27 rfl) (gain_ok (by omega)) ?_
               rintro _ _ ⟨rfl, rfl⟩
               refine t_f1 ?_
               refine t_wF (A := (Blk (ps.getD (nxt ax ms.length) 0) [(.int .i64 (((zeroT cs mx ax).getD (nxt ax ms.length) M3.z).id)), (.int .i64 (((zeroT cs mx ax).getD (nxt ax ms.length) M3.z).w)), (.int .i64 ((((zeroT cs mx ax).getD (nxt ax ms.length) M3.z).c) + (q * (((zeroT cs mx ax).getD (nxt ax ms.length) M3.z).w))))] 65)) (nf hS D (k := 28) (i := 24) rfl) ?_
               refine t_f1 ?_
               refine t_f3 ?_
               refine t_f3 ?_
               refine t_f3 ?_
               exact d_closes ⟨look_row rfl 13 rfl s13, look_row rfl 23 rfl s23, trivial⟩ 24 rfl rfl rfl hS (AgreeR.refl _) (t_sat (fun _ h => h) (hK () trivial))
              · -- 25
               rintro _ S hF hS D hp K hK
               try dsimp only at hF ⊢
               have s12 := hp 12 rfl
               have s24 := hp 24 rfl
               refine d_need (small := [(109, (.int .i64 (((zeroT cs mx ax).getD (nxt ax ms.length) M3.z).c))), (121, (.int .i64 (q * (((zeroT cs mx ax).getD (nxt ax ms.length) M3.z).w))))]) ⟨look_row rfl 12 rfl s12, look_row rfl 24 rfl s24, trivial⟩ ?_
               refine tp rfl (lv_add (c := (((zeroT cs mx ax).getD (nxt ax ms.length) M3.z).c) + (q * (((zeroT cs mx ax).getD (nxt ax ms.length) M3.z).w))) rfl rfl (wr_i64 (by omega) (by omega))) ?_
               exact d_closes ⟨look_row rfl 12 rfl s12, look_row rfl 24 rfl s24, trivial⟩ 25 rfl rfl rfl hS (AgreeR.refl _) (t_sat (fun _ h => h) (hK () trivial))
              · -- 26
               rintro _ S hF hS D hp K hK
               try dsimp only at hF ⊢
               have s9 := hp 9 rfl
               refine d_need (small := [(106, (.pointer (some ⟨(ps.getD (nxt ax ms.length) 0), 0, none⟩)))]) ⟨look_row rfl 9 rfl s9, trivial⟩ ?_
               refine tp rfl (lv_nilCheck rfl) ?_
               exact d_closes ⟨look_row rfl 9 rfl s9, trivial⟩ 26 rfl rfl rfl hS (AgreeR.refl _) (t_sat (fun _ h => h) (hK () trivial))
              · -- 27
               rintro _ S hF hS D hp K hK
               try dsimp only at hF ⊢
               have s26 := hp 26 rfl
               refine d_need (small := [(123, (.pointer (some ⟨(ps.getD (nxt ax ms.length) 0), 0, none⟩)))]) ⟨look_row rfl 26 rfl s26, trivial⟩ ?_
               refine tp rfl (lv_fieldAddr (o' := 2) Try.underlying65 rfl Try.sizeOf3 rfl rfl) ?_
               exact d_closes ⟨look_row rfl 26 rfl s26, trivial⟩ 27 rfl rfl rfl hS (AgreeR.refl _) (t_sat (fun _ h => h) (hK () trivial))
              · -- 28
               rintro _ S hF hS D hp K hK
               try dsimp only at hF ⊢
               have s25 := hp 25 rfl
               have s27 := hp 27 rfl
               refine d_need (small := [(122, (.int .i64 ((((zeroT cs mx ax).getD (nxt ax ms.length) M3.z).c) + (q * (((zeroT cs mx ax).getD (nxt ax ms.length) M3.z).w))))), (124, (.pointer (some ⟨(ps.getD (nxt ax ms.length) 0), 2, none⟩)))]) ⟨look_row rfl 25 rfl s25, look_row rfl 27 rfl s27, trivial⟩ ?_
               refine t_cF hS ?_
               refine ts (sv_blk Try.sizeOf3 rfl rfl rfl (Nat.le_of_ble_eq_true rfl) rfl) ?_
               exact d_closes0 ⟨look_row rfl 25 rfl s25, look_row rfl 27 rfl s27, trivial⟩ rfl (t_sat (fun _ h => h) (hK () trivial))
             · -- behind
              rintro _ hF
              try dsimp only at hF ⊢
              refine t_weak (E' := [(0, (.pointer (some ⟨p, 0, none⟩))), (6, (.slice bs ms.length cp)), (8, (.int .i64 ((k + 1 : Nat) : Int))), (9, (.pointer (some ⟨(ps.getD ax 0), 0, none⟩))), (10, (.int .i64 ((cs).getD ax 0))), (45, (.bool false)), (59, (.bool false)), (71, (.bool false)), (96, (.bool true))]) ⟨rfl, rfl, rfl, rfl, rfl, rfl, rfl, rfl, rfl, trivial⟩ ?_
              refine q_then_n (hK12 _ _ ?_)
              refine c_goto ?_
              refine q_jump_g ?_
              refine t_f1 ?_
              refine t_f1 ?_
              refine t_putM (c := (((zeroT cs mx ax).getD (nxt ax ms.length) M3.z).c) + (q * (((zeroT cs mx ax).getD (nxt ax ms.length) M3.z).w))) (by omega) (by omega) ?_
              rw [show setC (zeroT cs mx ax) (nxt ax ms.length) ((((zeroT cs mx ax).getD (nxt ax ms.length) M3.z).c) + (q * (((zeroT cs mx ax).getD (nxt ax ms.length) M3.z).w))) = gainT q cs (zeroT cs mx ax) (nxt ax ms.length) from by unfold gainT; rw [if_pos (by omega)]]
              refine t_f3 ?_
              refine t_f3 ?_
              refine t_f3 ?_
              exact t_weak (by exact ⟨rfl, rfl, rfl, trivial⟩) (hK2 (bs, cp, gainT q cs (zeroT cs mx ax) (nxt ax ms.length), nxt ax ms.length, k + 1) ⟨hI.step' hr (by omega), hbs⟩ (by dsimp only; have := hI.k2; omega))
            · -- no
             refine tp rfl (lv_gtr rfl rfl (decide_eq_false h8)) ?_
             refine t_done ?_
             refine q_then_n (hK13 _ _ ?_)
             refine c_false rfl ?_
             refine c_skip ?_
             refine q_then_n (hK12 _ _ ?_)
             refine c_goto ?_
             refine q_jump_g ?_
             rw [show zeroT cs mx ax = gainT q cs (zeroT cs mx ax) (nxt ax ms.length) from by unfold gainT; rw [if_neg (by omega)]]
             refine t_f3 ?_
             refine t_f3 ?_
             refine t_f3 ?_
             exact t_weak (by exact ⟨rfl, rfl, rfl, trivial⟩) (hK2 (bs, cp, gainT q cs (zeroT cs mx ax) (nxt ax ms.length), nxt ax ms.length, k + 1) ⟨hI.step' hr (by omega), hbs⟩ (by dsimp only; have := hI.k2; omega))
        · -- which
         by_cases hc1A : ((cs).getD ax 0) > 0
         ·
          have hc1B : ¬ (((mx.getD ax M3.z).c) ≥ ((cs).getD ax 0)) := fun hh => hc1 ⟨hc1A, hh⟩
          refine tp rfl (lv_move rfl) ?_
          refine tp rfl (lv_gtr rfl rfl (decide_eq_true hc1A)) ?_
          refine tp rfl (lv_move rfl) ?_
          refine t_guard rfl rfl ?_
          refine tp rfl (lv_move rfl) ?_
          refine t_guard rfl rfl ?_
          refine tp rfl (lv_nilCheck rfl) ?_
          refine t_guard rfl rfl ?_
          refine tp rfl (lv_fieldAddr (o' := 2) Try.underlying65 rfl Try.sizeOf3 rfl rfl) ?_
          refine t_guard rfl rfl ?_
          refine tp rfl (lv_load Try.isAgg3 rfl (gives_blk (.head _) rfl)) ?_
          refine t_guard rfl rfl ?_
          refine tp rfl (lv_move rfl) ?_
          refine t_guard rfl rfl ?_
          refine tp rfl (lv_geq rfl rfl (decide_eq_false hc1B)) ?_
          refine tp rfl (lv_pick_t rfl rfl) ?_
          exact t_done (t_weak (by exact ⟨rfl, rfl, rfl, rfl, rfl, rfl, trivial⟩) hKK)
         ·
          refine tp rfl (lv_move rfl) ?_
          refine tp rfl (lv_gtr rfl rfl (decide_eq_false hc1A)) ?_
          refine tp rfl (lv_move rfl) ?_
          refine t_skip rfl rfl rfl ?_
          refine t_skip rfl rfl rfl ?_
          refine t_skip rfl rfl rfl ?_
          refine t_skip rfl rfl rfl ?_
          refine t_skip rfl rfl rfl ?_
          refine t_skip rfl rfl rfl ?_
          refine tp rfl (lv_pick_f rfl rfl) ?_
          exact t_done (t_weak (by exact ⟨rfl, rfl, rfl, rfl, rfl, rfl, trivial⟩) hKK)
  · -- up to the label
    intro K0 hpass
    refine c_seq (fun K2 hK2 => ?_)
    refine c_region ?_
    refine tp rfl (lv_move rfl) ?_
    refine tp rfl (lv_move rfl) ?_
    refine t_f2 ?_
    refine t_f2 ?_
    refine t_f2 ?_
    refine tc rfl (en_fn Try.call25 rfl) (costs_ok hTlp rfl hT.ok (by omega) hT.nd ws hw okl (by omega)) ?_
    rintro _ _ ⟨bs9, cp10, hok11, hle12, rfl, rfl⟩
    rw [show anyPos (costsL ms ws) = true from hany]
    refine tp rfl (lv_move rfl) ?_
    refine tp rfl (lv_extract rfl rfl) ?_
    refine tp rfl (lv_extract rfl rfl) ?_
    refine tp rfl (lv_assign rfl) ?_
    refine tp rfl (lv_assign rfl) ?_
    refine t_done ?_
    refine q_then_n (hK2 _ _ ?_)
    refine c_seq (fun K3 hK3 => ?_)
    refine c_seq (fun K4 hK4 => ?_)
    refine c_region ?_
    refine tp rfl (lv_move rfl) ?_
    refine tp rfl (lv_not (c := false) rfl rfl) ?_
    refine t_done ?_
    refine q_then_n (hK4 _ _ ?_)
    refine c_false rfl ?_
    refine c_skip ?_
    refine q_then_n (hK3 _ _ ?_)
    refine c_seq (fun K5 hK5 => ?_)
    refine c_region ?_
    refine tp rfl (lv_assign rfl) ?_
    refine t_done ?_
    refine q_then_n (hK5 _ _ ?_)
    refine c_seq (fun K6 hK6 => ?_)
    refine c_label ?_
    refine q_then_n (hK6 _ _ ?_)
    rw [hcs]
    refine t_f3 ?_
    refine t_f3 ?_
    refine t_f3 ?_
    refine t_f3 ?_
    exact t_weak (by exact ⟨rfl, rfl, rfl, trivial⟩) (hpass (bs9, cp10, ms, a, 0) ⟨hT.inv0 hal0 hcb, hok11⟩)

theorem take_okn {R : List HP} {p a nw : Nat} {q : Int} {ms : List M3} (ws : List (Int × Int)) (hwl : ws.length = nw) {bl : Option Addr} {cl : Nat} (hw : Rd R bl (pairs ws)) (okl : SlOk bl nw) (lw : nw ≤ 1000000) (hb : ms.length ≤ 50000) (hany : anyPos (costsL ms ws) = true) : Ok Try.prog 13 [.pointer (some ⟨p, 0, none⟩), .slice bl nw cl] (TurnsO p q ms a :: R) (fun v M => ∃ (tm : List M3) (ta : Nat), TakeR q (costsL ms ws) (ms, a) (tm, ta) ∧ v = .tuple #[.int .i64 (tm.getD ta M3.z).id, .bool true] ∧ M = TurnsO p q (setC tm ta ((tm.getD ta M3.z).c - (costsL ms ws).getD ta 0)) ta :: R) := by subst hwl; exact take_ok ws hw okl lw hb hany

theorem take_non {R : List HP} {p a nw : Nat} {q : Int} {ms : List M3} (ws : List (Int × Int)) (hwl : ws.length = nw) {bl : Option Addr} {cl : Nat} (hw : Rd R bl (pairs ws)) (okl : SlOk bl nw) (lw : nw ≤ 1000000) (hb : ms.length ≤ 50000) (hany : anyPos (costsL ms ws) = false) : Ok Try.prog 13 [.pointer (some ⟨p, 0, none⟩), .slice bl nw cl] (TurnsO p q ms a :: R) (fun v M => v = .tuple #[.int .i64 0, .bool false] ∧ M = TurnsO p q ms a :: R) := by subst hwl; exact take_no ws hw okl lw hb hany
end Go.Proofs.Ytkhceihokoheaaa
