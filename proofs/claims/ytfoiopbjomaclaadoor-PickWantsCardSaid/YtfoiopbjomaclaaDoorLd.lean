/- PickWants: the law's walk. -/
import Derived.Test.YtfoiopbjomaclaaDoorLa
import Derived.Test.YtfoiopbjomaclaaDoorPib
set_option maxRecDepth 100000
set_option linter.unusedVariables false
set_option linter.unusedSimpArgs false
namespace Go.Proofs.YtfoiopbjomaclaaDoor
open Go Go.Proofs Sp
set_option maxHeartbeats 4000000 in
theorem wants_law {R : List HP} (n : Int) {beb : Option Addr} {ceb : Nat} (es : List (Int × Int)) (heb : Rd R beb (pairs es)) (okeb : SlOk beb es.length) (leb : es.length ≤ 9223372036854775807) (lceb : es.length ≤ ceb) {btb : Option Addr} {ctb : Nat} (xt : List Int) (htb : Rd R btb (ints .i64 xt)) (oktb : SlOk btb xt.length) (ltb : xt.length ≤ 9223372036854775807) (lctb : xt.length ≤ ctb) {bab : Option Addr} {cab : Nat} (al : List (Int × Int)) (hab : Rd R bab (pairs al)) (okab : SlOk bab al.length) (lab : al.length ≤ 9223372036854775807) (lcab : al.length ≤ cab) {bib : Option Addr} {cib : Nat} (xi : List Int) (hib : Rd R bib (ints .i64 xi)) (okib : SlOk bib xi.length) (lib : xi.length ≤ 9223372036854775807) (lcib : xi.length ≤ cib) {brb : Option Addr} {crb : Nat} (xr : List Int) (hrb : Rd R brb (ints .i64 xr)) (okrb : SlOk brb xr.length) (lrb : xr.length ≤ 9223372036854775807) (lcrb : xr.length ≤ crb) (hT : Tab R) :
    Ok Tryd.prog 6 [(.int .i64 n), (.slice beb es.length ceb), (.slice btb xt.length ctb), (.slice bab al.length cab), (.slice bib xi.length cib), (.slice brb xr.length crb)] R
      (fun v M => v = .bool true ∧ M = R) := by
  obtain ⟨n1, hn1n⟩ : ∃ n, n = min xt.length 60 := ⟨_, rfl⟩
  obtain ⟨tl, htll⟩ : ∃ l, l = xt.take n1 := ⟨_, rfl⟩
  have tln : tl.length = n1 := by rw [htll, List.length_take]; omega
  have rdtb : Rd R btb (ints .i64 tl) := by rw [htll]; exact rd_tk_ints n1 htb
  obtain ⟨n2, hn2n⟩ : ∃ n, n = min xi.length 20 := ⟨_, rfl⟩
  obtain ⟨il, hill⟩ : ∃ l, l = xi.take n2 := ⟨_, rfl⟩
  have iln : il.length = n2 := by rw [hill, List.length_take]; omega
  have rdib : Rd R bib (ints .i64 il) := by rw [hill]; exact rd_tk_ints n2 hib
  obtain ⟨n3, hn3n⟩ : ∃ n, n = min xr.length 20 := ⟨_, rfl⟩
  obtain ⟨rl, hrll⟩ : ∃ l, l = xr.take n3 := ⟨_, rfl⟩
  have rln : rl.length = n3 := by rw [hrll, List.length_take]; omega
  have rdrb : Rd R brb (ints .i64 rl) := by rw [hrll]; exact rd_tk_ints n3 hrb
  refine ok_of (N := 172) Tryd.func6 rfl rfl rfl (fun W => ?_)
  refine c_seq (fun K1 hK1 => ?_)
  refine c_region ?_
  refine tp rfl (lv_assign rfl) ?_
  refine t_done ?_
  refine q_then_n (hK1 _ _ ?_)
  refine c_seq (fun K2 hK2 => ?_)
  refine c_region ?_
  refine tc rfl (en_fn Tryd.call8 rfl) (shown_ok hT) ?_
  rintro _ _ ⟨rfl, hMR⟩
  rw [hMR]; clear hMR
  refine tp rfl (lv_assign rfl) ?_
  refine t_done ?_
  refine q_then_n (hK2 _ _ ?_)
  refine c_seq (fun K3 hK3 => ?_)
  refine c_region ?_
  refine tp rfl (lv_move rfl) ?_
  refine tp rfl (lv_min (c := min n 30) rfl rfl rfl) ?_
  refine tc rfl (en_fn Tryd.call9 rfl) (new_ok (min n 30)) ?_
  rintro _ _ ⟨p1, rfl, rfl⟩
  refine tp rfl (lv_assign rfl) ?_
  refine t_done ?_
  refine q_then_n (hK3 _ _ ?_)
  refine c_seq (fun K4 hK4 => ?_)
  refine c_seq (fun K5 hK5 => ?_)
  refine c_region ?_
  refine tp rfl (lv_move rfl) ?_
  refine tp rfl (lv_eqnil Tryd.underlying26 rfl rfl) ?_
  refine t_done ?_
  refine q_then_n (hK5 _ _ ?_)
  refine c_false rfl ?_
  refine c_skip ?_
  refine q_then_n (hK4 _ _ ?_)
  refine c_seq (fun K6 hK6 => ?_)
  refine c_seq (fun K7 hK7 => ?_)
  refine c_region ?_
  refine tp rfl (lv_assign rfl) ?_
  refine t_done ?_
  refine q_then_n (hK7 _ _ ?_)
  refine c_block ?_
  refine c_loop (γ := (Nat)) (fun (k : Nat) => k ≤ es.length ∧ k ≤ 100) (fun (k : Nat) => [(0, (.int .i64 n)), (1, (.slice beb es.length ceb)), (2, (.slice btb xt.length ctb)), (3, (.slice bab al.length cab)), (4, (.slice bib xi.length cib)), (5, (.slice brb xr.length crb)), (12, (.bool false)), (13, (.bool true)), (14, (.pointer (some ⟨p1, 0, none⟩))), (15, (.int .i64 ((k : Nat) : Int))), (28, (.bool false))]) (fun (k : Nat) => (GraphO p1 (clampN (min n 30)) (madeE (clampN (min n 30)) (es.take k))) :: R) (fun (k : Nat) => es.length - k) (0) ⟨by omega, by omega⟩ ⟨rfl, rfl, rfl, rfl, rfl, rfl, rfl, rfl, rfl, rfl, rfl, trivial⟩ (fun _ h => h) ?_
  rintro k K8 hF hK8
  try dsimp only at hF hK8 ⊢
  obtain ⟨hk, hk2⟩ := hF
  refine c_seq (fun K9 hK9 => ?_)
  refine c_seq (fun K10 hK10 => ?_)
  refine c_region ?_
  by_cases hc2 : ((k : Nat) : Int) < ((es.length : Nat) : Int) ∧ ((k : Nat) : Int) < 100
  · -- both
    have hc2a := hc2.1
    have hc2b := hc2.2
    refine tp rfl (lv_move rfl) ?_
    refine tp rfl (lv_move rfl) ?_
    refine tp rfl (lv_len Tryd.underlying23 rfl rfl) ?_
    refine tp rfl (lv_lss rfl rfl (decide_eq_true hc2.1)) ?_
    refine tp rfl (lv_move rfl) ?_
    refine t_guard rfl rfl ?_
    refine tp rfl (lv_move rfl) ?_
    refine t_guard rfl rfl ?_
    refine tp rfl (lv_lss rfl rfl (decide_eq_true hc2.2)) ?_
    refine tp rfl (lv_pick_t rfl rfl) ?_
    refine t_done ?_
    refine q_then_n (hK10 _ _ ?_)
    refine c_true rfl ?_
    refine c_skip ?_
    refine q_then_n (hK9 _ _ ?_)
    refine c_seq (fun K11 hK11 => ?_)
    refine c_block ?_
    refine c_draw (γ := Unit) (n := 12) Tryd.mixed rfl rfl (fun _ S => True) (fun _ => [(0, 39, (.pointer (some ⟨p1, 0, none⟩))), (1, 40, (.slice beb es.length ceb)), (2, 41, (.int .i64 ((k : Nat) : Int))), (3, 42, (.pointer (some (ad beb (k * 2))))), (4, 43, (.pointer (some (ad beb (k * 2))))), (5, 44, (.int .i64 (((es).getD k (0, 0)).1))), (6, 45, (.slice beb es.length ceb)), (7, 46, (.int .i64 ((k : Nat) : Int))), (8, 47, (.pointer (some (ad beb (k * 2))))), (9, 48, (.pointer (some (ad beb (k * 2 + 1))))), (10, 49, (.int .i64 (((es).getD k (0, 0)).2))), (11, 50, (.tuple #[(.bool (isNew (clampN (min n 30)) (madeE (clampN (min n 30)) (es.take k)) (((es).getD k (0, 0)).1) (((es).getD k (0, 0)).2))), (.int .i64 (addErr (clampN (min n 30)) (((es).getD k (0, 0)).1) (((es).getD k (0, 0)).2)))]))]) (fun _ S => (bif S 11 then (GraphO p1 (clampN (min n 30)) (addE (clampN (min n 30)) (madeE (clampN (min n 30)) (es.take k)) (((es).getD k (0, 0)).1) (((es).getD k (0, 0)).2))) else (GraphO p1 (clampN (min n 30)) (madeE (clampN (min n 30)) (es.take k)))) :: R) (()) trivial (fun _ h => h) (fun _ _ h => h) ?_ ?_
    · -- steps
      refine ⟨?_, ?_, ?_, ?_, ?_, ?_, ?_, ?_, ?_, ?_, ?_, ?_, trivial⟩
      · -- 0
        rintro _ S hF hS D hp K hK
        try dsimp only at hF ⊢
        refine d_need (small := [(14, (.pointer (some ⟨p1, 0, none⟩)))]) ⟨look_b rfl rfl, trivial⟩ ?_
        refine tp rfl (lv_move rfl) ?_
        exact d_closes ⟨look_b rfl rfl, trivial⟩ 0 rfl rfl rfl hS (AgreeR.refl _) (t_sat (fun _ h => h) (hK () trivial))
      · -- 1
        rintro _ S hF hS D hp K hK
        try dsimp only at hF ⊢
        refine d_need (small := [(1, (.slice beb es.length ceb))]) ⟨look_b rfl rfl, trivial⟩ ?_
        refine tp rfl (lv_move rfl) ?_
        exact d_closes ⟨look_b rfl rfl, trivial⟩ 1 rfl rfl rfl hS (AgreeR.refl _) (t_sat (fun _ h => h) (hK () trivial))
      · -- 2
        rintro _ S hF hS D hp K hK
        try dsimp only at hF ⊢
        refine d_need (small := [(15, (.int .i64 ((k : Nat) : Int)))]) ⟨look_b rfl rfl, trivial⟩ ?_
        refine tp rfl (lv_move rfl) ?_
        exact d_closes ⟨look_b rfl rfl, trivial⟩ 2 rfl rfl rfl hS (AgreeR.refl _) (t_sat (fun _ h => h) (hK () trivial))
      · -- 3
        rintro _ S hF hS D hp K hK
        try dsimp only at hF ⊢
        have s1 := hp 1 rfl
        have s2 := hp 2 rfl
        refine d_need (small := [(40, (.slice beb es.length ceb)), (41, (.int .i64 ((k : Nat) : Int)))]) ⟨look_row rfl 1 rfl s1, look_row rfl 2 rfl s2, trivial⟩ ?_
        refine tp rfl (lv_indexAddr (k' := k * 2) Tryd.underlying23 Tryd.sizeOf34 rfl rfl okeb (by omega) (by omega) (by omega)) ?_
        exact d_closes ⟨look_row rfl 1 rfl s1, look_row rfl 2 rfl s2, trivial⟩ 3 rfl rfl rfl hS (AgreeR.refl _) (t_sat (fun _ h => h) (hK () trivial))
      · -- 4
        rintro _ S hF hS D hp K hK
        try dsimp only at hF ⊢
        have s3 := hp 3 rfl
        refine d_need (small := [(42, (.pointer (some (ad beb (k * 2)))))]) ⟨look_row rfl 3 rfl s3, trivial⟩ ?_
        refine tp rfl (lv_fieldAddr_ad (o' := k * 2) Tryd.underlying34 rfl Tryd.sizeOf3 rfl rfl) ?_
        exact d_closes ⟨look_row rfl 3 rfl s3, trivial⟩ 4 rfl rfl rfl hS (AgreeR.refl _) (t_sat (fun _ h => h) (hK () trivial))
      · -- 5
        rintro _ S hF hS D hp K hK
        try dsimp only at hF ⊢
        have s4 := hp 4 rfl
        refine d_need (small := [(43, (.pointer (some (ad beb (k * 2)))))]) ⟨look_row rfl 4 rfl s4, trivial⟩ ?_
        refine tp rfl (lv_load Tryd.isAgg3 rfl (Rd.gives (Rd.cons heb) (pairs_get0 (by omega)))) ?_
        exact d_closes ⟨look_row rfl 4 rfl s4, trivial⟩ 5 rfl rfl rfl hS (AgreeR.refl _) (t_sat (fun _ h => h) (hK () trivial))
      · -- 6
        rintro _ S hF hS D hp K hK
        try dsimp only at hF ⊢
        refine d_need (small := [(1, (.slice beb es.length ceb))]) ⟨look_b rfl rfl, trivial⟩ ?_
        refine tp rfl (lv_move rfl) ?_
        exact d_closes ⟨look_b rfl rfl, trivial⟩ 6 rfl rfl rfl hS (AgreeR.refl _) (t_sat (fun _ h => h) (hK () trivial))
      · -- 7
        rintro _ S hF hS D hp K hK
        try dsimp only at hF ⊢
        refine d_need (small := [(15, (.int .i64 ((k : Nat) : Int)))]) ⟨look_b rfl rfl, trivial⟩ ?_
        refine tp rfl (lv_move rfl) ?_
        exact d_closes ⟨look_b rfl rfl, trivial⟩ 7 rfl rfl rfl hS (AgreeR.refl _) (t_sat (fun _ h => h) (hK () trivial))
      · -- 8
        rintro _ S hF hS D hp K hK
        try dsimp only at hF ⊢
        have s6 := hp 6 rfl
        have s7 := hp 7 rfl
        refine d_need (small := [(45, (.slice beb es.length ceb)), (46, (.int .i64 ((k : Nat) : Int)))]) ⟨look_row rfl 6 rfl s6, look_row rfl 7 rfl s7, trivial⟩ ?_
        refine tp rfl (lv_indexAddr (k' := k * 2) Tryd.underlying23 Tryd.sizeOf34 rfl rfl okeb (by omega) (by omega) (by omega)) ?_
        exact d_closes ⟨look_row rfl 6 rfl s6, look_row rfl 7 rfl s7, trivial⟩ 8 rfl rfl rfl hS (AgreeR.refl _) (t_sat (fun _ h => h) (hK () trivial))
      · -- 9
        rintro _ S hF hS D hp K hK
        try dsimp only at hF ⊢
        have s8 := hp 8 rfl
        refine d_need (small := [(47, (.pointer (some (ad beb (k * 2)))))]) ⟨look_row rfl 8 rfl s8, trivial⟩ ?_
        refine tp rfl (lv_fieldAddr_ad (o' := k * 2 + 1) Tryd.underlying34 rfl Tryd.sizeOf3 rfl rfl) ?_
        exact d_closes ⟨look_row rfl 8 rfl s8, trivial⟩ 9 rfl rfl rfl hS (AgreeR.refl _) (t_sat (fun _ h => h) (hK () trivial))
      · -- 10
        rintro _ S hF hS D hp K hK
        try dsimp only at hF ⊢
        have s9 := hp 9 rfl
        refine d_need (small := [(48, (.pointer (some (ad beb (k * 2 + 1)))))]) ⟨look_row rfl 9 rfl s9, trivial⟩ ?_
        refine tp rfl (lv_load Tryd.isAgg3 rfl (Rd.gives (Rd.cons heb) (pairs_get1 (by omega)))) ?_
        exact d_closes ⟨look_row rfl 9 rfl s9, trivial⟩ 10 rfl rfl rfl hS (AgreeR.refl _) (t_sat (fun _ h => h) (hK () trivial))
      · -- 11
        rintro _ S hF hS D hp K hK
        try dsimp only at hF ⊢
        have s0 := hp 0 rfl
        have s5 := hp 5 rfl
        have s10 := hp 10 rfl
        refine d_need (small := [(39, (.pointer (some ⟨p1, 0, none⟩))), (44, (.int .i64 (((es).getD k (0, 0)).1))), (49, (.int .i64 (((es).getD k (0, 0)).2)))]) ⟨look_row rfl 0 rfl s0, look_row rfl 5 rfl s5, look_row rfl 10 rfl s10, trivial⟩ ?_
        refine t_cF hS ?_
        refine tc rfl (en_fn Tryd.call11 rfl) (add_ok (N := clampN (min n 30)) (es := madeE (clampN (min n 30)) (es.take k)) (((es).getD k (0, 0)).1) (((es).getD k (0, 0)).2)) ?_
        rintro _ _ ⟨rfl, rfl⟩
        exact d_closes ⟨look_row rfl 0 rfl s0, look_row rfl 5 rfl s5, look_row rfl 10 rfl s10, trivial⟩ 11 rfl rfl rfl hS (AgreeR.refl _) (t_sat (fun _ h => h) (hK () trivial))
    · -- behind
      rintro _ hF
      try dsimp only at hF ⊢
      refine t_weak (E' := [(0, (.int .i64 n)), (1, (.slice beb es.length ceb)), (2, (.slice btb xt.length ctb)), (3, (.slice bab al.length cab)), (4, (.slice bib xi.length cib)), (5, (.slice brb xr.length crb)), (12, (.bool false)), (13, (.bool true)), (14, (.pointer (some ⟨p1, 0, none⟩))), (15, (.int .i64 ((k : Nat) : Int))), (28, (.bool false)), (36, (.bool true))]) ⟨rfl, rfl, rfl, rfl, rfl, rfl, rfl, rfl, rfl, rfl, rfl, rfl, trivial⟩ ?_
      refine q_in_n ?_
      refine q_then_n (hK11 _ _ ?_)
      refine c_region ?_
      refine tp rfl (lv_move rfl) ?_
      refine tp rfl (lv_add (c := ((k + 1 : Nat) : Int)) rfl rfl (wr_i64_succ (by omega))) ?_
      refine tp rfl (lv_assign rfl) ?_
      refine t_done ?_
      refine q_then_n ?_
      rw [show addE (clampN (min n 30)) (madeE (clampN (min n 30)) (es.take k)) (((es).getD k (0, 0)).1) (((es).getD k (0, 0)).2) = madeE (clampN (min n 30)) (es.take (k + 1)) from (madeE_succ (by omega)).symm]
      exact t_weak (by exact ⟨rfl, rfl, rfl, rfl, rfl, rfl, rfl, rfl, rfl, rfl, rfl, trivial⟩) ((hK8 (k + 1) ⟨by omega, by omega⟩ (by omega)))
  · -- not both
    refine t_cut0 (E' := [(0, (.int .i64 n)), (1, (.slice beb es.length ceb)), (2, (.slice btb xt.length ctb)), (3, (.slice bab al.length cab)), (4, (.slice bib xi.length cib)), (5, (.slice brb xr.length crb)), (12, (.bool false)), (13, (.bool true)), (14, (.pointer (some ⟨p1, 0, none⟩))), (15, (.int .i64 ((k : Nat) : Int))), (28, (.bool false)), (36, (.bool false))]) ?_ (fun KK hKK => ?_)
    ·
      refine q_then_n (hK10 _ _ ?_)
      refine c_false rfl ?_
      refine c_exit ?_
      refine q_then_x ?_
      refine q_then_x ?_
      refine q_in_x ?_
      refine q_then_n (hK6 _ _ ?_)
      refine c_seq (fun K11 hK11 => ?_)
      refine c_region ?_
      obtain ⟨E, hE⟩ : ∃ x, madeE (clampN (min n 30)) (es.take k) = x := ⟨_, rfl⟩
      rw [hE]
      obtain ⟨N, hN⟩ : ∃ x, clampN (min n 30) = x := ⟨_, rfl⟩
      rw [hN]
      refine tp rfl (lv_move rfl) ?_
      refine tp rfl (lv_move rfl) ?_
      refine tp rfl (lv_len Tryd.underlying22 rfl rfl) ?_
      refine tp rfl (lv_min (c := ((n1 : Nat) : Int)) rfl rfl (by omega)) ?_
      refine tp rfl (lv_slice (l := 0) (h := n1) (m := ctb) (v := (.slice btb n1 ctb)) Tryd.underlying22 Tryd.sizeOf3 rfl rfl rfl rfl (.inr ⟨rfl, rfl⟩) (.inl ⟨_, _, rfl, (by omega), (by omega), (by omega)⟩) (.inr ⟨rfl, rfl⟩) (by simp) (by rw [sbase_zero]; rfl)) ?_
      refine tp rfl (lv_assign rfl) ?_
      refine t_done ?_
      refine q_then_n (hK11 _ _ ?_)
      refine c_seq (fun K12 hK12 => ?_)
      refine c_region ?_
      refine tp rfl (lv_move rfl) ?_
      refine tp rfl (lv_move rfl) ?_
      refine tp rfl (lv_len Tryd.underlying22 rfl rfl) ?_
      refine tp rfl (lv_min (c := ((n2 : Nat) : Int)) rfl rfl (by omega)) ?_
      refine tp rfl (lv_slice (l := 0) (h := n2) (m := cib) (v := (.slice bib n2 cib)) Tryd.underlying22 Tryd.sizeOf3 rfl rfl rfl rfl (.inr ⟨rfl, rfl⟩) (.inl ⟨_, _, rfl, (by omega), (by omega), (by omega)⟩) (.inr ⟨rfl, rfl⟩) (by simp) (by rw [sbase_zero]; rfl)) ?_
      refine tp rfl (lv_assign rfl) ?_
      refine t_done ?_
      refine q_then_n (hK12 _ _ ?_)
      refine c_seq (fun K13 hK13 => ?_)
      refine c_region ?_
      refine tp rfl (lv_move rfl) ?_
      refine tp rfl (lv_move rfl) ?_
      refine tp rfl (lv_len Tryd.underlying22 rfl rfl) ?_
      refine tp rfl (lv_min (c := ((n3 : Nat) : Int)) rfl rfl (by omega)) ?_
      refine tp rfl (lv_slice (l := 0) (h := n3) (m := crb) (v := (.slice brb n3 crb)) Tryd.underlying22 Tryd.sizeOf3 rfl rfl rfl rfl (.inr ⟨rfl, rfl⟩) (.inl ⟨_, _, rfl, (by omega), (by omega), (by omega)⟩) (.inr ⟨rfl, rfl⟩) (by simp) (by rw [sbase_zero]; rfl)) ?_
      refine tp rfl (lv_assign rfl) ?_
      refine t_done ?_
      refine q_then_n (hK13 _ _ ?_)
      refine c_seq (fun K14 hK14 => ?_)
      refine c_region ?_
      obtain ⟨m1, hm1⟩ : ∃ m, m = min n2 n3 := ⟨_, rfl⟩
      have hwl := wantN_len al.length N E al tl il rl m1
      refine tp rfl (lv_move rfl) ?_
      refine tp rfl (lv_move rfl) ?_
      refine tp rfl (lv_move rfl) ?_
      refine tp rfl (lv_move rfl) ?_
      refine tp rfl (lv_move rfl) ?_
      refine tc rfl (en_fn Tryd.call17 rfl) (wants_ok (n := al.length) (m1 := m1) tl al il rl (by first | rfl | omega | (simp; done) | (simp; omega)) (by first | rfl | omega | (simp; done) | (simp; omega)) (by first | rfl | omega | (simp; done) | (simp; omega)) (by first | rfl | omega | (simp; done) | (simp; omega)) (by first | rfl | omega | (simp; done) | (simp; omega)) rdtb hab rdib rdrb (fun hz => oktb (by omega)) okab (fun hz => okib (by omega)) (fun hz => okrb (by omega)) (by first | omega | (simp; omega) | (simp; done)) (by first | omega | (simp; omega) | (simp; done)) (by first | omega | (simp; omega)) hT) ?_
      rintro _ _ ⟨bs3, cp4, bs5, cp6, hok7, hle8, hok9, hle10, rfl, rfl⟩
      refine tp rfl (lv_move rfl) ?_
      refine tp rfl (lv_extract rfl rfl) ?_
      refine tp rfl (lv_extract rfl rfl) ?_
      refine tp rfl (lv_assign rfl) ?_
      refine tp rfl (lv_assign rfl) ?_
      refine t_done ?_
      refine q_then_n (hK14 _ _ ?_)
      refine c_seq (fun K15 hK15 => ?_)
      refine c_seq (fun K16 hK16 => ?_)
      refine c_region ?_
      obtain ⟨P, hP⟩ : ∃ x, (wantN al.length N E al tl il rl m1).1 = x := ⟨_, rfl⟩
      rw [hP] at hwl hok7 hle8 ⊢
      obtain ⟨Q, hQ⟩ : ∃ x, (wantN al.length N E al tl il rl m1).2 = x := ⟨_, rfl⟩
      rw [hQ] at hwl hok9 hle10 ⊢
      refine tp rfl (lv_move rfl) ?_
      refine tp rfl (lv_len Tryd.underlying38 rfl rfl) ?_
      refine tp rfl (lv_move rfl) ?_
      refine tp rfl (lv_len Tryd.underlying22 rfl rfl) ?_
      refine tp rfl (lv_neq rfl rfl (bne_eq_false_iff_eq.2 (by rw [hwl.1]))) ?_
      refine t_done ?_
      refine q_then_n (hK16 _ _ ?_)
      refine c_false rfl ?_
      refine c_skip ?_
      refine q_then_n (hK15 _ _ ?_)
      refine c_seq (fun K17 hK17 => ?_)
      refine c_region ?_
      refine tp rfl (lv_assign rfl) ?_
      refine t_done ?_
      refine q_then_n (hK17 _ _ ?_)
      refine c_seq (fun K18 hK18 => ?_)
      refine c_seq (fun K19 hK19 => ?_)
      refine c_region ?_
      refine tp rfl (lv_assign rfl) ?_
      refine t_done ?_
      refine q_then_n (hK19 _ _ ?_)
      refine c_block ?_
      refine c_loop (γ := (Nat)) (fun (i : Nat) => i ≤ m1) (fun (i : Nat) => [(0, (.int .i64 n)), (1, (.slice beb es.length ceb)), (2, (.slice btb n1 ctb)), (3, (.slice bab al.length cab)), (4, (.slice bib n2 cib)), (5, (.slice brb n3 crb)), (13, (.bool true)), (14, (.pointer (some ⟨p1, 0, none⟩))), (15, (.int .i64 ((k : Nat) : Int))), (16, (.slice bs3 P.length cp4)), (17, (.slice bs5 Q.length cp6)), (18, (.int .i64 (((wantN al.length N E al tl il rl i).2.length : Nat) : Int))), (19, (.int .i64 ((i : Nat) : Int))), (28, (.bool false)), (36, (.bool false)), (79, (.bool false))]) (fun (i : Nat) => (SlV 46 2 (.slice bs3 P.length cp4) P.length (pairs P)) :: (SlV 3 1 (.slice bs5 Q.length cp6) Q.length (ints .i64 Q)) :: (GraphO p1 N E) :: R) (fun (i : Nat) => m1 - i) (0) (by omega) ⟨rfl, rfl, rfl, rfl, rfl, rfl, rfl, rfl, rfl, rfl, rfl, rfl, rfl, rfl, rfl, rfl, trivial⟩ (fun _ h => h) ?_
      rintro i K20 hF hK20
      try dsimp only at hF hK20 ⊢
      have hwi := wantN_len al.length N E al tl il rl i
      refine c_seq (fun K21 hK21 => ?_)
      refine c_seq (fun K22 hK22 => ?_)
      refine c_region ?_
      by_cases hc11 : ((i : Nat) : Int) < ((n2 : Nat) : Int) ∧ ((i : Nat) : Int) < ((n3 : Nat) : Int)
      · -- both
        have hc11a := hc11.1
        have hc11b := hc11.2
        refine tp rfl (lv_move rfl) ?_
        refine tp rfl (lv_move rfl) ?_
        refine tp rfl (lv_len Tryd.underlying22 rfl rfl) ?_
        refine tp rfl (lv_lss rfl rfl (decide_eq_true hc11.1)) ?_
        refine tp rfl (lv_move rfl) ?_
        refine t_guard rfl rfl ?_
        refine tp rfl (lv_move rfl) ?_
        refine t_guard rfl rfl ?_
        refine tp rfl (lv_move rfl) ?_
        refine t_guard rfl rfl ?_
        refine tp rfl (lv_len Tryd.underlying22 rfl rfl) ?_
        refine t_guard rfl rfl ?_
        refine tp rfl (lv_lss rfl rfl (decide_eq_true hc11.2)) ?_
        refine tp rfl (lv_pick_t rfl rfl) ?_
        refine t_done ?_
        refine q_then_n (hK22 _ _ ?_)
        refine c_true rfl ?_
        refine c_skip ?_
        refine q_then_n (hK21 _ _ ?_)
        refine c_seq (fun K23 hK23 => ?_)
        refine c_block ?_
        refine c_seq (fun K24 hK24 => ?_)
        refine c_region ?_
        refine tp rfl (lv_assign rfl) ?_
        refine t_done ?_
        refine q_then_n (hK24 _ _ ?_)
        refine c_seq (fun K25 hK25 => ?_)
        refine c_seq (fun K26 hK26 => ?_)
        refine c_region ?_
        refine tp rfl (lv_assign rfl) ?_
        refine t_done ?_
        refine q_then_n (hK26 _ _ ?_)
        refine c_block ?_
        refine c_loop (γ := (Nat) × (Int)) (fun (j, v) => j ≤ n1 ∧ FirstI (wp al.length N E (rl.getD i 0)) tl j v) (fun (j, v) => [(0, (.int .i64 n)), (1, (.slice beb es.length ceb)), (2, (.slice btb n1 ctb)), (3, (.slice bab al.length cab)), (4, (.slice bib n2 cib)), (5, (.slice brb n3 crb)), (13, (.bool true)), (14, (.pointer (some ⟨p1, 0, none⟩))), (15, (.int .i64 ((k : Nat) : Int))), (16, (.slice bs3 P.length cp4)), (17, (.slice bs5 Q.length cp6)), (18, (.int .i64 (((wantN al.length N E al tl il rl i).2.length : Nat) : Int))), (19, (.int .i64 ((i : Nat) : Int))), (20, (.int .i64 v)), (21, (.int .i64 ((j : Nat) : Int))), (28, (.bool false)), (36, (.bool false)), (79, (.bool false)), (89, (.bool true))]) (fun (j, v) => (SlV 46 2 (.slice bs3 P.length cp4) P.length (pairs P)) :: (SlV 3 1 (.slice bs5 Q.length cp6) Q.length (ints .i64 Q)) :: (GraphO p1 N E) :: R) (fun (j, v) => n1 - j) (0, (-1)) ⟨by omega, first_zero _ _⟩ ⟨rfl, rfl, rfl, rfl, rfl, rfl, rfl, rfl, rfl, rfl, rfl, rfl, rfl, rfl, rfl, rfl, rfl, rfl, rfl, trivial⟩ (fun _ h => h) ?_
        rintro ⟨j, v⟩ K27 hF hK27
        try dsimp only at hF hK27 ⊢
        obtain ⟨hj, hfi⟩ := hF
        refine c_seq (fun K28 hK28 => ?_)
        refine c_seq (fun K29 hK29 => ?_)
        refine c_region ?_
        refine tp rfl (lv_move rfl) ?_
        refine tp rfl (lv_move rfl) ?_
        refine tp rfl (lv_len Tryd.underlying22 rfl rfl) ?_
        by_cases h12 : ((j : Nat) : Int) < ((n1 : Nat) : Int)
        · -- yes
         refine tp rfl (lv_lss rfl rfl (decide_eq_true h12)) ?_
         refine t_done ?_
         refine q_then_n (hK29 _ _ ?_)
         refine c_true rfl ?_
         refine c_skip ?_
         refine q_then_n (hK28 _ _ ?_)
         refine c_seq (fun K30 hK30 => ?_)
         refine c_block ?_
         refine c_seq (fun K31 hK31 => ?_)
         refine c_region ?_
         refine tp rfl (lv_move rfl) ?_
         refine tp rfl (lv_move rfl) ?_
         refine tp rfl (lv_indexAddr (k' := j) Tryd.underlying22 Tryd.sizeOf3 rfl rfl (fun hz => oktb (by omega)) (by omega) (by omega) (by omega)) ?_
         refine tp rfl (lv_load Tryd.isAgg3 rfl (Rd.gives (Rd.cons (Rd.cons (Rd.cons rdtb))) (ints_get (by first | omega | (simp; omega))))) ?_
         refine tp rfl (lv_assign rfl) ?_
         refine t_done ?_
         refine q_then_n (hK31 _ _ ?_)
         refine c_seq (fun K32 hK32 => ?_)
         refine c_region ?_
         refine tp rfl (lv_move rfl) ?_
         by_cases hv : v < 0
         · -- yes
          refine tp rfl (lv_lss rfl rfl (decide_eq_true hv)) ?_
          refine tp rfl (lv_move rfl) ?_
          refine t_guard rfl rfl ?_
          refine tp rfl (lv_move rfl) ?_
          refine t_guard rfl rfl ?_
          by_cases hge : ((tl).getD j 0) ≥ 0
          · -- yes
           refine tp rfl (lv_geq rfl rfl (decide_eq_true hge)) ?_
           refine tp rfl (lv_pick_t rfl rfl) ?_
           refine tp rfl (lv_move rfl) ?_
           refine t_guard rfl rfl ?_
           refine tp rfl (lv_move rfl) ?_
           refine t_guard rfl rfl ?_
           refine tp rfl (lv_move rfl) ?_
           refine t_guard rfl rfl ?_
           refine tp rfl (lv_len Tryd.underlying24 rfl rfl) ?_
           refine t_guard rfl rfl ?_
           by_cases hlt : ((tl).getD j 0) < ((al.length : Nat) : Int)
           · -- yes
            refine tp rfl (lv_lss rfl rfl (decide_eq_true hlt)) ?_
            refine tp rfl (lv_pick_t rfl rfl) ?_
            refine tp rfl (lv_move rfl) ?_
            refine t_guard rfl rfl ?_
            refine tp rfl (lv_move rfl) ?_
            refine t_guard rfl rfl ?_
            refine tp rfl (lv_move rfl) ?_
            refine t_guard rfl rfl ?_
            refine tp rfl (lv_move rfl) ?_
            refine t_guard rfl rfl ?_
            refine tp rfl (lv_indexAddr (k' := i) Tryd.underlying22 Tryd.sizeOf3 rfl rfl (fun hz => okrb (by omega)) (by omega) (by omega) (by omega)) ?_
            refine t_guard rfl rfl ?_
            refine tp rfl (lv_load Tryd.isAgg3 rfl (Rd.gives (Rd.cons (Rd.cons (Rd.cons rdrb))) (ints_get (by first | omega | (simp; omega))))) ?_
            refine t_guard rfl rfl ?_
            refine tp rfl (lv_move rfl) ?_
            refine t_guard rfl rfl ?_
            refine t_f2 ?_
            refine tc rfl (en_fn Tryd.call20 rfl) (reaches_ok (N := N) (es := E) ((rl).getD i 0) ((tl).getD j 0) (Tab.cons (Tab.cons hT))) ?_
            rintro _ _ ⟨rfl, rfl⟩
            refine tp rfl (lv_pick_t rfl rfl) ?_
            refine t_done ?_
            refine q_then_n (hK32 _ _ ?_)
            refine c_split rfl (fun c13 => ?_) (fun c13 => ?_)
            · -- true
             refine c_region ?_
             refine tp rfl (lv_move rfl) ?_
             refine tp rfl (lv_assign rfl) ?_
             refine t_done ?_
             refine q_in_n ?_
             refine q_then_n (hK30 _ _ ?_)
             refine c_region ?_
             refine tp rfl (lv_move rfl) ?_
             refine tp rfl (lv_add (c := ((j + 1 : Nat) : Int)) rfl rfl (wr_i64_succ (by omega))) ?_
             refine tp rfl (lv_assign rfl) ?_
             refine t_done ?_
             refine q_then_n ?_
             refine t_f2 ?_
             refine t_f2 ?_
             exact t_weak (by exact ⟨rfl, rfl, rfl, rfl, rfl, rfl, rfl, rfl, rfl, rfl, rfl, rfl, rfl, rfl, rfl, rfl, rfl, rfl, rfl, trivial⟩) ((hK27 (j + 1, (tl).getD j 0) ⟨by omega, first_new hfi hv (by omega) (wp_4 hge hlt ‹reachB N E (rl.getD i 0) (tl.getD j 0) = true›) hge⟩ (by dsimp only; omega)))
            · -- false
             refine c_skip ?_
             refine q_in_n ?_
             refine q_then_n (hK30 _ _ ?_)
             refine c_region ?_
             refine tp rfl (lv_move rfl) ?_
             refine tp rfl (lv_add (c := ((j + 1 : Nat) : Int)) rfl rfl (wr_i64_succ (by omega))) ?_
             refine tp rfl (lv_assign rfl) ?_
             refine t_done ?_
             refine q_then_n ?_
             refine t_f2 ?_
             refine t_f2 ?_
             exact t_weak (by exact ⟨rfl, rfl, rfl, rfl, rfl, rfl, rfl, rfl, rfl, rfl, rfl, rfl, rfl, rfl, rfl, rfl, rfl, rfl, rfl, trivial⟩) ((hK27 (j + 1, v) ⟨by omega, (by first | exact first_keep hfi hv | exact first_no hfi (wp_1 hge) | exact first_no hfi (wp_2 hlt) | exact first_no hfi (wp_3 ‹reachB N E (rl.getD i 0) (tl.getD j 0) = false›))⟩ (by dsimp only; omega)))
           · -- no
            refine tp rfl (lv_lss rfl rfl (decide_eq_false hlt)) ?_
            refine tp rfl (lv_pick_t rfl rfl) ?_
            refine tp rfl (lv_move rfl) ?_
            refine t_skip rfl rfl rfl ?_
            refine t_skip rfl rfl rfl ?_
            refine t_skip rfl rfl rfl ?_
            refine t_skip rfl rfl rfl ?_
            refine t_skip rfl rfl rfl ?_
            refine t_skip rfl rfl rfl ?_
            refine t_skip rfl rfl rfl ?_
            refine tp rfl (lv_pick_f rfl rfl) ?_
            refine t_done ?_
            refine q_then_n (hK32 _ _ ?_)
            refine c_false rfl ?_
            refine c_skip ?_
            refine q_in_n ?_
            refine q_then_n (hK30 _ _ ?_)
            refine c_region ?_
            refine tp rfl (lv_move rfl) ?_
            refine tp rfl (lv_add (c := ((j + 1 : Nat) : Int)) rfl rfl (wr_i64_succ (by omega))) ?_
            refine tp rfl (lv_assign rfl) ?_
            refine t_done ?_
            refine q_then_n ?_
            exact t_weak (by exact ⟨rfl, rfl, rfl, rfl, rfl, rfl, rfl, rfl, rfl, rfl, rfl, rfl, rfl, rfl, rfl, rfl, rfl, rfl, rfl, trivial⟩) ((hK27 (j + 1, v) ⟨by omega, (by first | exact first_keep hfi hv | exact first_no hfi (wp_1 hge) | exact first_no hfi (wp_2 hlt) | exact first_no hfi (wp_3 ‹reachB N E (rl.getD i 0) (tl.getD j 0) = false›))⟩ (by dsimp only; omega)))
          · -- no
           refine tp rfl (lv_geq rfl rfl (decide_eq_false hge)) ?_
           refine tp rfl (lv_pick_t rfl rfl) ?_
           refine tp rfl (lv_move rfl) ?_
           refine t_skip rfl rfl rfl ?_
           refine t_skip rfl rfl rfl ?_
           refine t_skip rfl rfl rfl ?_
           refine t_skip rfl rfl rfl ?_
           refine tp rfl (lv_pick_f rfl rfl) ?_
           refine tp rfl (lv_move rfl) ?_
           refine t_skip rfl rfl rfl ?_
           refine t_skip rfl rfl rfl ?_
           refine t_skip rfl rfl rfl ?_
           refine t_skip rfl rfl rfl ?_
           refine t_skip rfl rfl rfl ?_
           refine t_skip rfl rfl rfl ?_
           refine t_skip rfl rfl rfl ?_
           refine tp rfl (lv_pick_f rfl rfl) ?_
           refine t_done ?_
           refine q_then_n (hK32 _ _ ?_)
           refine c_false rfl ?_
           refine c_skip ?_
           refine q_in_n ?_
           refine q_then_n (hK30 _ _ ?_)
           refine c_region ?_
           refine tp rfl (lv_move rfl) ?_
           refine tp rfl (lv_add (c := ((j + 1 : Nat) : Int)) rfl rfl (wr_i64_succ (by omega))) ?_
           refine tp rfl (lv_assign rfl) ?_
           refine t_done ?_
           refine q_then_n ?_
           exact t_weak (by exact ⟨rfl, rfl, rfl, rfl, rfl, rfl, rfl, rfl, rfl, rfl, rfl, rfl, rfl, rfl, rfl, rfl, rfl, rfl, rfl, trivial⟩) ((hK27 (j + 1, v) ⟨by omega, (by first | exact first_keep hfi hv | exact first_no hfi (wp_1 hge) | exact first_no hfi (wp_2 hlt) | exact first_no hfi (wp_3 ‹reachB N E (rl.getD i 0) (tl.getD j 0) = false›))⟩ (by dsimp only; omega)))
         · -- no
          refine tp rfl (lv_lss rfl rfl (decide_eq_false hv)) ?_
          refine tp rfl (lv_move rfl) ?_
          refine t_skip rfl rfl rfl ?_
          refine t_skip rfl rfl rfl ?_
          refine tp rfl (lv_pick_f rfl rfl) ?_
          refine tp rfl (lv_move rfl) ?_
          refine t_skip rfl rfl rfl ?_
          refine t_skip rfl rfl rfl ?_
          refine t_skip rfl rfl rfl ?_
          refine t_skip rfl rfl rfl ?_
          refine tp rfl (lv_pick_f rfl rfl) ?_
          refine tp rfl (lv_move rfl) ?_
          refine t_skip rfl rfl rfl ?_
          refine t_skip rfl rfl rfl ?_
          refine t_skip rfl rfl rfl ?_
          refine t_skip rfl rfl rfl ?_
          refine t_skip rfl rfl rfl ?_
          refine t_skip rfl rfl rfl ?_
          refine t_skip rfl rfl rfl ?_
          refine tp rfl (lv_pick_f rfl rfl) ?_
          refine t_done ?_
          refine q_then_n (hK32 _ _ ?_)
          refine c_false rfl ?_
          refine c_skip ?_
          refine q_in_n ?_
          refine q_then_n (hK30 _ _ ?_)
          refine c_region ?_
          refine tp rfl (lv_move rfl) ?_
          refine tp rfl (lv_add (c := ((j + 1 : Nat) : Int)) rfl rfl (wr_i64_succ (by omega))) ?_
          refine tp rfl (lv_assign rfl) ?_
          refine t_done ?_
          refine q_then_n ?_
          exact t_weak (by exact ⟨rfl, rfl, rfl, rfl, rfl, rfl, rfl, rfl, rfl, rfl, rfl, rfl, rfl, rfl, rfl, rfl, rfl, rfl, rfl, trivial⟩) ((hK27 (j + 1, v) ⟨by omega, (by first | exact first_keep hfi hv | exact first_no hfi (wp_1 hge) | exact first_no hfi (wp_2 hlt) | exact first_no hfi (wp_3 ‹reachB N E (rl.getD i 0) (tl.getD j 0) = false›))⟩ (by dsimp only; omega)))
        · -- no
         refine tp rfl (lv_lss rfl rfl (decide_eq_false h12)) ?_
         refine t_done ?_
         refine q_then_n (hK29 _ _ ?_)
         refine c_false rfl ?_
         refine c_exit ?_
         refine q_then_x ?_
         refine q_then_x ?_
         refine q_in_x ?_
         refine q_then_n (hK25 _ _ ?_)
         refine c_seq (fun K30 hK30 => ?_)
         refine c_seq (fun K31 hK31 => ?_)
         refine c_region ?_
         obtain ⟨hw1, hw2⟩ := first_end hfi (by omega)
         refine tp rfl (lv_move rfl) ?_
         by_cases hv2 : v < 0
         · -- yes
          refine tp rfl (lv_lss rfl rfl (decide_eq_true hv2)) ?_
          refine t_done ?_
          refine q_then_n (hK31 _ _ ?_)
          refine c_true rfl ?_
          refine c_exit ?_
          refine q_then_x ?_
          refine q_in_x ?_
          refine q_then_n (hK23 _ _ ?_)
          refine c_region ?_
          refine tp rfl (lv_move rfl) ?_
          refine tp rfl (lv_add (c := ((i + 1 : Nat) : Int)) rfl rfl (wr_i64_succ (by omega))) ?_
          refine tp rfl (lv_assign rfl) ?_
          refine t_done ?_
          refine q_then_n ?_
          exact t_weak (by exact ⟨rfl, rfl, rfl, rfl, rfl, rfl, rfl, rfl, rfl, rfl, rfl, (by rw [want_stepno (hw1 hv2)]; rfl), rfl, rfl, rfl, rfl, trivial⟩) ((hK20 (i + 1) (by omega) (by omega)))
         · -- no
          refine tp rfl (lv_lss rfl rfl (decide_eq_false hv2)) ?_
          refine t_done ?_
          refine q_then_n (hK31 _ _ ?_)
          refine c_false rfl ?_
          refine c_skip ?_
          refine q_then_n (hK30 _ _ ?_)
          refine c_seq (fun K32 hK32 => ?_)
          refine c_seq (fun K33 hK33 => ?_)
          obtain ⟨hj0, hj1, hj2⟩ := hw2 hv2
          obtain ⟨hk1, hk2, hq1, hp1⟩ := want_at (n := al.length) (N := N) (E := E) (es := al) (ids := il) (m := m1) (show i < m1 by omega) hj0 hj1
          rw [hP] at hk1 hp1
          rw [hQ] at hk2 hq1
          have hth := thB_t hj2
          refine c_draw (γ := Unit) (n := 37) Tryd.mixed rfl rfl (fun _ S => True) (fun _ => [(0, 126, (.int .i64 (((wantN al.length N E al tl il rl i).2.length : Nat) : Int))), (1, 127, (.slice bs3 P.length cp4)), (2, 128, (.int .i64 ((P.length : Nat) : Int))), (3, 129, (.bool false)), (4, 130, (.bool false)), (5, 131, (.slice bs3 P.length cp4)), (6, 132, (.int .i64 (((wantN al.length N E al tl il rl i).2.length : Nat) : Int))), (7, 133, (.pointer (some (ad bs3 (((wantN al.length N E al tl il rl i).2.length) * 2))))), (8, 134, (.pointer (some (ad bs3 (((wantN al.length N E al tl il rl i).2.length) * 2))))), (9, 135, (.int .i64 (((P).getD ((wantN al.length N E al tl il rl i).2.length) (0, 0)).1))), (10, 136, (.slice bib n2 cib)), (11, 137, (.int .i64 ((i : Nat) : Int))), (12, 138, (.pointer (some (ad bib i)))), (13, 139, (.int .i64 ((il).getD i 0))), (14, 140, (.bool false)), (15, 141, (.bool false)), (16, 142, (.bool false)), (17, 143, (.slice bs5 Q.length cp6)), (18, 144, (.int .i64 (((wantN al.length N E al tl il rl i).2.length : Nat) : Int))), (19, 145, (.pointer (some (ad bs5 ((wantN al.length N E al tl il rl i).2.length))))), (20, 146, (.int .i64 ((Q).getD ((wantN al.length N E al tl il rl i).2.length) 0))), (21, 147, (.int .i64 v)), (22, 148, (.bool false)), (23, 149, (.bool false)), (24, 150, (.bool false)), (25, 151, (.slice bs3 P.length cp4)), (26, 152, (.int .i64 (((wantN al.length N E al tl il rl i).2.length : Nat) : Int))), (27, 153, (.pointer (some (ad bs3 (((wantN al.length N E al tl il rl i).2.length) * 2))))), (28, 154, (.pointer (some (ad bs3 (((wantN al.length N E al tl il rl i).2.length) * 2 + 1))))), (29, 155, (.int .i64 (((P).getD ((wantN al.length N E al tl il rl i).2.length) (0, 0)).2))), (30, 156, (.slice bab al.length cab)), (31, 157, (.int .i64 v)), (32, 158, (.pointer (some (ad bab (v.toNat * 2))))), (33, 159, (.pointer (some (ad bab (v.toNat * 2 + 1))))), (34, 160, (.int .i64 (((al).getD v.toNat (0, 0)).2))), (35, 161, (.bool false)), (36, 162, (.bool false))]) (fun _ S => (SlV 46 2 (.slice bs3 P.length cp4) P.length (pairs P)) :: (SlV 3 1 (.slice bs5 Q.length cp6) Q.length (ints .i64 Q)) :: (GraphO p1 N E) :: R) (()) trivial (fun _ h => h) (fun _ _ h => h) ?_ ?_
          · -- steps
           refine ⟨?_, ?_, ?_, ?_, ?_, ?_, ?_, ?_, ?_, ?_, ?_, ?_, ?_, ?_, ?_, ?_, ?_, ?_, ?_, ?_, ?_, ?_, ?_, ?_, ?_, ?_, ?_, ?_, ?_, ?_, ?_, ?_, ?_, ?_, ?_, ?_, ?_, trivial⟩
           · -- 0
            rintro _ S hF hS D hp K hK
            try dsimp only at hF ⊢
            refine d_need (small := [(18, (.int .i64 (((wantN al.length N E al tl il rl i).2.length : Nat) : Int)))]) ⟨look_b rfl rfl, trivial⟩ ?_
            refine tp rfl (lv_move rfl) ?_
            exact d_closes ⟨look_b rfl rfl, trivial⟩ 0 rfl rfl rfl hS (AgreeR.refl _) (t_sat (fun _ h => h) (hK () trivial))
           · -- 1
            rintro _ S hF hS D hp K hK
            try dsimp only at hF ⊢
            refine d_need (small := [(16, (.slice bs3 P.length cp4))]) ⟨look_b rfl rfl, trivial⟩ ?_
            refine tp rfl (lv_move rfl) ?_
            exact d_closes ⟨look_b rfl rfl, trivial⟩ 1 rfl rfl rfl hS (AgreeR.refl _) (t_sat (fun _ h => h) (hK () trivial))
           · -- 2
            rintro _ S hF hS D hp K hK
            try dsimp only at hF ⊢
            have s1 := hp 1 rfl
            refine d_need (small := [(127, (.slice bs3 P.length cp4))]) ⟨look_row rfl 1 rfl s1, trivial⟩ ?_
            refine tp rfl (lv_len Tryd.underlying38 rfl rfl) ?_
            exact d_closes ⟨look_row rfl 1 rfl s1, trivial⟩ 2 rfl rfl rfl hS (AgreeR.refl _) (t_sat (fun _ h => h) (hK () trivial))
           · -- 3
            rintro _ S hF hS D hp K hK
            try dsimp only at hF ⊢
            have s0 := hp 0 rfl
            have s2 := hp 2 rfl
            refine d_need (small := [(126, (.int .i64 (((wantN al.length N E al tl il rl i).2.length : Nat) : Int))), (128, (.int .i64 ((P.length : Nat) : Int)))]) ⟨look_row rfl 0 rfl s0, look_row rfl 2 rfl s2, trivial⟩ ?_
            refine tp rfl (lv_geq rfl rfl (decide_eq_false (by omega))) ?_
            exact d_closes ⟨look_row rfl 0 rfl s0, look_row rfl 2 rfl s2, trivial⟩ 3 rfl rfl rfl hS (AgreeR.refl _) (t_sat (fun _ h => h) (hK () trivial))
           · -- 4
            rintro _ S hF hS D hp K hK
            try dsimp only at hF ⊢
            have s3 := hp 3 rfl
            refine d_need (small := [(129, (.bool false))]) ⟨look_row rfl 3 rfl s3, trivial⟩ ?_
            refine tp rfl (lv_move rfl) ?_
            exact d_closes ⟨look_row rfl 3 rfl s3, trivial⟩ 4 rfl rfl rfl hS (AgreeR.refl _) (t_sat (fun _ h => h) (hK () trivial))
           · -- 5
            rintro _ S hF hS D hp K hK
            try dsimp only at hF ⊢
            have s4 := hp 4 rfl
            refine d_need (small := [(16, (.slice bs3 P.length cp4)), (130, (.bool false))]) ⟨look_b rfl rfl, look_row rfl 4 rfl s4, trivial⟩ ?_
            refine t_guard rfl rfl ?_
            refine tp rfl (lv_move rfl) ?_
            exact d_closes ⟨look_b rfl rfl, look_row rfl 4 rfl s4, trivial⟩ 5 rfl rfl rfl hS (AgreeR.refl _) (t_sat (fun _ h => h) (hK () trivial))
           · -- 6
            rintro _ S hF hS D hp K hK
            try dsimp only at hF ⊢
            have s4 := hp 4 rfl
            refine d_need (small := [(18, (.int .i64 (((wantN al.length N E al tl il rl i).2.length : Nat) : Int))), (130, (.bool false))]) ⟨look_b rfl rfl, look_row rfl 4 rfl s4, trivial⟩ ?_
            refine t_guard rfl rfl ?_
            refine tp rfl (lv_move rfl) ?_
            exact d_closes ⟨look_b rfl rfl, look_row rfl 4 rfl s4, trivial⟩ 6 rfl rfl rfl hS (AgreeR.refl _) (t_sat (fun _ h => h) (hK () trivial))
           · -- 7
            rintro _ S hF hS D hp K hK
            try dsimp only at hF ⊢
            have s4 := hp 4 rfl
            have s5 := hp 5 rfl
            have s6 := hp 6 rfl
            refine d_need (small := [(130, (.bool false)), (131, (.slice bs3 P.length cp4)), (132, (.int .i64 (((wantN al.length N E al tl il rl i).2.length : Nat) : Int)))]) ⟨look_row rfl 4 rfl s4, look_row rfl 5 rfl s5, look_row rfl 6 rfl s6, trivial⟩ ?_
            refine t_guard rfl rfl ?_
            refine tp rfl (lv_indexAddr (k' := ((wantN al.length N E al tl il rl i).2.length) * 2) Tryd.underlying38 Tryd.sizeOf46 rfl rfl hok7 (by omega) (by omega) (by omega)) ?_
            exact d_closes ⟨look_row rfl 4 rfl s4, look_row rfl 5 rfl s5, look_row rfl 6 rfl s6, trivial⟩ 7 rfl rfl rfl hS (AgreeR.refl _) (t_sat (fun _ h => h) (hK () trivial))
           · -- 8
            rintro _ S hF hS D hp K hK
            try dsimp only at hF ⊢
            have s4 := hp 4 rfl
            have s7 := hp 7 rfl
            refine d_need (small := [(130, (.bool false)), (133, (.pointer (some (ad bs3 (((wantN al.length N E al tl il rl i).2.length) * 2)))))]) ⟨look_row rfl 4 rfl s4, look_row rfl 7 rfl s7, trivial⟩ ?_
            refine t_guard rfl rfl ?_
            refine tp rfl (lv_fieldAddr_ad (o' := ((wantN al.length N E al tl il rl i).2.length) * 2) Tryd.underlying46 rfl Tryd.sizeOf3 rfl rfl) ?_
            exact d_closes ⟨look_row rfl 4 rfl s4, look_row rfl 7 rfl s7, trivial⟩ 8 rfl rfl rfl hS (AgreeR.refl _) (t_sat (fun _ h => h) (hK () trivial))
           · -- 9
            rintro _ S hF hS D hp K hK
            try dsimp only at hF ⊢
            have s4 := hp 4 rfl
            have s8 := hp 8 rfl
            refine d_need (small := [(130, (.bool false)), (134, (.pointer (some (ad bs3 (((wantN al.length N E al tl il rl i).2.length) * 2)))))]) ⟨look_row rfl 4 rfl s4, look_row rfl 8 rfl s8, trivial⟩ ?_
            refine t_guard rfl rfl ?_
            refine tp rfl (lv_load Tryd.isAgg3 rfl (gives_sl (.head _) (pairs_get0 (by omega)))) ?_
            exact d_closes ⟨look_row rfl 4 rfl s4, look_row rfl 8 rfl s8, trivial⟩ 9 rfl rfl rfl hS (AgreeR.refl _) (t_sat (fun _ h => h) (hK () trivial))
           · -- 10
            rintro _ S hF hS D hp K hK
            try dsimp only at hF ⊢
            have s4 := hp 4 rfl
            refine d_need (small := [(4, (.slice bib n2 cib)), (130, (.bool false))]) ⟨look_b rfl rfl, look_row rfl 4 rfl s4, trivial⟩ ?_
            refine t_guard rfl rfl ?_
            refine tp rfl (lv_move rfl) ?_
            exact d_closes ⟨look_b rfl rfl, look_row rfl 4 rfl s4, trivial⟩ 10 rfl rfl rfl hS (AgreeR.refl _) (t_sat (fun _ h => h) (hK () trivial))
           · -- 11
            rintro _ S hF hS D hp K hK
            try dsimp only at hF ⊢
            have s4 := hp 4 rfl
            refine d_need (small := [(19, (.int .i64 ((i : Nat) : Int))), (130, (.bool false))]) ⟨look_b rfl rfl, look_row rfl 4 rfl s4, trivial⟩ ?_
            refine t_guard rfl rfl ?_
            refine tp rfl (lv_move rfl) ?_
            exact d_closes ⟨look_b rfl rfl, look_row rfl 4 rfl s4, trivial⟩ 11 rfl rfl rfl hS (AgreeR.refl _) (t_sat (fun _ h => h) (hK () trivial))
           · -- 12
            rintro _ S hF hS D hp K hK
            try dsimp only at hF ⊢
            have s4 := hp 4 rfl
            have s10 := hp 10 rfl
            have s11 := hp 11 rfl
            refine d_need (small := [(130, (.bool false)), (136, (.slice bib n2 cib)), (137, (.int .i64 ((i : Nat) : Int)))]) ⟨look_row rfl 4 rfl s4, look_row rfl 10 rfl s10, look_row rfl 11 rfl s11, trivial⟩ ?_
            refine t_guard rfl rfl ?_
            refine tp rfl (lv_indexAddr (k' := i) Tryd.underlying22 Tryd.sizeOf3 rfl rfl (fun hz => okib (by omega)) (by omega) (by omega) (by omega)) ?_
            exact d_closes ⟨look_row rfl 4 rfl s4, look_row rfl 10 rfl s10, look_row rfl 11 rfl s11, trivial⟩ 12 rfl rfl rfl hS (AgreeR.refl _) (t_sat (fun _ h => h) (hK () trivial))
           · -- 13
            rintro _ S hF hS D hp K hK
            try dsimp only at hF ⊢
            have s4 := hp 4 rfl
            have s12 := hp 12 rfl
            refine d_need (small := [(130, (.bool false)), (138, (.pointer (some (ad bib i))))]) ⟨look_row rfl 4 rfl s4, look_row rfl 12 rfl s12, trivial⟩ ?_
            refine t_guard rfl rfl ?_
            refine tp rfl (lv_load Tryd.isAgg3 rfl (Rd.gives (Rd.cons (Rd.cons (Rd.cons rdib))) (ints_get (by first | omega | (simp; omega))))) ?_
            exact d_closes ⟨look_row rfl 4 rfl s4, look_row rfl 12 rfl s12, trivial⟩ 13 rfl rfl rfl hS (AgreeR.refl _) (t_sat (fun _ h => h) (hK () trivial))
           · -- 14
            rintro _ S hF hS D hp K hK
            try dsimp only at hF ⊢
            have s4 := hp 4 rfl
            have s9 := hp 9 rfl
            have s13 := hp 13 rfl
            refine d_need (small := [(130, (.bool false)), (135, (.int .i64 (((P).getD ((wantN al.length N E al tl il rl i).2.length) (0, 0)).1))), (139, (.int .i64 ((il).getD i 0)))]) ⟨look_row rfl 4 rfl s4, look_row rfl 9 rfl s9, look_row rfl 13 rfl s13, trivial⟩ ?_
            refine t_guard rfl rfl ?_
            refine tp rfl (lv_neq rfl rfl (bne_eq_false_iff_eq.2 (by rw [hp1]))) ?_
            exact d_closes ⟨look_row rfl 4 rfl s4, look_row rfl 9 rfl s9, look_row rfl 13 rfl s13, trivial⟩ 14 rfl rfl rfl hS (AgreeR.refl _) (t_sat (fun _ h => h) (hK () trivial))
           · -- 15
            rintro _ S hF hS D hp K hK
            try dsimp only at hF ⊢
            have s4 := hp 4 rfl
            have s14 := hp 14 rfl
            refine d_need (small := [(130, (.bool false)), (140, (.bool false))]) ⟨look_row rfl 4 rfl s4, look_row rfl 14 rfl s14, trivial⟩ ?_
            refine tp rfl (lv_pick_f rfl rfl) ?_
            exact d_closes ⟨look_row rfl 4 rfl s4, look_row rfl 14 rfl s14, trivial⟩ 15 rfl rfl rfl hS (AgreeR.refl _) (t_sat (fun _ h => h) (hK () trivial))
           · -- 16
            rintro _ S hF hS D hp K hK
            try dsimp only at hF ⊢
            have s15 := hp 15 rfl
            refine d_need (small := [(141, (.bool false))]) ⟨look_row rfl 15 rfl s15, trivial⟩ ?_
            refine tp rfl (lv_move rfl) ?_
            exact d_closes ⟨look_row rfl 15 rfl s15, trivial⟩ 16 rfl rfl rfl hS (AgreeR.refl _) (t_sat (fun _ h => h) (hK () trivial))
           · -- 17
            rintro _ S hF hS D hp K hK
            try dsimp only at hF ⊢
            have s16 := hp 16 rfl
            refine d_need (small := [(17, (.slice bs5 Q.length cp6)), (142, (.bool false))]) ⟨look_b rfl rfl, look_row rfl 16 rfl s16, trivial⟩ ?_
            refine t_guard rfl rfl ?_
            refine tp rfl (lv_move rfl) ?_
            exact d_closes ⟨look_b rfl rfl, look_row rfl 16 rfl s16, trivial⟩ 17 rfl rfl rfl hS (AgreeR.refl _) (t_sat (fun _ h => h) (hK () trivial))
           · -- 18
            rintro _ S hF hS D hp K hK
            try dsimp only at hF ⊢
            have s16 := hp 16 rfl
            refine d_need (small := [(18, (.int .i64 (((wantN al.length N E al tl il rl i).2.length : Nat) : Int))), (142, (.bool false))]) ⟨look_b rfl rfl, look_row rfl 16 rfl s16, trivial⟩ ?_
            refine t_guard rfl rfl ?_
            refine tp rfl (lv_move rfl) ?_
            exact d_closes ⟨look_b rfl rfl, look_row rfl 16 rfl s16, trivial⟩ 18 rfl rfl rfl hS (AgreeR.refl _) (t_sat (fun _ h => h) (hK () trivial))
           · -- 19
            rintro _ S hF hS D hp K hK
            try dsimp only at hF ⊢
            have s16 := hp 16 rfl
            have s17 := hp 17 rfl
            have s18 := hp 18 rfl
            refine d_need (small := [(142, (.bool false)), (143, (.slice bs5 Q.length cp6)), (144, (.int .i64 (((wantN al.length N E al tl il rl i).2.length : Nat) : Int)))]) ⟨look_row rfl 16 rfl s16, look_row rfl 17 rfl s17, look_row rfl 18 rfl s18, trivial⟩ ?_
            refine t_guard rfl rfl ?_
            refine tp rfl (lv_indexAddr (k' := (wantN al.length N E al tl il rl i).2.length) Tryd.underlying22 Tryd.sizeOf3 rfl rfl hok9 (by omega) (by omega) (by omega)) ?_
            exact d_closes ⟨look_row rfl 16 rfl s16, look_row rfl 17 rfl s17, look_row rfl 18 rfl s18, trivial⟩ 19 rfl rfl rfl hS (AgreeR.refl _) (t_sat (fun _ h => h) (hK () trivial))
           · -- 20
            rintro _ S hF hS D hp K hK
            try dsimp only at hF ⊢
            have s16 := hp 16 rfl
            have s19 := hp 19 rfl
            refine d_need (small := [(142, (.bool false)), (145, (.pointer (some (ad bs5 ((wantN al.length N E al tl il rl i).2.length)))))]) ⟨look_row rfl 16 rfl s16, look_row rfl 19 rfl s19, trivial⟩ ?_
            refine t_guard rfl rfl ?_
            refine tp rfl (lv_load Tryd.isAgg3 rfl (gives_sl (.tail _ (.head _)) (ints_get (by omega)))) ?_
            exact d_closes ⟨look_row rfl 16 rfl s16, look_row rfl 19 rfl s19, trivial⟩ 20 rfl rfl rfl hS (AgreeR.refl _) (t_sat (fun _ h => h) (hK () trivial))
           · -- 21
            rintro _ S hF hS D hp K hK
            try dsimp only at hF ⊢
            have s16 := hp 16 rfl
            refine d_need (small := [(20, (.int .i64 v)), (142, (.bool false))]) ⟨look_b rfl rfl, look_row rfl 16 rfl s16, trivial⟩ ?_
            refine t_guard rfl rfl ?_
            refine tp rfl (lv_move rfl) ?_
            exact d_closes ⟨look_b rfl rfl, look_row rfl 16 rfl s16, trivial⟩ 21 rfl rfl rfl hS (AgreeR.refl _) (t_sat (fun _ h => h) (hK () trivial))
           · -- 22
            rintro _ S hF hS D hp K hK
            try dsimp only at hF ⊢
            have s16 := hp 16 rfl
            have s20 := hp 20 rfl
            have s21 := hp 21 rfl
            refine d_need (small := [(142, (.bool false)), (146, (.int .i64 ((Q).getD ((wantN al.length N E al tl il rl i).2.length) 0))), (147, (.int .i64 v))]) ⟨look_row rfl 16 rfl s16, look_row rfl 20 rfl s20, look_row rfl 21 rfl s21, trivial⟩ ?_
            refine t_guard rfl rfl ?_
            refine tp rfl (lv_neq rfl rfl (bne_eq_false_iff_eq.2 hq1)) ?_
            exact d_closes ⟨look_row rfl 16 rfl s16, look_row rfl 20 rfl s20, look_row rfl 21 rfl s21, trivial⟩ 22 rfl rfl rfl hS (AgreeR.refl _) (t_sat (fun _ h => h) (hK () trivial))
           · -- 23
            rintro _ S hF hS D hp K hK
            try dsimp only at hF ⊢
            have s16 := hp 16 rfl
            have s22 := hp 22 rfl
            refine d_need (small := [(142, (.bool false)), (148, (.bool false))]) ⟨look_row rfl 16 rfl s16, look_row rfl 22 rfl s22, trivial⟩ ?_
            refine tp rfl (lv_pick_f rfl rfl) ?_
            exact d_closes ⟨look_row rfl 16 rfl s16, look_row rfl 22 rfl s22, trivial⟩ 23 rfl rfl rfl hS (AgreeR.refl _) (t_sat (fun _ h => h) (hK () trivial))
           · -- 24
            rintro _ S hF hS D hp K hK
            try dsimp only at hF ⊢
            have s23 := hp 23 rfl
            refine d_need (small := [(149, (.bool false))]) ⟨look_row rfl 23 rfl s23, trivial⟩ ?_
            refine tp rfl (lv_move rfl) ?_
            exact d_closes ⟨look_row rfl 23 rfl s23, trivial⟩ 24 rfl rfl rfl hS (AgreeR.refl _) (t_sat (fun _ h => h) (hK () trivial))
           · -- 25
            rintro _ S hF hS D hp K hK
            try dsimp only at hF ⊢
            have s24 := hp 24 rfl
            refine d_need (small := [(16, (.slice bs3 P.length cp4)), (150, (.bool false))]) ⟨look_b rfl rfl, look_row rfl 24 rfl s24, trivial⟩ ?_
            refine t_guard rfl rfl ?_
            refine tp rfl (lv_move rfl) ?_
            exact d_closes ⟨look_b rfl rfl, look_row rfl 24 rfl s24, trivial⟩ 25 rfl rfl rfl hS (AgreeR.refl _) (t_sat (fun _ h => h) (hK () trivial))
           · -- 26
            rintro _ S hF hS D hp K hK
            try dsimp only at hF ⊢
            have s24 := hp 24 rfl
            refine d_need (small := [(18, (.int .i64 (((wantN al.length N E al tl il rl i).2.length : Nat) : Int))), (150, (.bool false))]) ⟨look_b rfl rfl, look_row rfl 24 rfl s24, trivial⟩ ?_
            refine t_guard rfl rfl ?_
            refine tp rfl (lv_move rfl) ?_
            exact d_closes ⟨look_b rfl rfl, look_row rfl 24 rfl s24, trivial⟩ 26 rfl rfl rfl hS (AgreeR.refl _) (t_sat (fun _ h => h) (hK () trivial))
           · -- 27
            rintro _ S hF hS D hp K hK
            try dsimp only at hF ⊢
            have s24 := hp 24 rfl
            have s25 := hp 25 rfl
            have s26 := hp 26 rfl
            refine d_need (small := [(150, (.bool false)), (151, (.slice bs3 P.length cp4)), (152, (.int .i64 (((wantN al.length N E al tl il rl i).2.length : Nat) : Int)))]) ⟨look_row rfl 24 rfl s24, look_row rfl 25 rfl s25, look_row rfl 26 rfl s26, trivial⟩ ?_
            refine t_guard rfl rfl ?_
            refine tp rfl (lv_indexAddr (k' := ((wantN al.length N E al tl il rl i).2.length) * 2) Tryd.underlying38 Tryd.sizeOf46 rfl rfl hok7 (by omega) (by omega) (by omega)) ?_
            exact d_closes ⟨look_row rfl 24 rfl s24, look_row rfl 25 rfl s25, look_row rfl 26 rfl s26, trivial⟩ 27 rfl rfl rfl hS (AgreeR.refl _) (t_sat (fun _ h => h) (hK () trivial))
           · -- 28
            rintro _ S hF hS D hp K hK
            try dsimp only at hF ⊢
            have s24 := hp 24 rfl
            have s27 := hp 27 rfl
            refine d_need (small := [(150, (.bool false)), (153, (.pointer (some (ad bs3 (((wantN al.length N E al tl il rl i).2.length) * 2)))))]) ⟨look_row rfl 24 rfl s24, look_row rfl 27 rfl s27, trivial⟩ ?_
            refine t_guard rfl rfl ?_
            refine tp rfl (lv_fieldAddr_ad (o' := ((wantN al.length N E al tl il rl i).2.length) * 2 + 1) Tryd.underlying46 rfl Tryd.sizeOf3 rfl rfl) ?_
            exact d_closes ⟨look_row rfl 24 rfl s24, look_row rfl 27 rfl s27, trivial⟩ 28 rfl rfl rfl hS (AgreeR.refl _) (t_sat (fun _ h => h) (hK () trivial))
           · -- 29
            rintro _ S hF hS D hp K hK
            try dsimp only at hF ⊢
            have s24 := hp 24 rfl
            have s28 := hp 28 rfl
            refine d_need (small := [(150, (.bool false)), (154, (.pointer (some (ad bs3 (((wantN al.length N E al tl il rl i).2.length) * 2 + 1)))))]) ⟨look_row rfl 24 rfl s24, look_row rfl 28 rfl s28, trivial⟩ ?_
            refine t_guard rfl rfl ?_
            refine tp rfl (lv_load Tryd.isAgg3 rfl (gives_sl (.head _) (pairs_get1 (by omega)))) ?_
            exact d_closes ⟨look_row rfl 24 rfl s24, look_row rfl 28 rfl s28, trivial⟩ 29 rfl rfl rfl hS (AgreeR.refl _) (t_sat (fun _ h => h) (hK () trivial))
           · -- 30
            rintro _ S hF hS D hp K hK
            try dsimp only at hF ⊢
            have s24 := hp 24 rfl
            refine d_need (small := [(3, (.slice bab al.length cab)), (150, (.bool false))]) ⟨look_b rfl rfl, look_row rfl 24 rfl s24, trivial⟩ ?_
            refine t_guard rfl rfl ?_
            refine tp rfl (lv_move rfl) ?_
            exact d_closes ⟨look_b rfl rfl, look_row rfl 24 rfl s24, trivial⟩ 30 rfl rfl rfl hS (AgreeR.refl _) (t_sat (fun _ h => h) (hK () trivial))
           · -- 31
            rintro _ S hF hS D hp K hK
            try dsimp only at hF ⊢
            have s24 := hp 24 rfl
            refine d_need (small := [(20, (.int .i64 v)), (150, (.bool false))]) ⟨look_b rfl rfl, look_row rfl 24 rfl s24, trivial⟩ ?_
            refine t_guard rfl rfl ?_
            refine tp rfl (lv_move rfl) ?_
            exact d_closes ⟨look_b rfl rfl, look_row rfl 24 rfl s24, trivial⟩ 31 rfl rfl rfl hS (AgreeR.refl _) (t_sat (fun _ h => h) (hK () trivial))
           · -- 32
            rintro _ S hF hS D hp K hK
            try dsimp only at hF ⊢
            have s24 := hp 24 rfl
            have s30 := hp 30 rfl
            have s31 := hp 31 rfl
            refine d_need (small := [(150, (.bool false)), (156, (.slice bab al.length cab)), (157, (.int .i64 v))]) ⟨look_row rfl 24 rfl s24, look_row rfl 30 rfl s30, look_row rfl 31 rfl s31, trivial⟩ ?_
            refine t_guard rfl rfl ?_
            refine tp rfl (lv_indexAddr (k' := v.toNat * 2) Tryd.underlying24 Tryd.sizeOf51 rfl rfl okab (by omega) (by omega) (by omega)) ?_
            exact d_closes ⟨look_row rfl 24 rfl s24, look_row rfl 30 rfl s30, look_row rfl 31 rfl s31, trivial⟩ 32 rfl rfl rfl hS (AgreeR.refl _) (t_sat (fun _ h => h) (hK () trivial))
           · -- 33
            rintro _ S hF hS D hp K hK
            try dsimp only at hF ⊢
            have s24 := hp 24 rfl
            have s32 := hp 32 rfl
            refine d_need (small := [(150, (.bool false)), (158, (.pointer (some (ad bab (v.toNat * 2)))))]) ⟨look_row rfl 24 rfl s24, look_row rfl 32 rfl s32, trivial⟩ ?_
            refine t_guard rfl rfl ?_
            refine tp rfl (lv_fieldAddr_ad (o' := v.toNat * 2 + 1) Tryd.underlying51 rfl Tryd.sizeOf3 rfl rfl) ?_
            exact d_closes ⟨look_row rfl 24 rfl s24, look_row rfl 32 rfl s32, trivial⟩ 33 rfl rfl rfl hS (AgreeR.refl _) (t_sat (fun _ h => h) (hK () trivial))
           · -- 34
            rintro _ S hF hS D hp K hK
            try dsimp only at hF ⊢
            have s24 := hp 24 rfl
            have s33 := hp 33 rfl
            refine d_need (small := [(150, (.bool false)), (159, (.pointer (some (ad bab (v.toNat * 2 + 1)))))]) ⟨look_row rfl 24 rfl s24, look_row rfl 33 rfl s33, trivial⟩ ?_
            refine t_guard rfl rfl ?_
            refine tp rfl (lv_load Tryd.isAgg3 rfl (Rd.gives (Rd.cons (Rd.cons (Rd.cons hab))) (pairs_get1 (by omega)))) ?_
            exact d_closes ⟨look_row rfl 24 rfl s24, look_row rfl 33 rfl s33, trivial⟩ 34 rfl rfl rfl hS (AgreeR.refl _) (t_sat (fun _ h => h) (hK () trivial))
           · -- 35
            rintro _ S hF hS D hp K hK
            try dsimp only at hF ⊢
            have s24 := hp 24 rfl
            have s29 := hp 29 rfl
            have s34 := hp 34 rfl
            refine d_need (small := [(150, (.bool false)), (155, (.int .i64 (((P).getD ((wantN al.length N E al tl il rl i).2.length) (0, 0)).2))), (160, (.int .i64 (((al).getD v.toNat (0, 0)).2)))]) ⟨look_row rfl 24 rfl s24, look_row rfl 29 rfl s29, look_row rfl 34 rfl s34, trivial⟩ ?_
            refine t_guard rfl rfl ?_
            refine tp rfl (lv_neq rfl rfl (bne_eq_false_iff_eq.2 (by rw [hp1]))) ?_
            exact d_closes ⟨look_row rfl 24 rfl s24, look_row rfl 29 rfl s29, look_row rfl 34 rfl s34, trivial⟩ 35 rfl rfl rfl hS (AgreeR.refl _) (t_sat (fun _ h => h) (hK () trivial))
           · -- 36
            rintro _ S hF hS D hp K hK
            try dsimp only at hF ⊢
            have s24 := hp 24 rfl
            have s35 := hp 35 rfl
            refine d_need (small := [(150, (.bool false)), (161, (.bool false))]) ⟨look_row rfl 24 rfl s24, look_row rfl 35 rfl s35, trivial⟩ ?_
            refine tp rfl (lv_pick_f rfl rfl) ?_
            exact d_closes ⟨look_row rfl 24 rfl s24, look_row rfl 35 rfl s35, trivial⟩ 36 rfl rfl rfl hS (AgreeR.refl _) (t_sat (fun _ h => h) (hK () trivial))
          · -- behind
           rintro _ hF
           try dsimp only at hF ⊢
           refine t_weak (E' := [(0, (.int .i64 n)), (1, (.slice beb es.length ceb)), (2, (.slice btb n1 ctb)), (3, (.slice bab al.length cab)), (4, (.slice bib n2 cib)), (5, (.slice brb n3 crb)), (13, (.bool true)), (14, (.pointer (some ⟨p1, 0, none⟩))), (15, (.int .i64 ((k : Nat) : Int))), (16, (.slice bs3 P.length cp4)), (17, (.slice bs5 Q.length cp6)), (18, (.int .i64 (((wantN al.length N E al tl il rl i).2.length : Nat) : Int))), (19, (.int .i64 ((i : Nat) : Int))), (20, (.int .i64 v)), (21, (.int .i64 ((j : Nat) : Int))), (28, (.bool false)), (36, (.bool false)), (79, (.bool false)), (89, (.bool true)), (95, (.bool false)), (125, (.bool false)), (162, (.bool false))]) ⟨rfl, rfl, rfl, rfl, rfl, rfl, rfl, rfl, rfl, rfl, rfl, rfl, rfl, rfl, rfl, rfl, rfl, rfl, rfl, rfl, rfl, rfl, trivial⟩ ?_
           refine q_then_n (hK33 _ _ ?_)
           refine c_false rfl ?_
           refine c_skip ?_
           refine q_then_n (hK32 _ _ ?_)
           refine c_region ?_
           refine tp rfl (lv_move rfl) ?_
           refine tp rfl (lv_add (c := (((wantN al.length N E al tl il rl i).2.length + 1 : Nat) : Int)) rfl rfl (wr_i64_succ (by omega))) ?_
           refine tp rfl (lv_assign rfl) ?_
           refine t_done ?_
           refine q_in_n ?_
           refine q_then_n (hK23 _ _ ?_)
           refine c_region ?_
           refine tp rfl (lv_move rfl) ?_
           refine tp rfl (lv_add (c := ((i + 1 : Nat) : Int)) rfl rfl (wr_i64_succ (by omega))) ?_
           refine tp rfl (lv_assign rfl) ?_
           refine t_done ?_
           refine q_then_n ?_
           exact t_weak (by exact ⟨rfl, rfl, rfl, rfl, rfl, rfl, rfl, rfl, rfl, rfl, rfl, (by rw [want_stepyes hj0]; rfl), rfl, rfl, rfl, rfl, trivial⟩) ((hK20 (i + 1) (by omega) (by omega)))
      · -- not both
        refine t_cut0 (E' := [(0, (.int .i64 n)), (1, (.slice beb es.length ceb)), (2, (.slice btb n1 ctb)), (3, (.slice bab al.length cab)), (4, (.slice bib n2 cib)), (5, (.slice brb n3 crb)), (13, (.bool true)), (14, (.pointer (some ⟨p1, 0, none⟩))), (15, (.int .i64 ((k : Nat) : Int))), (16, (.slice bs3 P.length cp4)), (17, (.slice bs5 Q.length cp6)), (18, (.int .i64 (((wantN al.length N E al tl il rl i).2.length : Nat) : Int))), (19, (.int .i64 ((i : Nat) : Int))), (28, (.bool false)), (36, (.bool false)), (79, (.bool false)), (89, (.bool false))]) ?_ (fun KK hKK => ?_)
        ·
         refine q_then_n (hK22 _ _ ?_)
         refine c_false rfl ?_
         refine c_exit ?_
         refine q_then_x ?_
         refine q_then_x ?_
         refine q_in_x ?_
         refine q_then_n (hK18 _ _ ?_)
         refine c_seq (fun K23 hK23 => ?_)
         refine c_region ?_
         refine tp rfl (lv_move rfl) ?_
         refine tp rfl (lv_move rfl) ?_
         refine t_guard rfl rfl ?_
         refine tp rfl (lv_move rfl) ?_
         refine t_guard rfl rfl ?_
         refine tp rfl (lv_move rfl) ?_
         refine t_guard rfl rfl ?_
         refine tp rfl (lv_len Tryd.underlying38 rfl rfl) ?_
         refine t_guard rfl rfl ?_
         refine tp rfl (lv_eql rfl rfl (beq_iff_eq.2 (by rw [show i = m1 by omega, hQ]; omega))) ?_
         refine tp rfl (lv_pick_t rfl rfl) ?_
         refine tp rfl (lv_assign rfl) ?_
         refine t_done ?_
         refine q_then_n (hK23 _ _ ?_)
         refine c_ret ?_
         refine t_drop ?_
         refine t_drop ?_
         refine t_drop ?_
         refine q_ret rfl rfl ?_
         exact ⟨rfl, rfl⟩
        · -- which
         by_cases hc11A : ((i : Nat) : Int) < ((n2 : Nat) : Int)
         ·
          have hc11B : ¬ (((i : Nat) : Int) < ((n3 : Nat) : Int)) := fun hh => hc11 ⟨hc11A, hh⟩
          refine tp rfl (lv_move rfl) ?_
          refine tp rfl (lv_move rfl) ?_
          refine tp rfl (lv_len Tryd.underlying22 rfl rfl) ?_
          refine tp rfl (lv_lss rfl rfl (decide_eq_true hc11A)) ?_
          refine tp rfl (lv_move rfl) ?_
          refine t_guard rfl rfl ?_
          refine tp rfl (lv_move rfl) ?_
          refine t_guard rfl rfl ?_
          refine tp rfl (lv_move rfl) ?_
          refine t_guard rfl rfl ?_
          refine tp rfl (lv_len Tryd.underlying22 rfl rfl) ?_
          refine t_guard rfl rfl ?_
          refine tp rfl (lv_lss rfl rfl (decide_eq_false hc11B)) ?_
          refine tp rfl (lv_pick_t rfl rfl) ?_
          exact t_done (t_weak (by exact ⟨rfl, rfl, rfl, rfl, rfl, rfl, rfl, rfl, rfl, rfl, rfl, rfl, rfl, rfl, rfl, rfl, rfl, trivial⟩) hKK)
         ·
          refine tp rfl (lv_move rfl) ?_
          refine tp rfl (lv_move rfl) ?_
          refine tp rfl (lv_len Tryd.underlying22 rfl rfl) ?_
          refine tp rfl (lv_lss rfl rfl (decide_eq_false hc11A)) ?_
          refine tp rfl (lv_move rfl) ?_
          refine t_skip rfl rfl rfl ?_
          refine t_skip rfl rfl rfl ?_
          refine t_skip rfl rfl rfl ?_
          refine t_skip rfl rfl rfl ?_
          refine tp rfl (lv_pick_f rfl rfl) ?_
          exact t_done (t_weak (by exact ⟨rfl, rfl, rfl, rfl, rfl, rfl, rfl, rfl, rfl, rfl, rfl, rfl, rfl, rfl, rfl, rfl, rfl, trivial⟩) hKK)
    · -- which
      by_cases hc2A : ((k : Nat) : Int) < ((es.length : Nat) : Int)
      ·
        have hc2B : ¬ (((k : Nat) : Int) < 100) := fun hh => hc2 ⟨hc2A, hh⟩
        refine tp rfl (lv_move rfl) ?_
        refine tp rfl (lv_move rfl) ?_
        refine tp rfl (lv_len Tryd.underlying23 rfl rfl) ?_
        refine tp rfl (lv_lss rfl rfl (decide_eq_true hc2A)) ?_
        refine tp rfl (lv_move rfl) ?_
        refine t_guard rfl rfl ?_
        refine tp rfl (lv_move rfl) ?_
        refine t_guard rfl rfl ?_
        refine tp rfl (lv_lss rfl rfl (decide_eq_false hc2B)) ?_
        refine tp rfl (lv_pick_t rfl rfl) ?_
        exact t_done (t_weak (by exact ⟨rfl, rfl, rfl, rfl, rfl, rfl, rfl, rfl, rfl, rfl, rfl, rfl, trivial⟩) hKK)
      ·
        refine tp rfl (lv_move rfl) ?_
        refine tp rfl (lv_move rfl) ?_
        refine tp rfl (lv_len Tryd.underlying23 rfl rfl) ?_
        refine tp rfl (lv_lss rfl rfl (decide_eq_false hc2A)) ?_
        refine tp rfl (lv_move rfl) ?_
        refine t_skip rfl rfl rfl ?_
        refine t_skip rfl rfl rfl ?_
        refine tp rfl (lv_pick_f rfl rfl) ?_
        exact t_done (t_weak (by exact ⟨rfl, rfl, rfl, rfl, rfl, rfl, rfl, rfl, rfl, rfl, rfl, rfl, trivial⟩) hKK)
end Go.Proofs.YtfoiopbjomaclaaDoor
