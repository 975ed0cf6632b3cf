/- Contracts of verdict: the closure that asks all behind. -/
import Derived.Test.YtljnaefaahphaaaVa
set_option maxRecDepth 100000
set_option linter.unusedVariables false
set_option linter.unusedSimpArgs false
namespace Go.Proofs.Ytljnaefaahphaaa
open Go Go.Proofs Sp
set_option maxHeartbeats 4000000 in
theorem of1_step {R : List HP} {N : Nat} {es : List (List Int)} {own : List Int} {be bo : Option Addr} {ce co : Nat} {e8 e1 e4 e5 e9 cx cb : Nat} {bx bb : Option Addr} (hfo : FOk N es own) (hG : GridR R be es) (hbe : SlOk be N) (ho : Rd R bo (ints .i64 own)) (hbo : SlOk bo N) (hlx : ∀ l ∈ es, l.length ≤ 1000000) (hbb : SlOk bb N) (hrb : Rd R bb (ints .u64 (nI (behN es N)))) (hbx : SlOk bx N) (g8 : Gives R ⟨e8, 0, none⟩ (.slice bx N cx)) (g11 : Gives R ⟨e1, 1, none⟩ (.slice be N ce)) (g12 : Gives R ⟨e1, 2, none⟩ (.slice bo N co)) (g4 : Gives R ⟨e4, 0, none⟩ (.slice bb N cb)) (g5 : Gives R ⟨e5, 0, none⟩ (.int .u64 ((rndN (behN es N) N : Nat) : Int))) (g9 : Gives R ⟨e9, 0, none⟩ (.func (.func 18) #[] #[(.pointer (some ⟨e8, 0, none⟩)), (.pointer (some ⟨e1, 0, none⟩)), (.pointer (some ⟨e4, 0, none⟩)), (.pointer (some ⟨e5, 0, none⟩)), (.pointer (some ⟨e9, 0, none⟩))])) (x : Int) (o : List Int) (hx : 0 ≤ x ∧ x < N) (hlo : o.length = N) (hfit : Fit es own x.toNat o) (ih : ∀ (y : Int) (p : List Int), 0 ≤ y ∧ y < N → rk es y.toNat < rk es x.toNat → p.length = N → Fit es own y.toNat p → Ok Try.prog 18 [(.int .i64 y), (.pointer (some ⟨e8, 0, none⟩)), (.pointer (some ⟨e1, 0, none⟩)), (.pointer (some ⟨e4, 0, none⟩)), (.pointer (some ⟨e5, 0, none⟩)), (.pointer (some ⟨e9, 0, none⟩))] (SlV 3 1 (.slice bx N cx) N (ints .i64 p) :: R) (fun v M => ∃ o' : List Int, o'.length = N ∧ o'.getD y.toNat 0 = ver es own y.toNat ∧ Grew es own y.toNat p o' ∧ v = .int .i64 (ver es own y.toNat) ∧ M = SlV 3 1 (.slice bx N cx) N (ints .i64 o') :: R)) :
    Ok Try.prog 18 [(.int .i64 x), (.pointer (some ⟨e8, 0, none⟩)), (.pointer (some ⟨e1, 0, none⟩)), (.pointer (some ⟨e4, 0, none⟩)), (.pointer (some ⟨e5, 0, none⟩)), (.pointer (some ⟨e9, 0, none⟩))] ((SlV 3 1 (.slice bx N cx) N (ints .i64 o)) :: R)
      (fun v M => ∃ o' : List Int, o'.length = N ∧ o'.getD x.toNat 0 = ver es own x.toNat ∧ Grew es own x.toNat o o' ∧ v = .int .i64 (ver es own x.toNat) ∧ M = SlV 3 1 (.slice bx N cx) N (ints .i64 o') :: R) := by
 have hsm := hfo.small
 have hel := hfo.le
 have hol := hfo.lo
 have hin := hfo.in_
 obtain ⟨vs, hvl, hvs, hrow⟩ := hG
 refine ok_of (N := 79) Try.func18 rfl rfl rfl (fun W => ?_)
 refine c_seq (fun K1 hK1 => ?_)
 refine c_region ?_
 refine tp rfl (lv_assign rfl) ?_
 refine t_done ?_
 refine q_then_n (hK1 _ _ ?_)
 refine c_seq (fun K2 hK2 => ?_)
 refine c_seq (fun K3 hK3 => ?_)
 refine c_region ?_
 refine tp rfl (lv_load Try.isAgg23 rfl (Gives.cons g8)) ?_
 refine tp rfl (lv_move rfl) ?_
 refine tp rfl (lv_indexAddr (k' := x.toNat) Try.underlying23 Try.sizeOf3 rfl rfl hbx (by omega) (by omega) (by omega)) ?_
 refine tp rfl (lv_load Try.isAgg3 rfl (gives_sl (.head _) (ints_get (by first | omega | (simp; omega))))) ?_
 by_cases hneg : ((o).getD x.toNat 0) = (-1)
 · -- yes
  refine tp rfl (lv_neq rfl rfl (bne_eq_false_iff_eq.2 hneg)) ?_
  refine t_done ?_
  refine q_then_n (hK3 _ _ ?_)
  refine c_false rfl ?_
  refine c_skip ?_
  refine q_then_n (hK2 _ _ ?_)
  refine c_seq (fun K4 hK4 => ?_)
  refine c_draw (γ := Unit) (n := 9) Try.mixed rfl rfl (fun _ S => True) (fun _ => [(0, 20, (.slice bx N cx)), (1, 21, (.int .i64 x)), (2, 22, (.pointer (some ⟨e1, 2, none⟩))), (3, 23, (.slice bo N co)), (4, 24, (.int .i64 x)), (5, 25, (.pointer (some (ad bo x.toNat)))), (6, 26, (.int .i64 ((own).getD x.toNat 0))), (7, 27, (.pointer (some (ad bx x.toNat))))]) (fun _ S => (bif S 8 then (SlV 3 1 (.slice bx N cx) N (ints .i64 ((o).set x.toNat ((own).getD x.toNat 0)))) else (SlV 3 1 (.slice bx N cx) N (ints .i64 o))) :: R) (()) trivial (fun _ h => h) (fun _ _ h => h) ?_ ?_
  · -- steps
   refine ⟨?_, ?_, ?_, ?_, ?_, ?_, ?_, ?_, ?_, trivial⟩
   · -- 0
    rintro _ S hF hS D hp K hK
    try dsimp only at hF ⊢
    refine d_need (small := [(1, (.pointer (some ⟨e8, 0, none⟩)))]) ⟨look_b rfl rfl, trivial⟩ ?_
    refine tp rfl (lv_load Try.isAgg23 rfl (Gives.cons g8)) ?_
    exact d_closes ⟨look_b rfl rfl, trivial⟩ 0 rfl rfl rfl hS (AgreeR.refl _) (t_sat (fun _ h => h) (hK () trivial))
   · -- 1
    rintro _ S hF hS D hp K hK
    try dsimp only at hF ⊢
    refine d_need (small := [(0, (.int .i64 x))]) ⟨look_b rfl rfl, trivial⟩ ?_
    refine tp rfl (lv_move rfl) ?_
    exact d_closes ⟨look_b rfl rfl, trivial⟩ 1 rfl rfl rfl hS (AgreeR.refl _) (t_sat (fun _ h => h) (hK () trivial))
   · -- 2
    rintro _ S hF hS D hp K hK
    try dsimp only at hF ⊢
    refine d_need (small := [(2, (.pointer (some ⟨e1, 0, none⟩)))]) ⟨look_b rfl rfl, trivial⟩ ?_
    refine tp rfl (lv_fieldAddr (o' := 2) Try.underlying25 rfl Try.sizeOf23 rfl rfl) ?_
    exact d_closes ⟨look_b rfl rfl, trivial⟩ 2 rfl rfl rfl hS (AgreeR.refl _) (t_sat (fun _ h => h) (hK () trivial))
   · -- 3
    rintro _ S hF hS D hp K hK
    try dsimp only at hF ⊢
    have s2 := hp 2 rfl
    refine d_need (small := [(22, (.pointer (some ⟨e1, 2, none⟩)))]) ⟨look_row rfl 2 rfl s2, trivial⟩ ?_
    refine tp rfl (lv_load Try.isAgg23 rfl (Gives.cons g12)) ?_
    exact d_closes ⟨look_row rfl 2 rfl s2, trivial⟩ 3 rfl rfl rfl hS (AgreeR.refl _) (t_sat (fun _ h => h) (hK () trivial))
   · -- 4
    rintro _ S hF hS D hp K hK
    try dsimp only at hF ⊢
    refine d_need (small := [(0, (.int .i64 x))]) ⟨look_b rfl rfl, trivial⟩ ?_
    refine tp rfl (lv_move rfl) ?_
    exact d_closes ⟨look_b rfl rfl, trivial⟩ 4 rfl rfl rfl hS (AgreeR.refl _) (t_sat (fun _ h => h) (hK () trivial))
   · -- 5
    rintro _ S hF hS D hp K hK
    try dsimp only at hF ⊢
    have s3 := hp 3 rfl
    have s4 := hp 4 rfl
    refine d_need (small := [(23, (.slice bo N co)), (24, (.int .i64 x))]) ⟨look_row rfl 3 rfl s3, look_row rfl 4 rfl s4, trivial⟩ ?_
    refine tp rfl (lv_indexAddr (k' := x.toNat) Try.underlying23 Try.sizeOf3 rfl rfl hbo (by omega) (by omega) (by omega)) ?_
    exact d_closes ⟨look_row rfl 3 rfl s3, look_row rfl 4 rfl s4, trivial⟩ 5 rfl rfl rfl hS (AgreeR.refl _) (t_sat (fun _ h => h) (hK () trivial))
   · -- 6
    rintro _ S hF hS D hp K hK
    try dsimp only at hF ⊢
    have s5 := hp 5 rfl
    refine d_need (small := [(25, (.pointer (some (ad bo x.toNat))))]) ⟨look_row rfl 5 rfl s5, trivial⟩ ?_
    refine tp rfl (lv_load Try.isAgg3 rfl (Rd.gives (Rd.cons ho) (ints_get (by first | omega | (simp; omega))))) ?_
    exact d_closes ⟨look_row rfl 5 rfl s5, trivial⟩ 6 rfl rfl rfl hS (AgreeR.refl _) (t_sat (fun _ h => h) (hK () trivial))
   · -- 7
    rintro _ S hF hS D hp K hK
    try dsimp only at hF ⊢
    have s0 := hp 0 rfl
    have s1 := hp 1 rfl
    refine d_need (small := [(20, (.slice bx N cx)), (21, (.int .i64 x))]) ⟨look_row rfl 0 rfl s0, look_row rfl 1 rfl s1, trivial⟩ ?_
    refine tp rfl (lv_indexAddr (k' := x.toNat) Try.underlying23 Try.sizeOf3 rfl rfl hbx (by omega) (by omega) (by omega)) ?_
    exact d_closes ⟨look_row rfl 0 rfl s0, look_row rfl 1 rfl s1, trivial⟩ 7 rfl rfl rfl hS (AgreeR.refl _) (t_sat (fun _ h => h) (hK () trivial))
   · -- 8
    rintro _ S hF hS D hp K hK
    try dsimp only at hF ⊢
    have s6 := hp 6 rfl
    have s7 := hp 7 rfl
    refine d_need (small := [(26, (.int .i64 ((own).getD x.toNat 0))), (27, (.pointer (some (ad bx x.toNat))))]) ⟨look_row rfl 6 rfl s6, look_row rfl 7 rfl s7, trivial⟩ ?_
    refine t_cF hS ?_
    refine ts (sv_sl Try.sizeOf3 rfl rfl rfl (by first | (rw [ints_length]; omega) | (simp; omega) | omega) ints_set) ?_
    exact d_closes0 ⟨look_row rfl 6 rfl s6, look_row rfl 7 rfl s7, trivial⟩ rfl (t_sat (fun _ h => h) (hK () trivial))
  · -- behind
   rintro _ hF
   try dsimp only at hF ⊢
   refine t_weak (E' := [(0, (.int .i64 x)), (1, (.pointer (some ⟨e8, 0, none⟩))), (2, (.pointer (some ⟨e1, 0, none⟩))), (3, (.pointer (some ⟨e4, 0, none⟩))), (4, (.pointer (some ⟨e5, 0, none⟩))), (5, (.pointer (some ⟨e9, 0, none⟩))), (7, (.int .i64 0)), (15, (.bool false))]) ⟨rfl, rfl, rfl, rfl, rfl, rfl, rfl, rfl, trivial⟩ ?_
   refine q_then_n (hK4 _ _ ?_)
   refine c_seq (fun K5 hK5 => ?_)
   refine c_seq (fun K6 hK6 => ?_)
   have hgb : (nI (behN es N)).getD x.toNat 0 = (((behN es N).getD x.toNat 0 : Nat) : Int) := nI_get _ _
   have hnl := behN_len' hel N
   refine c_draw (γ := Unit) (n := 7) Try.mixed rfl rfl (fun _ S => True) (fun _ => [(0, 28, (.slice bb N cb)), (1, 29, (.int .i64 x)), (2, 30, (.pointer (some (ad bb x.toNat)))), (3, 31, (.int .u64 (((behN es N).getD x.toNat 0 : Nat) : Int))), (4, 32, (.int .u64 ((rndN (behN es N) N : Nat) : Int))), (5, 33, (.int .u64 (bAnd .u64 (((behN es N).getD x.toNat 0 : Nat) : Int) ((rndN (behN es N) N : Nat) : Int)))), (6, 34, (.bool (cycB es x.toNat)))]) (fun _ S => (SlV 3 1 (.slice bx N cx) N (ints .i64 ((o).set x.toNat ((own).getD x.toNat 0)))) :: R) (()) trivial (fun _ h => h) (fun _ _ h => h) ?_ ?_
   · -- steps
    refine ⟨?_, ?_, ?_, ?_, ?_, ?_, ?_, trivial⟩
    · -- 0
     rintro _ S hF hS D hp K hK
     try dsimp only at hF ⊢
     refine d_need (small := [(3, (.pointer (some ⟨e4, 0, none⟩)))]) ⟨look_b rfl rfl, trivial⟩ ?_
     refine tp rfl (lv_load Try.isAgg43 rfl (Gives.cons g4)) ?_
     exact d_closes ⟨look_b rfl rfl, trivial⟩ 0 rfl rfl rfl hS (AgreeR.refl _) (t_sat (fun _ h => h) (hK () trivial))
    · -- 1
     rintro _ S hF hS D hp K hK
     try dsimp only at hF ⊢
     refine d_need (small := [(0, (.int .i64 x))]) ⟨look_b rfl rfl, trivial⟩ ?_
     refine tp rfl (lv_move rfl) ?_
     exact d_closes ⟨look_b rfl rfl, trivial⟩ 1 rfl rfl rfl hS (AgreeR.refl _) (t_sat (fun _ h => h) (hK () trivial))
    · -- 2
     rintro _ S hF hS D hp K hK
     try dsimp only at hF ⊢
     have s0 := hp 0 rfl
     have s1 := hp 1 rfl
     refine d_need (small := [(28, (.slice bb N cb)), (29, (.int .i64 x))]) ⟨look_row rfl 0 rfl s0, look_row rfl 1 rfl s1, trivial⟩ ?_
     refine tp rfl (lv_indexAddr (k' := x.toNat) Try.underlying43 Try.sizeOf45 rfl rfl hbb (by omega) (by omega) (by omega)) ?_
     exact d_closes ⟨look_row rfl 0 rfl s0, look_row rfl 1 rfl s1, trivial⟩ 2 rfl rfl rfl hS (AgreeR.refl _) (t_sat (fun _ h => h) (hK () trivial))
    · -- 3
     rintro _ S hF hS D hp K hK
     try dsimp only at hF ⊢
     have s2 := hp 2 rfl
     refine d_need (small := [(30, (.pointer (some (ad bb x.toNat))))]) ⟨look_row rfl 2 rfl s2, trivial⟩ ?_
     refine tp rfl (lv_load Try.isAgg45 rfl (gives_as (congrArg (Value.int .u64) hgb) (Rd.gives (Rd.cons hrb) (ints_get (by omega))))) ?_
     exact d_closes ⟨look_row rfl 2 rfl s2, trivial⟩ 3 rfl rfl rfl hS (AgreeR.refl _) (t_sat (fun _ h => h) (hK () trivial))
    · -- 4
     rintro _ S hF hS D hp K hK
     try dsimp only at hF ⊢
     refine d_need (small := [(4, (.pointer (some ⟨e5, 0, none⟩)))]) ⟨look_b rfl rfl, trivial⟩ ?_
     refine tp rfl (lv_load Try.isAgg45 rfl (Gives.cons g5)) ?_
     exact d_closes ⟨look_b rfl rfl, trivial⟩ 4 rfl rfl rfl hS (AgreeR.refl _) (t_sat (fun _ h => h) (hK () trivial))
    · -- 5
     rintro _ S hF hS D hp K hK
     try dsimp only at hF ⊢
     have s3 := hp 3 rfl
     have s4 := hp 4 rfl
     refine d_need (small := [(31, (.int .u64 (((behN es N).getD x.toNat 0 : Nat) : Int))), (32, (.int .u64 ((rndN (behN es N) N : Nat) : Int)))]) ⟨look_row rfl 3 rfl s3, look_row rfl 4 rfl s4, trivial⟩ ?_
     refine tp rfl (lv_and (c := bAnd .u64 (((behN es N).getD x.toNat 0 : Nat) : Int) ((rndN (behN es N) N : Nat) : Int)) rfl rfl rfl) ?_
     exact d_closes ⟨look_row rfl 3 rfl s3, look_row rfl 4 rfl s4, trivial⟩ 5 rfl rfl rfl hS (AgreeR.refl _) (t_sat (fun _ h => h) (hK () trivial))
    · -- 6
     rintro _ S hF hS D hp K hK
     try dsimp only at hF ⊢
     have s5 := hp 5 rfl
     refine d_need (small := [(33, (.int .u64 (bAnd .u64 (((behN es N).getD x.toNat 0 : Nat) : Int) ((rndN (behN es N) N : Nat) : Int))))]) ⟨look_row rfl 5 rfl s5, trivial⟩ ?_
     refine tp rfl (lv_neq rfl rfl (cyc_and hel hsm hin)) ?_
     exact d_closes ⟨look_row rfl 5 rfl s5, trivial⟩ 6 rfl rfl rfl hS (AgreeR.refl _) (t_sat (fun _ h => h) (hK () trivial))
   · -- behind
    rintro _ hF
    try dsimp only at hF ⊢
    refine t_weak (E' := [(0, (.int .i64 x)), (1, (.pointer (some ⟨e8, 0, none⟩))), (2, (.pointer (some ⟨e1, 0, none⟩))), (3, (.pointer (some ⟨e4, 0, none⟩))), (4, (.pointer (some ⟨e5, 0, none⟩))), (5, (.pointer (some ⟨e9, 0, none⟩))), (7, (.int .i64 0)), (15, (.bool false)), (34, (.bool (cycB es x.toNat)))]) ⟨rfl, rfl, rfl, rfl, rfl, rfl, rfl, rfl, rfl, trivial⟩ ?_
    refine q_then_n (hK6 _ _ ?_)
    refine c_split rfl (fun c1 => ?_) (fun c1 => ?_)
    · -- true
     have hctrue := c1
     refine c_seq (fun K7 hK7 => ?_)
     refine c_region ?_
     have hcy := hctrue
     refine tp rfl (lv_load Try.isAgg23 rfl (Gives.cons g8)) ?_
     refine tp rfl (lv_move rfl) ?_
     refine tp rfl (lv_indexAddr (k' := x.toNat) Try.underlying23 Try.sizeOf3 rfl rfl hbx (by omega) (by omega) (by omega)) ?_
     refine ts (sv_sl Try.sizeOf3 rfl rfl rfl (by first | (rw [ints_length]; omega) | (simp; omega) | omega) ints_set) ?_
     refine t_done ?_
     refine q_then_n (hK7 _ _ ?_)
     refine c_seq (fun K8 hK8 => ?_)
     refine c_region ?_
     refine tp rfl (lv_load Try.isAgg23 rfl (Gives.cons g8)) ?_
     refine tp rfl (lv_move rfl) ?_
     refine tp rfl (lv_indexAddr (k' := x.toNat) Try.underlying23 Try.sizeOf3 rfl rfl hbx (by omega) (by omega) (by omega)) ?_
     refine tp rfl (lv_load Try.isAgg3 rfl (gives_sl (.head _) (ints_get (by first | omega | (simp; omega))))) ?_
     refine tp rfl (lv_assign rfl) ?_
     refine t_done ?_
     refine q_then_n (hK8 _ _ ?_)
     refine c_ret ?_
     refine q_then_r ?_
     refine q_ret rfl rfl ?_
     have hend := grew_cyc (x := own.getD x.toNat 0) (own := own) hel hin hcy (show x.toNat < o.length by omega) hneg
     exact ⟨_, by simp [hlo], hend.1, hend.2, by rw [hend.1], rfl⟩
    · -- false
     have hcfalse := c1
     refine c_skip ?_
     refine q_then_n (hK5 _ _ ?_)
     refine c_seq (fun K7 hK7 => ?_)
     refine c_seq (fun K8 hK8 => ?_)
     have hc := hcfalse
     refine c_region ?_
     obtain ⟨bk, ck, hokk, hlek, hvk, hrk⟩ := hrow x.toNat (by omega)
     have hlk := hlx _ (row_at_mem (show x.toNat < es.length by omega))
     have hmid0 := Mid.start (es := es) (own := own) (i := x.toNat) (o := o) (by omega)
     refine tp rfl (lv_fieldAddr (o' := 1) Try.underlying25 rfl Try.sizeOf22 rfl rfl) ?_
     refine tp rfl (lv_load Try.isAgg22 rfl (Gives.cons g11)) ?_
     refine tp rfl (lv_move rfl) ?_
     refine tp rfl (lv_indexAddr (k' := x.toNat) Try.underlying22 Try.sizeOf23 rfl rfl hbe (by omega) (by omega) (by omega)) ?_
     refine tp rfl (lv_load Try.isAgg23 rfl (gives_as hvk (Rd.gives (Rd.cons hvs) (vals_get (by omega))))) ?_
     refine tp rfl (lv_len Try.underlying23 rfl rfl) ?_
     refine tp rfl (lv_move rfl) ?_
     refine t_done ?_
     refine q_then_n (hK8 _ _ ?_)
     refine c_block ?_
     refine c_loop (γ := (Nat) × (List Int)) (fun (k, o2) => k ≤ (es.getD x.toNat []).length ∧ Mid es own x.toNat k o o2) (fun (k, o2) => [(0, (.int .i64 x)), (1, (.pointer (some ⟨e8, 0, none⟩))), (2, (.pointer (some ⟨e1, 0, none⟩))), (3, (.pointer (some ⟨e4, 0, none⟩))), (4, (.pointer (some ⟨e5, 0, none⟩))), (5, (.pointer (some ⟨e9, 0, none⟩))), (7, (.int .i64 0)), (15, (.bool false)), (34, (.bool (cycB es x.toNat))), (46, (.slice bk ((es.getD x.toNat []).length) ck)), (47, (.int .i64 (((es.getD x.toNat []).length : Nat) : Int))), (48, (.int .i64 ((k : Nat) : Int)))]) (fun (k, o2) => (SlV 3 1 (.slice bx N cx) N (ints .i64 o2)) :: R) (fun (k, o2) => (es.getD x.toNat []).length - k) (0, o.set x.toNat (own.getD x.toNat 0)) ⟨by omega, hmid0⟩ ⟨rfl, rfl, rfl, rfl, rfl, rfl, rfl, rfl, rfl, rfl, rfl, rfl, trivial⟩ (fun _ h => h) ?_
     rintro ⟨k, o2⟩ K9 hF hK9
     try dsimp only at hF hK9 ⊢
     obtain ⟨hk, hmid⟩ := hF
     have hl2 := hmid.len
     refine c_seq (fun K10 hK10 => ?_)
     refine c_region ?_
     by_cases h2 : ((k : Nat) : Int) < (((es.getD x.toNat []).length : Nat) : Int)
     · -- yes
      refine tp rfl (lv_lss rfl rfl (decide_eq_true h2)) ?_
      refine t_done ?_
      refine q_then_n (hK10 _ _ ?_)
      refine c_seq (fun K11 hK11 => ?_)
      refine c_true rfl ?_
      refine c_skip ?_
      refine q_then_n (hK11 _ _ ?_)
      refine c_seq (fun K12 hK12 => ?_)
      refine c_block ?_
      refine c_seq (fun K13 hK13 => ?_)
      refine c_region ?_
      refine tp rfl (lv_indexAddr (k' := k) Try.underlying23 Try.sizeOf3 rfl rfl hokk (by omega) (by omega) (by omega)) ?_
      refine tp rfl (lv_load Try.isAgg3 rfl (Rd.gives (Rd.cons hrk) (ints_get (by omega)))) ?_
      refine tp rfl (lv_assign rfl) ?_
      refine t_done ?_
      refine q_then_n (hK13 _ _ ?_)
      refine c_seq (fun K14 hK14 => ?_)
      refine c_region ?_
      refine tp rfl (lv_load Try.isAgg47 rfl (Gives.cons g9)) ?_
      refine tp rfl (lv_move rfl) ?_
      refine tc rfl (en_clo Try.call18 rfl rfl) (ih ((es.getD x.toNat []).getD k 0) o2 (hfo.at_ (by omega)) (rk_lt hel hin (edge_of hin (getD_mem_i (by omega))) hc) (hmid.len.trans (by simpa using hlo)) (hmid.fit hel hin hc hfit (edge_of hin (getD_mem_i (by omega))))) ?_
      rintro _ _ ⟨o3, hl3, hv3, hg3, rfl, rfl⟩
      have hm3 := hmid.grow hel hin hc (edge_of hin (getD_mem_i (k := k) (by omega))) hg3 (hl3.trans (hmid.len.trans (by simpa using hlo)).symm)
      refine tp rfl (lv_assign rfl) ?_
      refine t_done ?_
      refine q_then_n (hK14 _ _ ?_)
      refine c_block ?_
      refine c_seq (fun K15 hK15 => ?_)
      refine c_region ?_
      refine tp rfl (lv_move rfl) ?_
      by_cases h6 : (ver es own ((es.getD x.toNat []).getD k 0).toNat) = 6
      · -- yes
       refine tp rfl (lv_eql rfl rfl (beq_iff_eq.2 h6)) ?_
       refine tp rfl (lv_assign rfl) ?_
       refine t_done ?_
       refine q_then_n (hK15 _ _ ?_)
       refine c_true rfl ?_
       refine c_region ?_
       refine tp rfl (lv_load Try.isAgg23 rfl (Gives.cons g8)) ?_
       refine tp rfl (lv_move rfl) ?_
       refine tp rfl (lv_indexAddr (k' := x.toNat) Try.underlying23 Try.sizeOf3 rfl rfl hbx (by omega) (by omega) (by omega)) ?_
       refine ts (sv_sl Try.sizeOf3 rfl rfl rfl (by first | (rw [ints_length]; omega) | (simp; omega) | omega) ints_set) ?_
       refine t_done ?_
       refine q_in_n ?_
       refine q_in_n ?_
       refine q_then_n (hK12 _ _ ?_)
       refine c_region ?_
       refine tp rfl (lv_add (c := ((k + 1 : Nat) : Int)) rfl rfl (wr_i64_succ (by omega))) ?_
       refine tp rfl (lv_move rfl) ?_
       refine t_done ?_
       refine q_then_n ?_
       exact t_weak (by exact ⟨rfl, rfl, rfl, rfl, rfl, rfl, rfl, rfl, rfl, rfl, rfl, rfl, trivial⟩) ((hK9 (k + 1, (o3).set x.toNat 6) ⟨by omega, hm3.step6 (by rw [hl3]; omega) (by omega) h6⟩ (by dsimp only; omega)))
      · -- no
       refine tp rfl (lv_eql rfl rfl (beq_eq_false_iff_ne.2 h6)) ?_
       refine tp rfl (lv_assign rfl) ?_
       refine t_done ?_
       refine q_then_n (hK15 _ _ ?_)
       refine c_false rfl ?_
       refine c_seq (fun K16 hK16 => ?_)
       refine c_region ?_
       refine tp rfl (lv_move rfl) ?_
       by_cases h0 : (ver es own ((es.getD x.toNat []).getD k 0).toNat) = 0
       · -- yes
        refine tp rfl (lv_eql rfl rfl (beq_iff_eq.2 h0)) ?_
        refine tp rfl (lv_move rfl) ?_
        refine t_guard rfl rfl ?_
        refine tp rfl (lv_load Try.isAgg23 rfl (Gives.cons g8)) ?_
        refine t_guard rfl rfl ?_
        refine tp rfl (lv_move rfl) ?_
        refine t_guard rfl rfl ?_
        refine tp rfl (lv_indexAddr (k' := x.toNat) Try.underlying23 Try.sizeOf3 rfl rfl hbx (by omega) (by omega) (by omega)) ?_
        refine t_guard rfl rfl ?_
        refine tp rfl (lv_load Try.isAgg3 rfl (gives_sl (.head _) (ints_get (by first | omega | (simp; omega))))) ?_
        refine t_guard rfl rfl ?_
        by_cases h5 : ((o3).getD x.toNat 0) = 5
        · -- yes
         refine tp rfl (lv_eql rfl rfl (beq_iff_eq.2 h5)) ?_
         refine tp rfl (lv_pick_t rfl rfl) ?_
         refine tp rfl (lv_assign rfl) ?_
         refine t_done ?_
         refine q_then_n (hK16 _ _ ?_)
         refine c_true rfl ?_
         refine c_region ?_
         refine tp rfl (lv_load Try.isAgg23 rfl (Gives.cons g8)) ?_
         refine tp rfl (lv_move rfl) ?_
         refine tp rfl (lv_indexAddr (k' := x.toNat) Try.underlying23 Try.sizeOf3 rfl rfl hbx (by omega) (by omega) (by omega)) ?_
         refine ts (sv_sl Try.sizeOf3 rfl rfl rfl (by first | (rw [ints_length]; omega) | (simp; omega) | omega) ints_set) ?_
         refine t_done ?_
         refine q_in_n ?_
         refine q_in_n ?_
         refine q_then_n (hK12 _ _ ?_)
         refine c_region ?_
         refine tp rfl (lv_add (c := ((k + 1 : Nat) : Int)) rfl rfl (wr_i64_succ (by omega))) ?_
         refine tp rfl (lv_move rfl) ?_
         refine t_done ?_
         refine q_then_n ?_
         exact t_weak (by exact ⟨rfl, rfl, rfl, rfl, rfl, rfl, rfl, rfl, rfl, rfl, rfl, rfl, trivial⟩) ((hK9 (k + 1, (o3).set x.toNat 0) ⟨by omega, hm3.step0 (by rw [hl3]; omega) (by omega) h0 h5⟩ (by dsimp only; omega)))
        · -- no
         refine tp rfl (lv_eql rfl rfl (beq_eq_false_iff_ne.2 h5)) ?_
         refine tp rfl (lv_pick_t rfl rfl) ?_
         refine tp rfl (lv_assign rfl) ?_
         refine t_done ?_
         refine q_then_n (hK16 _ _ ?_)
         refine c_false rfl ?_
         refine c_skip ?_
         refine q_in_n ?_
         refine q_in_n ?_
         refine q_then_n (hK12 _ _ ?_)
         refine c_region ?_
         refine tp rfl (lv_add (c := ((k + 1 : Nat) : Int)) rfl rfl (wr_i64_succ (by omega))) ?_
         refine tp rfl (lv_move rfl) ?_
         refine t_done ?_
         refine q_then_n ?_
         exact t_weak (by exact ⟨rfl, rfl, rfl, rfl, rfl, rfl, rfl, rfl, rfl, rfl, rfl, rfl, trivial⟩) ((hK9 (k + 1, o3) ⟨by omega, hm3.stepN (by omega) h6 (fun hh => by first | exact h0 hh.1 | exact h5 hh.2)⟩ (by dsimp only; omega)))
       · -- no
        refine tp rfl (lv_eql rfl rfl (beq_eq_false_iff_ne.2 h0)) ?_
        refine tp rfl (lv_move rfl) ?_
        refine t_skip rfl rfl rfl ?_
        refine t_skip rfl rfl rfl ?_
        refine t_skip rfl rfl rfl ?_
        refine t_skip rfl rfl rfl ?_
        refine t_skip rfl rfl rfl ?_
        refine tp rfl (lv_pick_f rfl rfl) ?_
        refine tp rfl (lv_assign rfl) ?_
        refine t_done ?_
        refine q_then_n (hK16 _ _ ?_)
        refine c_false rfl ?_
        refine c_skip ?_
        refine q_in_n ?_
        refine q_in_n ?_
        refine q_then_n (hK12 _ _ ?_)
        refine c_region ?_
        refine tp rfl (lv_add (c := ((k + 1 : Nat) : Int)) rfl rfl (wr_i64_succ (by omega))) ?_
        refine tp rfl (lv_move rfl) ?_
        refine t_done ?_
        refine q_then_n ?_
        exact t_weak (by exact ⟨rfl, rfl, rfl, rfl, rfl, rfl, rfl, rfl, rfl, rfl, rfl, rfl, trivial⟩) ((hK9 (k + 1, o3) ⟨by omega, hm3.stepN (by omega) h6 (fun hh => by first | exact h0 hh.1 | exact h5 hh.2)⟩ (by dsimp only; omega)))
     · -- no
      refine tp rfl (lv_lss rfl rfl (decide_eq_false h2)) ?_
      refine t_done ?_
      refine q_then_n (hK10 _ _ ?_)
      refine c_seq (fun K11 hK11 => ?_)
      refine c_false rfl ?_
      refine c_exit ?_
      refine q_then_x ?_
      refine q_then_x ?_
      refine q_in_x ?_
      refine q_then_n (hK7 _ _ ?_)
      refine c_seq (fun K12 hK12 => ?_)
      refine c_region ?_
      refine tp rfl (lv_load Try.isAgg23 rfl (Gives.cons g8)) ?_
      refine tp rfl (lv_move rfl) ?_
      refine tp rfl (lv_indexAddr (k' := x.toNat) Try.underlying23 Try.sizeOf3 rfl rfl hbx (by omega) (by omega) (by omega)) ?_
      refine tp rfl (lv_load Try.isAgg3 rfl (gives_sl (.head _) (ints_get (by first | omega | (simp; omega))))) ?_
      refine tp rfl (lv_assign rfl) ?_
      refine t_done ?_
      refine q_then_n (hK12 _ _ ?_)
      refine c_ret ?_
      refine q_ret rfl rfl ?_
      have hend := hmid.end_ hel hin hc (by omega) hneg
      exact ⟨o2, hmid.len.trans hlo, hend.1, hend.2, by rw [hend.1], rfl⟩
 · -- no
  refine tp rfl (lv_neq rfl rfl (bne_iff_ne.2 hneg)) ?_
  refine t_done ?_
  refine q_then_n (hK3 _ _ ?_)
  refine c_true rfl ?_
  refine c_seq (fun K4 hK4 => ?_)
  refine c_region ?_
  refine tp rfl (lv_load Try.isAgg23 rfl (Gives.cons g8)) ?_
  refine tp rfl (lv_move rfl) ?_
  refine tp rfl (lv_indexAddr (k' := x.toNat) Try.underlying23 Try.sizeOf3 rfl rfl hbx (by omega) (by omega) (by omega)) ?_
  refine tp rfl (lv_load Try.isAgg3 rfl (gives_sl (.head _) (ints_get (by first | omega | (simp; omega))))) ?_
  refine tp rfl (lv_assign rfl) ?_
  refine t_done ?_
  refine q_then_n (hK4 _ _ ?_)
  refine c_ret ?_
  refine q_then_r ?_
  refine q_ret rfl rfl ?_
  have hov : o.getD x.toNat 0 = ver es own x.toNat := (hfit x.toNat (.inl rfl)).resolve_left hneg
  exact ⟨o, hlo, hov, grew_refl _ _ _ _, by rw [hov], rfl⟩

theorem of1_ok {R : List HP} {N : Nat} {es : List (List Int)} {own : List Int} {be bo : Option Addr} {ce co : Nat} {e8 e1 e4 e5 e9 cx cb : Nat} {bx bb : Option Addr} (hfo : FOk N es own) (hG : GridR R be es) (hbe : SlOk be N) (ho : Rd R bo (ints .i64 own)) (hbo : SlOk bo N) (hlx : ∀ l ∈ es, l.length ≤ 1000000) (hbb : SlOk bb N) (hrb : Rd R bb (ints .u64 (nI (behN es N)))) (hbx : SlOk bx N) (g8 : Gives R ⟨e8, 0, none⟩ (.slice bx N cx)) (g11 : Gives R ⟨e1, 1, none⟩ (.slice be N ce)) (g12 : Gives R ⟨e1, 2, none⟩ (.slice bo N co)) (g4 : Gives R ⟨e4, 0, none⟩ (.slice bb N cb)) (g5 : Gives R ⟨e5, 0, none⟩ (.int .u64 ((rndN (behN es N) N : Nat) : Int))) (g9 : Gives R ⟨e9, 0, none⟩ (.func (.func 18) #[] #[(.pointer (some ⟨e8, 0, none⟩)), (.pointer (some ⟨e1, 0, none⟩)), (.pointer (some ⟨e4, 0, none⟩)), (.pointer (some ⟨e5, 0, none⟩)), (.pointer (some ⟨e9, 0, none⟩))])) : ∀ (m : Nat) (x : Int) (o : List Int), 0 ≤ x ∧ x < N → rk es x.toNat < m → o.length = N → Fit es own x.toNat o → Ok Try.prog 18 [(.int .i64 x), (.pointer (some ⟨e8, 0, none⟩)), (.pointer (some ⟨e1, 0, none⟩)), (.pointer (some ⟨e4, 0, none⟩)), (.pointer (some ⟨e5, 0, none⟩)), (.pointer (some ⟨e9, 0, none⟩))] (SlV 3 1 (.slice bx N cx) N (ints .i64 o) :: R) (fun v M => ∃ o' : List Int, o'.length = N ∧ o'.getD x.toNat 0 = ver es own x.toNat ∧ Grew es own x.toNat o o' ∧ v = .int .i64 (ver es own x.toNat) ∧ M = SlV 3 1 (.slice bx N cx) N (ints .i64 o') :: R) := by
  intro m
  induction m with
  | zero => intro x o hx h; omega
  | succ m ih =>
    intro x o hx h hl hf
    exact of1_step hfo hG hbe ho hbo hlx hbb hrb hbx g8 g11 g12 g4 g5 g9 x o hx hl hf (fun y p hy hr hl hf => ih y p hy (by omega) hl hf)
end Go.Proofs.Ytljnaefaahphaaa
