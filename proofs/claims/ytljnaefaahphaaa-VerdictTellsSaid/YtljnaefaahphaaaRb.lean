/- Contracts of the document's answer: Of. -/
import Derived.Test.YtljnaefaahphaaaRa
set_option maxRecDepth 100000
set_option linter.unusedVariables false
set_option linter.unusedSimpArgs false
namespace Go.Proofs.Ytljnaefaahphaaa
open Go Go.Proofs Sp
set_option maxHeartbeats 4000000 in
theorem rof_ok {R : List HP} {N : Nat} {es : List (List Int)} {own : List Int} {be bo : Option Addr} {ce co : Nat} (hfo : FOk N es own) (hG : GridR R be es) (hbe : SlOk be N) (ho : Rd R bo (ints .i64 own)) (hbo : SlOk bo N) (hlx : ∀ l ∈ es, l.length ≤ 1000000) :
    Ok Try.prog 12 [(.int .i64 ((N : Nat) : Int)), (.slice be N ce), (.slice bo N co)] R
      (fun v M => ∃ bs cp, SlOk bs N ∧ N ≤ cp ∧ v = .tuple #[.slice bs N cp, .int .i64 0] ∧ M = SlV 3 1 (.slice bs N cp) N (ints .i64 (verL es own)) :: R) := by
 have hsm := hfo.small
 have hel := hfo.le
 have hol := hfo.lo
 have hin := hfo.in_
 have hG0 := hG
 obtain ⟨vs, hvl, hvs, hrow⟩ := hG0
 refine ok_of (N := 137) Try.func12 rfl rfl rfl (fun W => ?_)
 refine c_seq (fun K1 hK1 => ?_)
 refine c_region ?_
 refine tp rfl (lv_assign rfl) ?_
 refine tp rfl (lv_assign rfl) ?_
 refine t_done ?_
 refine q_then_n (hK1 _ _ ?_)
 refine c_seq (fun K2 hK2 => ?_)
 refine c_region ?_
 refine tp rfl (lv_move rfl) ?_
 refine tp rfl (lv_move rfl) ?_
 refine tp rfl (lv_move rfl) ?_
 refine tc rfl (en_fn Try.call19 rfl) (rright_ok (m1 := N) (m2 := N) hel hol ((N : Nat) : Int) hG hbe ho hbo hlx ⟨by omega, by omega⟩) ?_
 rintro _ _ ⟨rfl, hMR⟩
 rw [hMR]; clear hMR
 rw [show rightB ((N : Nat) : Int) es own = true from ok_right hfo]
 refine tp rfl (lv_assign rfl) ?_
 refine t_done ?_
 refine q_then_n (hK2 _ _ ?_)
 refine c_seq (fun K3 hK3 => ?_)
 refine c_seq (fun K4 hK4 => ?_)
 refine c_region ?_
 refine tp rfl (lv_move rfl) ?_
 refine tp rfl (lv_not (c := false) rfl rfl) ?_
 refine t_done ?_
 refine q_then_n (hK4 _ _ ?_)
 refine c_false rfl ?_
 refine c_skip ?_
 refine q_then_n (hK3 _ _ ?_)
 refine c_seq (fun K5 hK5 => ?_)
 refine c_region ?_
 refine tp rfl (lv_move rfl) ?_
 refine tm rfl (mv_makeSlice (i := Try.t3) Try.underlying23 Try.type3 rfl rfl rfl rfl rfl (by omega) (by rw [show Try.t3.bytes = 8 from rfl]; omega) (by omega)) ?_
 rintro _ _ ⟨bs1, cp2, hok3, hle4, rfl, rfl⟩
 rw [show (((N : Nat) : Int)).toNat = N from rfl] at hok3 hle4 ⊢
 rw [ints_rep]
 refine tp rfl (lv_assign rfl) ?_
 refine t_done ?_
 refine q_then_n (hK5 _ _ ?_)
 refine c_seq (fun K6 hK6 => ?_)
 refine c_region ?_
 refine tp rfl (lv_move rfl) ?_
 refine tm rfl (mv_makeSlice (i := Try.t4) Try.underlying38 Try.type4 rfl rfl rfl rfl rfl (by omega) (by rw [show Try.t4.bytes = 1 from rfl]; omega) (by omega)) ?_
 rintro _ _ ⟨bs5, cp6, hok7, hle8, rfl, rfl⟩
 rw [show (((N : Nat) : Int)).toNat = N from rfl] at hok7 hle8 ⊢
 rw [bools_rep]
 refine tp rfl (lv_assign rfl) ?_
 refine t_done ?_
 refine q_then_n (hK6 _ _ ?_)
 refine c_seq (fun K7 hK7 => ?_)
 refine c_seq (fun K8 hK8 => ?_)
 refine c_region ?_
 refine tp rfl (lv_assign rfl) ?_
 refine t_done ?_
 refine q_then_n (hK8 _ _ ?_)
 refine c_block ?_
 rw [show List.replicate N false = rndL N es 0 from (rndL_zero N es).symm]
 refine c_loop (γ := (Nat)) (fun (k0 : Nat) => k0 ≤ N) (fun (k0 : Nat) => [(0, (.int .i64 ((N : Nat) : Int))), (1, (.slice be N ce)), (2, (.slice bo N co)), (6, (.slice none 0 0)), (7, (.int .i64 0)), (8, (.bool true)), (9, (.slice bs1 N cp2)), (10, (.slice bs5 N cp6)), (11, (.int .i64 ((k0 : Nat) : Int))), (25, (.bool false))]) (fun (k0 : Nat) => (SlV 4 1 (.slice bs5 N cp6) N (bools (rndL N es k0))) :: (SlV 3 1 (.slice bs1 N cp2) N (ints .i64 (List.replicate N 0))) :: R) (fun (k0 : Nat) => N - k0) (0) (by omega) ⟨rfl, rfl, rfl, rfl, rfl, rfl, rfl, rfl, rfl, rfl, trivial⟩ (fun _ h => h) ?_
 rintro k0 K9 hF hK9
 try dsimp only at hF hK9 ⊢
 have hrl := rndL_len N es k0
 have hwl := wayL_len N es k0
 refine c_seq (fun K10 hK10 => ?_)
 refine c_seq (fun K11 hK11 => ?_)
 refine c_region ?_
 refine tp rfl (lv_move rfl) ?_
 refine tp rfl (lv_move rfl) ?_
 by_cases h9 : ((k0 : Nat) : Int) < ((N : Nat) : Int)
 · -- yes
  refine tp rfl (lv_lss rfl rfl (decide_eq_true h9)) ?_
  refine t_done ?_
  refine q_then_n (hK11 _ _ ?_)
  refine c_true rfl ?_
  refine c_skip ?_
  refine q_then_n (hK10 _ _ ?_)
  refine c_seq (fun K12 hK12 => ?_)
  refine c_block ?_
  refine c_region ?_
  refine tp rfl (lv_move rfl) ?_
  refine tp rfl (lv_move rfl) ?_
  refine tp rfl (lv_move rfl) ?_
  refine tp rfl (lv_move rfl) ?_
  refine tc rfl (en_fn Try.call20 rfl) (reaches_ok hfo hlx ((hG.cons).cons) hbe k0 (by omega)) ?_
  rintro _ _ ⟨bs10, cp11, hok12, hle13, rfl, rfl⟩
  refine tp rfl (lv_move rfl) ?_
  refine tp rfl (lv_indexAddr (k' := k0) Try.underlying38 Try.sizeOf4 rfl rfl hok12 (by omega) (by omega) (by omega)) ?_
  refine tp rfl (lv_load Try.isAgg4 rfl (gives_sl (.head _) (bools_get (by omega)))) ?_
  refine tp rfl (lv_indexAddr (k' := k0) Try.underlying38 Try.sizeOf4 rfl rfl hok7 (by omega) (by omega) (by omega)) ?_
  refine t_f1 ?_
  refine ts (sv_sl Try.sizeOf4 rfl rfl rfl (by rw [bools_length]; omega) bools_set) ?_
  refine t_done ?_
  refine q_in_n ?_
  refine q_then_n (hK12 _ _ ?_)
  refine c_region ?_
  refine tp rfl (lv_move rfl) ?_
  refine tp rfl (lv_add (c := ((k0 + 1 : Nat) : Int)) rfl rfl (wr_i64_succ (by omega))) ?_
  refine tp rfl (lv_assign rfl) ?_
  refine t_done ?_
  refine q_then_n ?_
  refine t_f1 ?_
  refine t_drop ?_
  rw [show (rndL N es k0).set k0 ((wayL N es k0).getD k0 false) = rndL N es (k0 + 1) from rndL_succ (by omega)]
  exact t_weak (by exact ⟨rfl, rfl, rfl, rfl, rfl, rfl, rfl, rfl, rfl, rfl, trivial⟩) ((hK9 (k0 + 1) (by omega) (by omega)))
 · -- no
  refine tp rfl (lv_lss rfl rfl (decide_eq_false h9)) ?_
  refine t_done ?_
  refine q_then_n (hK11 _ _ ?_)
  refine c_false rfl ?_
  refine c_exit ?_
  refine q_then_x ?_
  refine q_then_x ?_
  refine q_in_x ?_
  refine q_then_n (hK7 _ _ ?_)
  refine c_seq (fun K12 hK12 => ?_)
  refine c_seq (fun K13 hK13 => ?_)
  refine c_region ?_
  refine tp rfl (lv_assign rfl) ?_
  refine t_done ?_
  refine q_then_n (hK13 _ _ ?_)
  refine c_block ?_
  rw [show List.replicate N 0 = o7 N es 0 0 from (o7_zero N es).symm, show rndL N es k0 = rndL N es N from by rw [show k0 = N by omega]]
  have hrlN := rndL_len N es N
  refine c_loop (γ := (Nat)) (fun (i1 : Nat) => i1 ≤ N) (fun (i1 : Nat) => [(0, (.int .i64 ((N : Nat) : Int))), (1, (.slice be N ce)), (2, (.slice bo N co)), (6, (.slice none 0 0)), (7, (.int .i64 0)), (8, (.bool true)), (9, (.slice bs1 N cp2)), (10, (.slice bs5 N cp6)), (11, (.int .i64 ((k0 : Nat) : Int))), (12, (.int .i64 ((i1 : Nat) : Int))), (25, (.bool false)), (32, (.bool false))]) (fun (i1 : Nat) => (SlV 4 1 (.slice bs5 N cp6) N (bools (rndL N es N))) :: (SlV 3 1 (.slice bs1 N cp2) N (ints .i64 (o7 N es i1 0))) :: R) (fun (i1 : Nat) => N - i1) (0) (by omega) ⟨rfl, rfl, rfl, rfl, rfl, rfl, rfl, rfl, rfl, rfl, rfl, rfl, trivial⟩ (fun _ h => h) ?_
  rintro i1 K14 hF hK14
  try dsimp only at hF hK14 ⊢
  refine c_seq (fun K15 hK15 => ?_)
  refine c_seq (fun K16 hK16 => ?_)
  refine c_region ?_
  refine tp rfl (lv_move rfl) ?_
  refine tp rfl (lv_move rfl) ?_
  by_cases h14 : ((i1 : Nat) : Int) < ((N : Nat) : Int)
  · -- yes
   refine tp rfl (lv_lss rfl rfl (decide_eq_true h14)) ?_
   refine t_done ?_
   refine q_then_n (hK16 _ _ ?_)
   refine c_true rfl ?_
   refine c_skip ?_
   refine q_then_n (hK15 _ _ ?_)
   refine c_seq (fun K17 hK17 => ?_)
   refine c_block ?_
   refine c_seq (fun K18 hK18 => ?_)
   refine c_region ?_
   refine tp rfl (lv_move rfl) ?_
   refine tp rfl (lv_move rfl) ?_
   refine tc rfl (en_fn Try.call20 rfl) (reaches_ok hfo hlx ((hG.cons).cons) hbe i1 (by omega)) ?_
   rintro _ _ ⟨bs15, cp16, hok17, hle18, rfl, rfl⟩
   refine tp rfl (lv_assign rfl) ?_
   refine t_done ?_
   refine q_then_n (hK18 _ _ ?_)
   refine c_seq (fun K19 hK19 => ?_)
   refine c_region ?_
   refine tp rfl (lv_assign rfl) ?_
   refine t_done ?_
   refine q_then_n (hK19 _ _ ?_)
   refine c_block ?_
   refine c_loop (γ := (Nat)) (fun (k : Nat) => k ≤ N) (fun (k : Nat) => [(0, (.int .i64 ((N : Nat) : Int))), (1, (.slice be N ce)), (2, (.slice bo N co)), (6, (.slice none 0 0)), (7, (.int .i64 0)), (8, (.bool true)), (9, (.slice bs1 N cp2)), (10, (.slice bs5 N cp6)), (11, (.int .i64 ((k0 : Nat) : Int))), (12, (.int .i64 ((i1 : Nat) : Int))), (13, (.slice bs15 N cp16)), (14, (.int .i64 ((k : Nat) : Int))), (25, (.bool false)), (32, (.bool false)), (46, (.bool true))]) (fun (k : Nat) => (SlV 4 1 (.slice bs15 N cp16) N (bools (wayL N es i1))) :: (SlV 4 1 (.slice bs5 N cp6) N (bools (rndL N es N))) :: (SlV 3 1 (.slice bs1 N cp2) N (ints .i64 (o7 N es i1 k))) :: R) (fun (k : Nat) => N - k) (0) (by omega) ⟨rfl, rfl, rfl, rfl, rfl, rfl, rfl, rfl, rfl, rfl, rfl, rfl, rfl, rfl, rfl, trivial⟩ (fun _ h => h) ?_
   rintro k K20 hF hK20
   try dsimp only at hF hK20 ⊢
   have hol7 := o7_len N es i1 k
   have hwl := wayL_len N es i1
   refine c_seq (fun K21 hK21 => ?_)
   refine c_seq (fun K22 hK22 => ?_)
   refine c_region ?_
   refine tp rfl (lv_move rfl) ?_
   refine tp rfl (lv_move rfl) ?_
   by_cases h19 : ((k : Nat) : Int) < ((N : Nat) : Int)
   · -- yes
    refine tp rfl (lv_lss rfl rfl (decide_eq_true h19)) ?_
    refine t_done ?_
    refine q_then_n (hK22 _ _ ?_)
    refine c_true rfl ?_
    refine c_skip ?_
    refine q_then_n (hK21 _ _ ?_)
    refine c_seq (fun K23 hK23 => ?_)
    refine c_block ?_
    refine c_seq (fun K24 hK24 => ?_)
    refine c_region ?_
    refine tp rfl (lv_move rfl) ?_
    refine tp rfl (lv_move rfl) ?_
    refine tp rfl (lv_indexAddr (k' := k) Try.underlying38 Try.sizeOf4 rfl rfl hok17 (by omega) (by omega) (by omega)) ?_
    refine tp rfl (lv_load Try.isAgg4 rfl (gives_as (congrArg Value.bool (wayL_get (by omega))) (gives_sl (.head _) (bools_get (by omega))))) ?_
    refine tp rfl (lv_move rfl) ?_
    rcases hb20 : wayb es i1 k with _ | _
    · -- false
     refine t_skip rfl rfl rfl ?_
     refine t_skip rfl rfl rfl ?_
     refine t_skip rfl rfl rfl ?_
     refine t_skip rfl rfl rfl ?_
     refine tp rfl (lv_pick_f rfl rfl) ?_
     refine t_done ?_
     refine q_then_n (hK24 _ _ ?_)
     refine c_false rfl ?_
     refine c_skip ?_
     refine q_in_n ?_
     refine q_then_n (hK23 _ _ ?_)
     refine c_region ?_
     refine tp rfl (lv_move rfl) ?_
     refine tp rfl (lv_add (c := ((k + 1 : Nat) : Int)) rfl rfl (wr_i64_succ (by omega))) ?_
     refine tp rfl (lv_assign rfl) ?_
     refine t_done ?_
     refine q_then_n ?_
     rw [show o7 N es i1 k = o7 N es i1 (k + 1) from o7_no (by rw [hb20]; rfl)]
     exact t_weak (by exact ⟨rfl, rfl, rfl, rfl, rfl, rfl, rfl, rfl, rfl, rfl, rfl, rfl, rfl, rfl, rfl, trivial⟩) ((hK20 (k + 1) (by omega) (by omega)))
    · -- true
     refine t_guard rfl rfl ?_
     refine tp rfl (lv_move rfl) ?_
     refine t_guard rfl rfl ?_
     refine tp rfl (lv_move rfl) ?_
     refine t_guard rfl rfl ?_
     refine tp rfl (lv_indexAddr (k' := k) Try.underlying38 Try.sizeOf4 rfl rfl hok7 (by omega) (by omega) (by omega)) ?_
     refine t_guard rfl rfl ?_
     refine tp rfl (lv_load Try.isAgg4 rfl (gives_as (congrArg Value.bool (rndL_all (by omega))) (gives_sl (.tail _ (.head _)) (bools_get (by omega))))) ?_
     refine tp rfl (lv_pick_t rfl rfl) ?_
     refine t_done ?_
     refine q_then_n (hK24 _ _ ?_)
     refine c_split rfl (fun c21 => ?_) (fun c21 => ?_)
     · -- true
      refine c_region ?_
      refine tp rfl (lv_move rfl) ?_
      refine tp rfl (lv_move rfl) ?_
      refine tp rfl (lv_indexAddr (k' := i1) Try.underlying23 Try.sizeOf3 rfl rfl hok3 (by omega) (by omega) (by omega)) ?_
      refine t_f2 ?_
      refine ts (sv_sl Try.sizeOf3 rfl rfl rfl (by rw [ints_length]; omega) ints_set) ?_
      refine t_done ?_
      refine q_in_n ?_
      refine q_then_n (hK23 _ _ ?_)
      refine c_region ?_
      refine tp rfl (lv_move rfl) ?_
      refine tp rfl (lv_add (c := ((k + 1 : Nat) : Int)) rfl rfl (wr_i64_succ (by omega))) ?_
      refine tp rfl (lv_assign rfl) ?_
      refine t_done ?_
      refine q_then_n ?_
      refine t_f2 ?_
      refine t_f2 ?_
      rw [show (o7 N es i1 k).set i1 7 = o7 N es i1 (k + 1) from o7_yes (by omega) (by rw [hb20, c21]; rfl)]
      exact t_weak (by exact ⟨rfl, rfl, rfl, rfl, rfl, rfl, rfl, rfl, rfl, rfl, rfl, rfl, rfl, rfl, rfl, trivial⟩) ((hK20 (k + 1) (by omega) (by omega)))
     · -- false
      refine c_skip ?_
      refine q_in_n ?_
      refine q_then_n (hK23 _ _ ?_)
      refine c_region ?_
      refine tp rfl (lv_move rfl) ?_
      refine tp rfl (lv_add (c := ((k + 1 : Nat) : Int)) rfl rfl (wr_i64_succ (by omega))) ?_
      refine tp rfl (lv_assign rfl) ?_
      refine t_done ?_
      refine q_then_n ?_
      rw [show o7 N es i1 k = o7 N es i1 (k + 1) from o7_no (by rw [c21, Bool.and_false])]
      exact t_weak (by exact ⟨rfl, rfl, rfl, rfl, rfl, rfl, rfl, rfl, rfl, rfl, rfl, rfl, rfl, rfl, rfl, trivial⟩) ((hK20 (k + 1) (by omega) (by omega)))
   · -- no
    refine tp rfl (lv_lss rfl rfl (decide_eq_false h19)) ?_
    refine t_done ?_
    refine q_then_n (hK22 _ _ ?_)
    refine c_false rfl ?_
    refine c_exit ?_
    refine q_then_x ?_
    refine q_then_x ?_
    refine q_in_x ?_
    refine q_in_n ?_
    refine q_then_n (hK17 _ _ ?_)
    refine c_region ?_
    refine tp rfl (lv_move rfl) ?_
    refine tp rfl (lv_add (c := ((i1 + 1 : Nat) : Int)) rfl rfl (wr_i64_succ (by omega))) ?_
    refine tp rfl (lv_assign rfl) ?_
    refine t_done ?_
    refine q_then_n ?_
    refine t_drop ?_
    rw [show o7 N es i1 k = o7 N es (i1 + 1) 0 from by rw [show k = N by omega]; exact o7_row hel hin i1]
    exact t_weak (by exact ⟨rfl, rfl, rfl, rfl, rfl, rfl, rfl, rfl, rfl, rfl, rfl, rfl, trivial⟩) ((hK14 (i1 + 1) (by omega) (by omega)))
  · -- no
   refine tp rfl (lv_lss rfl rfl (decide_eq_false h14)) ?_
   refine t_done ?_
   refine q_then_n (hK16 _ _ ?_)
   refine c_false rfl ?_
   refine c_exit ?_
   refine q_then_x ?_
   refine q_then_x ?_
   refine q_in_x ?_
   refine q_then_n (hK12 _ _ ?_)
   refine c_seq (fun K17 hK17 => ?_)
   refine c_region ?_
   refine tp rfl (lv_assign rfl) ?_
   refine t_done ?_
   refine q_then_n (hK17 _ _ ?_)
   refine c_seq (fun K18 hK18 => ?_)
   refine c_block ?_
   rw [show o7 N es i1 0 = o7 N es N 0 from by rw [show i1 = N by omega]]
   refine c_loop (γ := (List Int) × (Bool)) (fun (o, ch) => Fix0 N es own o ∧ (ch = false → o = verL es own)) (fun (o, ch) => [(0, (.int .i64 ((N : Nat) : Int))), (1, (.slice be N ce)), (2, (.slice bo N co)), (6, (.slice none 0 0)), (7, (.int .i64 0)), (8, (.bool true)), (9, (.slice bs1 N cp2)), (10, (.slice bs5 N cp6)), (11, (.int .i64 ((k0 : Nat) : Int))), (12, (.int .i64 ((i1 : Nat) : Int))), (15, (.bool ch)), (25, (.bool false)), (32, (.bool false)), (46, (.bool false))]) (fun (o, ch) => (SlV 4 1 (.slice bs5 N cp6) N (bools (rndL N es N))) :: (SlV 3 1 (.slice bs1 N cp2) N (ints .i64 o)) :: R) (fun (o, ch) => o.count 0 + (if ch = true then 1 else 0)) (o7 N es N 0, true) ⟨Fix0.start hfo, fun h => by cases h⟩ ⟨rfl, rfl, rfl, rfl, rfl, rfl, rfl, rfl, rfl, rfl, rfl, rfl, rfl, rfl, trivial⟩ (fun _ h => h) ?_
   rintro ⟨o, ch⟩ K19 hF hK19
   try dsimp only at hF hK19 ⊢
   obtain ⟨hfx, hend⟩ := hF
   refine c_seq (fun K20 hK20 => ?_)
   refine c_seq (fun K21 hK21 => ?_)
   refine c_region ?_
   refine tp rfl (lv_move rfl) ?_
   refine t_done ?_
   refine q_then_n (hK21 _ _ ?_)
   refine c_split rfl (fun c22 => ?_) (fun c22 => ?_)
   · -- true
    refine c_skip ?_
    refine q_then_n (hK20 _ _ ?_)
    refine c_block ?_
    refine c_seq (fun K22 hK22 => ?_)
    refine c_region ?_
    have hch : (if ch = true then 1 else 0) = 1 := by rw [c22]; rfl
    refine tp rfl (lv_assign rfl) ?_
    refine t_done ?_
    refine q_then_n (hK22 _ _ ?_)
    refine c_seq (fun K23 hK23 => ?_)
    refine c_region ?_
    refine tp rfl (lv_assign rfl) ?_
    refine t_done ?_
    refine q_then_n (hK23 _ _ ?_)
    refine c_block ?_
    refine c_loop (γ := (Nat) × (List Int) × (Bool)) (fun (i, o2, ch2) => i ≤ N ∧ Pass N es own o i o2 ch2) (fun (i, o2, ch2) => [(0, (.int .i64 ((N : Nat) : Int))), (1, (.slice be N ce)), (2, (.slice bo N co)), (6, (.slice none 0 0)), (7, (.int .i64 0)), (8, (.bool true)), (9, (.slice bs1 N cp2)), (10, (.slice bs5 N cp6)), (11, (.int .i64 ((k0 : Nat) : Int))), (12, (.int .i64 ((i1 : Nat) : Int))), (15, (.bool ch2)), (16, (.int .i64 ((i : Nat) : Int))), (25, (.bool false)), (32, (.bool false)), (46, (.bool false)), (70, (.bool ch))]) (fun (i, o2, ch2) => (SlV 4 1 (.slice bs5 N cp6) N (bools (rndL N es N))) :: (SlV 3 1 (.slice bs1 N cp2) N (ints .i64 o2)) :: R) (fun (i, o2, ch2) => N - i) (0, o, false) ⟨by omega, Pass.start hfx⟩ ⟨rfl, rfl, rfl, rfl, rfl, rfl, rfl, rfl, rfl, rfl, rfl, rfl, rfl, rfl, rfl, rfl, trivial⟩ (fun _ h => h) ?_
    rintro ⟨i, o2, ch2⟩ K24 hF hK24
    try dsimp only at hF hK24 ⊢
    obtain ⟨hi, hps⟩ := hF
    have hol2 := hps.fix.len
    refine c_seq (fun K25 hK25 => ?_)
    refine c_seq (fun K26 hK26 => ?_)
    refine c_region ?_
    refine tp rfl (lv_move rfl) ?_
    refine tp rfl (lv_move rfl) ?_
    by_cases h23 : ((i : Nat) : Int) < ((N : Nat) : Int)
    · -- yes
     refine tp rfl (lv_lss rfl rfl (decide_eq_true h23)) ?_
     refine t_done ?_
     refine q_then_n (hK26 _ _ ?_)
     refine c_true rfl ?_
     refine c_skip ?_
     refine q_then_n (hK25 _ _ ?_)
     refine c_seq (fun K27 hK27 => ?_)
     refine c_block ?_
     refine c_seq (fun K28 hK28 => ?_)
     refine c_seq (fun K29 hK29 => ?_)
     refine c_region ?_
     refine tp rfl (lv_move rfl) ?_
     refine tp rfl (lv_move rfl) ?_
     refine tp rfl (lv_indexAddr (k' := i) Try.underlying23 Try.sizeOf3 rfl rfl hok3 (by omega) (by omega) (by omega)) ?_
     refine tp rfl (lv_load Try.isAgg3 rfl (gives_sl (.tail _ (.head _)) (ints_get (by omega)))) ?_
     by_cases hn0 : ((o2).getD i 0) = 0
     · -- yes
      refine tp rfl (lv_neq rfl rfl (bne_eq_false_iff_eq.2 hn0)) ?_
      refine t_done ?_
      refine q_then_n (hK29 _ _ ?_)
      refine c_false rfl ?_
      refine c_skip ?_
      refine q_then_n (hK28 _ _ ?_)
      refine c_seq (fun K30 hK30 => ?_)
      refine c_region ?_
      have hn0' := hn0
      refine tp rfl (lv_move rfl) ?_
      refine tp rfl (lv_move rfl) ?_
      refine tp rfl (lv_indexAddr (k' := i) Try.underlying23 Try.sizeOf3 rfl rfl hbo (by omega) (by omega) (by omega)) ?_
      refine tp rfl (lv_load Try.isAgg3 rfl (Rd.gives (Rd.cons (Rd.cons ho)) (ints_get (by omega)))) ?_
      refine tp rfl (lv_eql rfl rfl rfl) ?_
      refine tp rfl (lv_assign rfl) ?_
      refine t_done ?_
      refine q_then_n (hK30 _ _ ?_)
      refine c_seq (fun K31 hK31 => ?_)
      refine c_region ?_
      refine tp rfl (lv_move rfl) ?_
      refine tp rfl (lv_move rfl) ?_
      refine tp rfl (lv_indexAddr (k' := i) Try.underlying23 Try.sizeOf3 rfl rfl hbo (by omega) (by omega) (by omega)) ?_
      refine tp rfl (lv_load Try.isAgg3 rfl (Rd.gives (Rd.cons (Rd.cons ho)) (ints_get (by omega)))) ?_
      refine tp rfl (lv_eql rfl rfl rfl) ?_
      refine tp rfl (lv_assign rfl) ?_
      refine t_done ?_
      refine q_then_n (hK31 _ _ ?_)
      refine c_seq (fun K32 hK32 => ?_)
      refine c_seq (fun K33 hK33 => ?_)
      refine c_region ?_
      obtain ⟨bi, ci, hoki, hlei, hvi, hri⟩ := hrow i (by omega)
      have hlk := hlx _ (row_at_mem (show i < es.length by omega))
      refine tp rfl (lv_assign rfl) ?_
      refine t_done ?_
      refine q_then_n (hK33 _ _ ?_)
      refine c_block ?_
      refine c_loop (γ := (Nat) × (Bool) × (Bool)) (fun (k, f, d) => k ≤ (es.getD i []).length ∧ FD es own o2 i k f d) (fun (k, f, d) => [(0, (.int .i64 ((N : Nat) : Int))), (1, (.slice be N ce)), (2, (.slice bo N co)), (6, (.slice none 0 0)), (7, (.int .i64 0)), (8, (.bool true)), (9, (.slice bs1 N cp2)), (10, (.slice bs5 N cp6)), (11, (.int .i64 ((k0 : Nat) : Int))), (12, (.int .i64 ((i1 : Nat) : Int))), (15, (.bool ch2)), (16, (.int .i64 ((i : Nat) : Int))), (17, (.bool f)), (18, (.bool d)), (19, (.int .i64 ((k : Nat) : Int))), (25, (.bool false)), (32, (.bool false)), (46, (.bool false)), (70, (.bool ch)), (73, (.bool true)), (80, (.bool false))]) (fun (k, f, d) => (SlV 4 1 (.slice bs5 N cp6) N (bools (rndL N es N))) :: (SlV 3 1 (.slice bs1 N cp2) N (ints .i64 o2)) :: R) (fun (k, f, d) => (es.getD i []).length - k) (0, ((own).getD i 0) == 6, ((own).getD i 0) == 5) ⟨by omega, FD.start es own o2 i⟩ ⟨rfl, rfl, rfl, rfl, rfl, rfl, rfl, rfl, rfl, rfl, rfl, rfl, rfl, rfl, rfl, rfl, rfl, rfl, rfl, rfl, rfl, trivial⟩ (fun _ h => h) ?_
      rintro ⟨k, f, d⟩ K34 hF hK34
      try dsimp only at hF hK34 ⊢
      obtain ⟨hk, hfd⟩ := hF
      refine c_seq (fun K35 hK35 => ?_)
      refine c_seq (fun K36 hK36 => ?_)
      refine c_region ?_
      refine tp rfl (lv_move rfl) ?_
      refine tp rfl (lv_move rfl) ?_
      refine tp rfl (lv_move rfl) ?_
      refine tp rfl (lv_indexAddr (k' := i) Try.underlying22 Try.sizeOf23 rfl rfl hbe (by omega) (by omega) (by omega)) ?_
      refine tp rfl (lv_load Try.isAgg23 rfl (gives_as hvi (Rd.gives (Rd.cons (Rd.cons hvs)) (vals_get (by omega))))) ?_
      refine tp rfl (lv_len Try.underlying23 rfl rfl) ?_
      by_cases h24 : ((k : Nat) : Int) < (((es.getD i []).length : Nat) : Int)
      · -- yes
       refine tp rfl (lv_lss rfl rfl (decide_eq_true h24)) ?_
       refine t_done ?_
       refine q_then_n (hK36 _ _ ?_)
       refine c_true rfl ?_
       refine c_skip ?_
       refine q_then_n (hK35 _ _ ?_)
       refine c_seq (fun K37 hK37 => ?_)
       refine c_block ?_
       refine c_seq (fun K38 hK38 => ?_)
       refine c_region ?_
       have hat := hfo.at_ (i := i) (k := k) (by omega)
       refine tp rfl (lv_move rfl) ?_
       refine tp rfl (lv_move rfl) ?_
       rcases hb25 : f with _ | _
       · -- false
        refine t_guard rfl rfl ?_
        refine tp rfl (lv_move rfl) ?_
        refine t_guard rfl rfl ?_
        refine tp rfl (lv_move rfl) ?_
        refine t_guard rfl rfl ?_
        refine tp rfl (lv_move rfl) ?_
        refine t_guard rfl rfl ?_
        refine tp rfl (lv_indexAddr (k' := i) Try.underlying22 Try.sizeOf23 rfl rfl hbe (by omega) (by omega) (by omega)) ?_
        refine t_guard rfl rfl ?_
        refine tp rfl (lv_load Try.isAgg23 rfl (gives_as hvi (Rd.gives (Rd.cons (Rd.cons hvs)) (vals_get (by omega))))) ?_
        refine t_guard rfl rfl ?_
        refine tp rfl (lv_move rfl) ?_
        refine t_guard rfl rfl ?_
        refine tp rfl (lv_indexAddr (k' := k) Try.underlying23 Try.sizeOf3 rfl rfl hoki (by omega) (by omega) (by omega)) ?_
        refine t_guard rfl rfl ?_
        refine tp rfl (lv_load Try.isAgg3 rfl (Rd.gives (Rd.cons (Rd.cons hri)) (ints_get (by omega)))) ?_
        refine t_guard rfl rfl ?_
        refine tp rfl (lv_indexAddr (k' := ((es.getD i []).getD k 0).toNat) Try.underlying23 Try.sizeOf3 rfl rfl hok3 (by omega) (by omega) (by omega)) ?_
        refine t_guard rfl rfl ?_
        refine tp rfl (lv_load Try.isAgg3 rfl (gives_sl (.tail _ (.head _)) (ints_get (by omega)))) ?_
        refine t_guard rfl rfl ?_
        refine tp rfl (lv_eql rfl rfl rfl) ?_
        refine tp rfl (lv_pick_f rfl rfl) ?_
        refine tp rfl (lv_assign rfl) ?_
        refine t_done ?_
        refine q_then_n (hK38 _ _ ?_)
        refine c_region ?_
        refine tp rfl (lv_move rfl) ?_
        refine tp rfl (lv_move rfl) ?_
        rcases hb26 : d with _ | _
        · -- false
         refine t_skip rfl rfl rfl ?_
         refine t_skip rfl rfl rfl ?_
         refine t_skip rfl rfl rfl ?_
         refine t_skip rfl rfl rfl ?_
         refine t_skip rfl rfl rfl ?_
         refine t_skip rfl rfl rfl ?_
         refine t_skip rfl rfl rfl ?_
         refine t_skip rfl rfl rfl ?_
         refine t_skip rfl rfl rfl ?_
         refine t_skip rfl rfl rfl ?_
         refine t_skip rfl rfl rfl ?_
         refine tp rfl (lv_pick_f rfl rfl) ?_
         refine tp rfl (lv_assign rfl) ?_
         refine t_done ?_
         refine q_in_n ?_
         refine q_then_n (hK37 _ _ ?_)
         refine c_region ?_
         refine tp rfl (lv_move rfl) ?_
         refine tp rfl (lv_add (c := ((k + 1 : Nat) : Int)) rfl rfl (wr_i64_succ (by omega))) ?_
         refine tp rfl (lv_assign rfl) ?_
         refine t_done ?_
         refine q_then_n ?_
         exact t_weak (by exact ⟨rfl, rfl, rfl, rfl, rfl, rfl, rfl, rfl, rfl, rfl, rfl, rfl, rfl, rfl, rfl, rfl, rfl, rfl, rfl, rfl, rfl, trivial⟩) ((hK34 (k + 1, ((o2).getD (((es.getD i []).getD k 0).toNat) 0) == 6, false) ⟨by dsimp only; omega, by have q := hfd.next (show k < (es.getD i []).length by omega); rw [hb25, hb26] at q; exact q⟩ (by dsimp only; omega)))
        · -- true
         refine t_guard rfl rfl ?_
         refine tp rfl (lv_move rfl) ?_
         refine t_guard rfl rfl ?_
         refine tp rfl (lv_move rfl) ?_
         refine t_guard rfl rfl ?_
         refine tp rfl (lv_move rfl) ?_
         refine t_guard rfl rfl ?_
         refine tp rfl (lv_indexAddr (k' := i) Try.underlying22 Try.sizeOf23 rfl rfl hbe (by omega) (by omega) (by omega)) ?_
         refine t_guard rfl rfl ?_
         refine tp rfl (lv_load Try.isAgg23 rfl (gives_as hvi (Rd.gives (Rd.cons (Rd.cons hvs)) (vals_get (by omega))))) ?_
         refine t_guard rfl rfl ?_
         refine tp rfl (lv_move rfl) ?_
         refine t_guard rfl rfl ?_
         refine tp rfl (lv_indexAddr (k' := k) Try.underlying23 Try.sizeOf3 rfl rfl hoki (by omega) (by omega) (by omega)) ?_
         refine t_guard rfl rfl ?_
         refine tp rfl (lv_load Try.isAgg3 rfl (Rd.gives (Rd.cons (Rd.cons hri)) (ints_get (by omega)))) ?_
         refine t_guard rfl rfl ?_
         refine tp rfl (lv_indexAddr (k' := ((es.getD i []).getD k 0).toNat) Try.underlying23 Try.sizeOf3 rfl rfl hok3 (by omega) (by omega) (by omega)) ?_
         refine t_guard rfl rfl ?_
         refine tp rfl (lv_load Try.isAgg3 rfl (gives_sl (.tail _ (.head _)) (ints_get (by omega)))) ?_
         refine t_guard rfl rfl ?_
         refine tp rfl (lv_eql rfl rfl rfl) ?_
         refine tp rfl (lv_pick_t rfl rfl) ?_
         refine tp rfl (lv_assign rfl) ?_
         refine t_done ?_
         refine q_in_n ?_
         refine q_then_n (hK37 _ _ ?_)
         refine c_region ?_
         refine tp rfl (lv_move rfl) ?_
         refine tp rfl (lv_add (c := ((k + 1 : Nat) : Int)) rfl rfl (wr_i64_succ (by omega))) ?_
         refine tp rfl (lv_assign rfl) ?_
         refine t_done ?_
         refine q_then_n ?_
         exact t_weak (by exact ⟨rfl, rfl, rfl, rfl, rfl, rfl, rfl, rfl, rfl, rfl, rfl, rfl, rfl, rfl, rfl, rfl, rfl, rfl, rfl, rfl, rfl, trivial⟩) ((hK34 (k + 1, ((o2).getD (((es.getD i []).getD k 0).toNat) 0) == 6, ((o2).getD (((es.getD i []).getD k 0).toNat) 0) == 5) ⟨by dsimp only; omega, by have q := hfd.next (show k < (es.getD i []).length by omega); rw [hb25, hb26] at q; exact q⟩ (by dsimp only; omega)))
       · -- true
        refine t_skip rfl rfl rfl ?_
        refine t_skip rfl rfl rfl ?_
        refine t_skip rfl rfl rfl ?_
        refine t_skip rfl rfl rfl ?_
        refine t_skip rfl rfl rfl ?_
        refine t_skip rfl rfl rfl ?_
        refine t_skip rfl rfl rfl ?_
        refine t_skip rfl rfl rfl ?_
        refine t_skip rfl rfl rfl ?_
        refine t_skip rfl rfl rfl ?_
        refine t_skip rfl rfl rfl ?_
        refine tp rfl (lv_pick_t rfl rfl) ?_
        refine tp rfl (lv_assign rfl) ?_
        refine t_done ?_
        refine q_then_n (hK38 _ _ ?_)
        refine c_region ?_
        refine tp rfl (lv_move rfl) ?_
        refine tp rfl (lv_move rfl) ?_
        rcases hb27 : d with _ | _
        · -- false
         refine t_skip rfl rfl rfl ?_
         refine t_skip rfl rfl rfl ?_
         refine t_skip rfl rfl rfl ?_
         refine t_skip rfl rfl rfl ?_
         refine t_skip rfl rfl rfl ?_
         refine t_skip rfl rfl rfl ?_
         refine t_skip rfl rfl rfl ?_
         refine t_skip rfl rfl rfl ?_
         refine t_skip rfl rfl rfl ?_
         refine t_skip rfl rfl rfl ?_
         refine t_skip rfl rfl rfl ?_
         refine tp rfl (lv_pick_f rfl rfl) ?_
         refine tp rfl (lv_assign rfl) ?_
         refine t_done ?_
         refine q_in_n ?_
         refine q_then_n (hK37 _ _ ?_)
         refine c_region ?_
         refine tp rfl (lv_move rfl) ?_
         refine tp rfl (lv_add (c := ((k + 1 : Nat) : Int)) rfl rfl (wr_i64_succ (by omega))) ?_
         refine tp rfl (lv_assign rfl) ?_
         refine t_done ?_
         refine q_then_n ?_
         exact t_weak (by exact ⟨rfl, rfl, rfl, rfl, rfl, rfl, rfl, rfl, rfl, rfl, rfl, rfl, rfl, rfl, rfl, rfl, rfl, rfl, rfl, rfl, rfl, trivial⟩) ((hK34 (k + 1, true, false) ⟨by dsimp only; omega, by have q := hfd.next (show k < (es.getD i []).length by omega); rw [hb25, hb27] at q; exact q⟩ (by dsimp only; omega)))
        · -- true
         refine t_guard rfl rfl ?_
         refine tp rfl (lv_move rfl) ?_
         refine t_guard rfl rfl ?_
         refine tp rfl (lv_move rfl) ?_
         refine t_guard rfl rfl ?_
         refine tp rfl (lv_move rfl) ?_
         refine t_guard rfl rfl ?_
         refine tp rfl (lv_indexAddr (k' := i) Try.underlying22 Try.sizeOf23 rfl rfl hbe (by omega) (by omega) (by omega)) ?_
         refine t_guard rfl rfl ?_
         refine tp rfl (lv_load Try.isAgg23 rfl (gives_as hvi (Rd.gives (Rd.cons (Rd.cons hvs)) (vals_get (by omega))))) ?_
         refine t_guard rfl rfl ?_
         refine tp rfl (lv_move rfl) ?_
         refine t_guard rfl rfl ?_
         refine tp rfl (lv_indexAddr (k' := k) Try.underlying23 Try.sizeOf3 rfl rfl hoki (by omega) (by omega) (by omega)) ?_
         refine t_guard rfl rfl ?_
         refine tp rfl (lv_load Try.isAgg3 rfl (Rd.gives (Rd.cons (Rd.cons hri)) (ints_get (by omega)))) ?_
         refine t_guard rfl rfl ?_
         refine tp rfl (lv_indexAddr (k' := ((es.getD i []).getD k 0).toNat) Try.underlying23 Try.sizeOf3 rfl rfl hok3 (by omega) (by omega) (by omega)) ?_
         refine t_guard rfl rfl ?_
         refine tp rfl (lv_load Try.isAgg3 rfl (gives_sl (.tail _ (.head _)) (ints_get (by omega)))) ?_
         refine t_guard rfl rfl ?_
         refine tp rfl (lv_eql rfl rfl rfl) ?_
         refine tp rfl (lv_pick_t rfl rfl) ?_
         refine tp rfl (lv_assign rfl) ?_
         refine t_done ?_
         refine q_in_n ?_
         refine q_then_n (hK37 _ _ ?_)
         refine c_region ?_
         refine tp rfl (lv_move rfl) ?_
         refine tp rfl (lv_add (c := ((k + 1 : Nat) : Int)) rfl rfl (wr_i64_succ (by omega))) ?_
         refine tp rfl (lv_assign rfl) ?_
         refine t_done ?_
         refine q_then_n ?_
         exact t_weak (by exact ⟨rfl, rfl, rfl, rfl, rfl, rfl, rfl, rfl, rfl, rfl, rfl, rfl, rfl, rfl, rfl, rfl, rfl, rfl, rfl, rfl, rfl, trivial⟩) ((hK34 (k + 1, true, ((o2).getD (((es.getD i []).getD k 0).toNat) 0) == 5) ⟨by dsimp only; omega, by have q := hfd.next (show k < (es.getD i []).length by omega); rw [hb25, hb27] at q; exact q⟩ (by dsimp only; omega)))
      · -- no
       refine tp rfl (lv_lss rfl rfl (decide_eq_false h24)) ?_
       refine t_done ?_
       refine q_then_n (hK36 _ _ ?_)
       refine c_false rfl ?_
       refine c_exit ?_
       refine q_then_x ?_
       refine q_then_x ?_
       refine q_in_x ?_
       refine q_then_n (hK32 _ _ ?_)
       refine c_seq (fun K37 hK37 => ?_)
       refine c_region ?_
       refine tp rfl (lv_move rfl) ?_
       refine t_done ?_
       refine q_then_n (hK37 _ _ ?_)
       refine c_split rfl (fun c28 => ?_) (fun c28 => ?_)
       · -- true
        refine c_seq (fun K38 hK38 => ?_)
        refine c_region ?_
        refine tp rfl (lv_move rfl) ?_
        refine tp rfl (lv_move rfl) ?_
        refine tp rfl (lv_indexAddr (k' := i) Try.underlying23 Try.sizeOf3 rfl rfl hok3 (by omega) (by omega) (by omega)) ?_
        refine t_f1 ?_
        refine ts (sv_sl Try.sizeOf3 rfl rfl rfl (by rw [ints_length]; omega) ints_set) ?_
        refine t_done ?_
        refine q_then_n (hK38 _ _ ?_)
        refine c_region ?_
        refine tp rfl (lv_assign rfl) ?_
        refine t_done ?_
        refine q_in_n ?_
        refine q_then_n (hK27 _ _ ?_)
        refine c_region ?_
        refine tp rfl (lv_move rfl) ?_
        refine tp rfl (lv_add (c := ((i + 1 : Nat) : Int)) rfl rfl (wr_i64_succ (by omega))) ?_
        refine tp rfl (lv_assign rfl) ?_
        refine t_done ?_
        refine q_then_n ?_
        refine t_f1 ?_
        exact t_weak (by exact ⟨rfl, rfl, rfl, rfl, rfl, rfl, rfl, rfl, rfl, rfl, rfl, rfl, rfl, rfl, rfl, rfl, trivial⟩) ((hK24 (i + 1, (o2).set i 6, true) ⟨by dsimp only; omega, hps.six hfo (by omega) hn0' hfd (by omega) c28⟩ (by dsimp only; omega)))
       · -- false
        refine c_seq (fun K38 hK38 => ?_)
        refine c_region ?_
        refine tp rfl (lv_move rfl) ?_
        refine t_done ?_
        refine q_then_n (hK38 _ _ ?_)
        refine c_split rfl (fun c29 => ?_) (fun c29 => ?_)
        · -- true
         refine c_seq (fun K39 hK39 => ?_)
         refine c_region ?_
         refine tp rfl (lv_move rfl) ?_
         refine tp rfl (lv_move rfl) ?_
         refine tp rfl (lv_indexAddr (k' := i) Try.underlying23 Try.sizeOf3 rfl rfl hok3 (by omega) (by omega) (by omega)) ?_
         refine t_f1 ?_
         refine ts (sv_sl Try.sizeOf3 rfl rfl rfl (by rw [ints_length]; omega) ints_set) ?_
         refine t_done ?_
         refine q_then_n (hK39 _ _ ?_)
         refine c_region ?_
         refine tp rfl (lv_assign rfl) ?_
         refine t_done ?_
         refine q_in_n ?_
         refine q_then_n (hK27 _ _ ?_)
         refine c_region ?_
         refine tp rfl (lv_move rfl) ?_
         refine tp rfl (lv_add (c := ((i + 1 : Nat) : Int)) rfl rfl (wr_i64_succ (by omega))) ?_
         refine tp rfl (lv_assign rfl) ?_
         refine t_done ?_
         refine q_then_n ?_
         refine t_f1 ?_
         exact t_weak (by exact ⟨rfl, rfl, rfl, rfl, rfl, rfl, rfl, rfl, rfl, rfl, rfl, rfl, rfl, rfl, rfl, rfl, trivial⟩) ((hK24 (i + 1, (o2).set i 5, true) ⟨by dsimp only; omega, hps.five hfo (by omega) hn0' hfd (by omega) c29⟩ (by dsimp only; omega)))
        · -- false
         refine c_skip ?_
         refine q_in_n ?_
         refine q_then_n (hK27 _ _ ?_)
         refine c_region ?_
         refine tp rfl (lv_move rfl) ?_
         refine tp rfl (lv_add (c := ((i + 1 : Nat) : Int)) rfl rfl (wr_i64_succ (by omega))) ?_
         refine tp rfl (lv_assign rfl) ?_
         refine t_done ?_
         refine q_then_n ?_
         exact t_weak (by exact ⟨rfl, rfl, rfl, rfl, rfl, rfl, rfl, rfl, rfl, rfl, rfl, rfl, rfl, rfl, rfl, rfl, trivial⟩) ((hK24 (i + 1, o2, ch2) ⟨by dsimp only; omega, hps.none hfd (by omega) c28 c29⟩ (by dsimp only; omega)))
     · -- no
      refine tp rfl (lv_neq rfl rfl (bne_iff_ne.2 hn0)) ?_
      refine t_done ?_
      refine q_then_n (hK29 _ _ ?_)
      refine c_true rfl ?_
      refine c_exit ?_
      refine q_then_x ?_
      refine q_in_x ?_
      refine q_then_n (hK27 _ _ ?_)
      refine c_region ?_
      refine tp rfl (lv_move rfl) ?_
      refine tp rfl (lv_add (c := ((i + 1 : Nat) : Int)) rfl rfl (wr_i64_succ (by omega))) ?_
      refine tp rfl (lv_assign rfl) ?_
      refine t_done ?_
      refine q_then_n ?_
      exact t_weak (by exact ⟨rfl, rfl, rfl, rfl, rfl, rfl, rfl, rfl, rfl, rfl, rfl, rfl, rfl, rfl, rfl, rfl, trivial⟩) ((hK24 (i + 1, o2, ch2) ⟨by dsimp only; omega, hps.skip hn0⟩ (by dsimp only; omega)))
    · -- no
     refine tp rfl (lv_lss rfl rfl (decide_eq_false h23)) ?_
     refine t_done ?_
     refine q_then_n (hK26 _ _ ?_)
     refine c_false rfl ?_
     refine c_exit ?_
     refine q_then_x ?_
     refine q_then_x ?_
     refine q_in_x ?_
     refine q_in_n ?_
     refine q_then_n ?_
     exact t_weak (by exact ⟨rfl, rfl, rfl, rfl, rfl, rfl, rfl, rfl, rfl, rfl, rfl, rfl, rfl, rfl, trivial⟩) ((hK19 (o2, ch2) ⟨hps.fix, fun hc => by subst hc; rw [show i = N by omega] at hps; exact hps.end_ hfo⟩ (by have := hps.mu; rw [hch]; exact this)))
   · -- false
    refine c_exit ?_
    refine q_then_x ?_
    refine q_then_x ?_
    refine q_in_x ?_
    refine q_then_n (hK18 _ _ ?_)
    refine c_seq (fun K22 hK22 => ?_)
    refine c_region ?_
    refine tp rfl (lv_move rfl) ?_
    refine tp rfl (lv_assign rfl) ?_
    refine tp rfl (lv_assign rfl) ?_
    refine t_done ?_
    refine q_then_n (hK22 _ _ ?_)
    refine c_ret ?_
    refine t_drop ?_
    refine q_ret2 rfl rfl rfl ?_
    rw [hend c22]
    exact ⟨_, _, hok3, hle4, rfl, rfl⟩

theorem rof_bad {R : List HP} {es : List (List Int)} {own : List Int} {be bo : Option Addr} {ce co m1 m2 : Nat} (hm1 : es.length = m1) (hm2 : own.length = m2) (n : Int) (hrt : rightB n es own = false) (hG : GridR R be es) (hbe : SlOk be m1) (ho : Rd R bo (ints .i64 own)) (hbo : SlOk bo m2) (hlx : ∀ l ∈ es, l.length ≤ 1000000) (hbig : m1 ≤ 1000000000 ∧ m2 ≤ 1000000000) :
    Ok Try.prog 12 [(.int .i64 n), (.slice be m1 ce), (.slice bo m2 co)] R
      (fun v M => v = .tuple #[.slice none 0 0, .int .i64 1] ∧ M = R) := by
 refine ok_of (N := 137) Try.func12 rfl rfl rfl (fun W => ?_)
 refine c_seq (fun K1 hK1 => ?_)
 refine c_region ?_
 refine tp rfl (lv_assign rfl) ?_
 refine tp rfl (lv_assign rfl) ?_
 refine t_done ?_
 refine q_then_n (hK1 _ _ ?_)
 refine c_seq (fun K2 hK2 => ?_)
 refine c_region ?_
 refine tp rfl (lv_move rfl) ?_
 refine tp rfl (lv_move rfl) ?_
 refine tp rfl (lv_move rfl) ?_
 refine tc rfl (en_fn Try.call19 rfl) (rright_ok (m1 := m1) (m2 := m2) hm1 hm2 n hG hbe ho hbo hlx ⟨by omega, by omega⟩) ?_
 rintro _ _ ⟨rfl, hMR⟩
 rw [hMR]; clear hMR
 rw [show rightB n es own = false from hrt]
 refine tp rfl (lv_assign rfl) ?_
 refine t_done ?_
 refine q_then_n (hK2 _ _ ?_)
 refine c_seq (fun K3 hK3 => ?_)
 refine c_seq (fun K4 hK4 => ?_)
 refine c_region ?_
 refine tp rfl (lv_move rfl) ?_
 refine tp rfl (lv_not (c := true) rfl rfl) ?_
 refine t_done ?_
 refine q_then_n (hK4 _ _ ?_)
 refine c_true rfl ?_
 refine c_seq (fun K5 hK5 => ?_)
 refine c_region ?_
 refine tp rfl (lv_assign rfl) ?_
 refine tp rfl (lv_assign rfl) ?_
 refine t_done ?_
 refine q_then_n (hK5 _ _ ?_)
 refine c_ret ?_
 refine q_then_r ?_
 refine q_ret2 rfl rfl rfl ?_
 exact ⟨rfl, rfl⟩
end Go.Proofs.Ytljnaefaahphaaa
