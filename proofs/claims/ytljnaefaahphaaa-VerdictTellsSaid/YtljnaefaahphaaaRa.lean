/- Contracts of the document's answer: Right, Reaches. -/
import Derived.Test.YtljnaefaahphaaaVd1
import Derived.Test.YtljnaefaahphaaaVrf
import Derived.Test.YtljnaefaahphaaaTls
set_option maxRecDepth 100000
set_option linter.unusedVariables false
set_option linter.unusedSimpArgs false
namespace Go.Proofs.Ytljnaefaahphaaa
open Go Go.Proofs Sp
set_option maxHeartbeats 4000000 in
theorem rright_ok {R : List HP} {es : List (List Int)} {own : List Int} {be bo : Option Addr} {ce co m1 m2 : Nat} (hm1 : es.length = m1) (hm2 : own.length = m2) (n : Int) (hG : GridR R be es) (hbe : SlOk be m1) (ho : Rd R bo (ints .i64 own)) (hbo : SlOk bo m2) (hlx : ∀ l ∈ es, l.length ≤ 1000000) (hbig : m1 ≤ 1000000000 ∧ m2 ≤ 1000000000) :
    Ok Try.prog 19 [(.int .i64 n), (.slice be m1 ce), (.slice bo m2 co)] R
      (fun v M => v = .bool (rightB n es own) ∧ M = R) := by
 obtain ⟨vs, hvl, hvs, hrow⟩ := hG
 refine ok_of (N := 79) Try.func19 rfl rfl rfl (fun W => ?_)
 refine c_seq (fun K1 hK1 => ?_)
 refine c_region ?_
 refine tp rfl (lv_assign rfl) ?_
 refine t_done ?_
 refine q_then_n (hK1 _ _ ?_)
 refine c_seq (fun K2 hK2 => ?_)
 refine c_seq (fun K3 hK3 => ?_)
 refine c_region ?_
 refine tp rfl (lv_move rfl) ?_
 by_cases h1 : n < 0
 · -- yes
  refine tp rfl (lv_lss rfl rfl (decide_eq_true h1)) ?_
  refine tp rfl (lv_move rfl) ?_
  refine t_skip rfl rfl rfl ?_
  refine t_skip rfl rfl rfl ?_
  refine tp rfl (lv_pick_t rfl rfl) ?_
  refine tp rfl (lv_move rfl) ?_
  refine t_skip rfl rfl rfl ?_
  refine t_skip rfl rfl rfl ?_
  refine t_skip rfl rfl rfl ?_
  refine t_skip rfl rfl rfl ?_
  refine tp rfl (lv_pick_t rfl rfl) ?_
  refine tp rfl (lv_move rfl) ?_
  refine t_skip rfl rfl rfl ?_
  refine t_skip rfl rfl rfl ?_
  refine t_skip rfl rfl rfl ?_
  refine t_skip rfl rfl rfl ?_
  refine tp rfl (lv_pick_t rfl rfl) ?_
  refine t_done ?_
  refine q_then_n (hK3 _ _ ?_)
  refine c_true rfl ?_
  refine c_seq (fun K4 hK4 => ?_)
  refine c_region ?_
  refine tp rfl (lv_assign rfl) ?_
  refine t_done ?_
  refine q_then_n (hK4 _ _ ?_)
  refine c_ret ?_
  refine q_then_r ?_
  refine q_ret rfl rfl ?_
  first
  | (rw [right_f (by omega)]; exact ⟨rfl, rfl⟩)
  | (rw [right_fi (i := i) (by omega) (goodI_f1 (by omega))]; exact ⟨rfl, rfl⟩)
  | (rw [right_fi (i := i) (by omega) (goodI_f2 (j := k) (by omega) (by omega))]; exact ⟨rfl, rfl⟩)
 · -- no
  refine tp rfl (lv_lss rfl rfl (decide_eq_false h1)) ?_
  refine tp rfl (lv_move rfl) ?_
  refine t_guard rfl rfl ?_
  refine tp rfl (lv_move rfl) ?_
  refine t_guard rfl rfl ?_
  by_cases h2 : n > 64
  · -- yes
   refine tp rfl (lv_gtr rfl rfl (decide_eq_true h2)) ?_
   refine tp rfl (lv_pick_f rfl rfl) ?_
   refine tp rfl (lv_move rfl) ?_
   refine t_skip rfl rfl rfl ?_
   refine t_skip rfl rfl rfl ?_
   refine t_skip rfl rfl rfl ?_
   refine t_skip rfl rfl rfl ?_
   refine tp rfl (lv_pick_t rfl rfl) ?_
   refine tp rfl (lv_move rfl) ?_
   refine t_skip rfl rfl rfl ?_
   refine t_skip rfl rfl rfl ?_
   refine t_skip rfl rfl rfl ?_
   refine t_skip rfl rfl rfl ?_
   refine tp rfl (lv_pick_t rfl rfl) ?_
   refine t_done ?_
   refine q_then_n (hK3 _ _ ?_)
   refine c_true rfl ?_
   refine c_seq (fun K4 hK4 => ?_)
   refine c_region ?_
   refine tp rfl (lv_assign rfl) ?_
   refine t_done ?_
   refine q_then_n (hK4 _ _ ?_)
   refine c_ret ?_
   refine q_then_r ?_
   refine q_ret rfl rfl ?_
   first
   | (rw [right_f (by omega)]; exact ⟨rfl, rfl⟩)
   | (rw [right_fi (i := i) (by omega) (goodI_f1 (by omega))]; exact ⟨rfl, rfl⟩)
   | (rw [right_fi (i := i) (by omega) (goodI_f2 (j := k) (by omega) (by omega))]; exact ⟨rfl, rfl⟩)
  · -- no
   refine tp rfl (lv_gtr rfl rfl (decide_eq_false h2)) ?_
   refine tp rfl (lv_pick_f rfl rfl) ?_
   refine tp rfl (lv_move rfl) ?_
   refine t_guard rfl rfl ?_
   refine tp rfl (lv_move rfl) ?_
   refine t_guard rfl rfl ?_
   refine tp rfl (lv_len Try.underlying22 rfl rfl) ?_
   refine t_guard rfl rfl ?_
   refine tp rfl (lv_move rfl) ?_
   refine t_guard rfl rfl ?_
   by_cases h3 : ((m1 : Nat) : Int) = n
   · -- yes
    refine tp rfl (lv_neq rfl rfl (bne_eq_false_iff_eq.2 h3)) ?_
    refine tp rfl (lv_pick_f rfl rfl) ?_
    refine tp rfl (lv_move rfl) ?_
    refine t_guard rfl rfl ?_
    refine tp rfl (lv_move rfl) ?_
    refine t_guard rfl rfl ?_
    refine tp rfl (lv_len Try.underlying23 rfl rfl) ?_
    refine t_guard rfl rfl ?_
    refine tp rfl (lv_move rfl) ?_
    refine t_guard rfl rfl ?_
    by_cases h4 : ((m2 : Nat) : Int) = n
    · -- yes
     refine tp rfl (lv_neq rfl rfl (bne_eq_false_iff_eq.2 h4)) ?_
     refine tp rfl (lv_pick_f rfl rfl) ?_
     refine t_done ?_
     refine q_then_n (hK3 _ _ ?_)
     refine c_false rfl ?_
     refine c_skip ?_
     refine q_then_n (hK2 _ _ ?_)
     refine c_seq (fun K4 hK4 => ?_)
     refine c_seq (fun K5 hK5 => ?_)
     refine c_region ?_
     refine tp rfl (lv_assign rfl) ?_
     refine t_done ?_
     refine q_then_n (hK5 _ _ ?_)
     refine c_block ?_
     refine c_loop (γ := (Nat)) (fun (i : Nat) => i ≤ es.length ∧ (∀ j, j < i → goodI n es own j = true)) (fun (i : Nat) => [(0, (.int .i64 n)), (1, (.slice be m1 ce)), (2, (.slice bo m2 co)), (7, (.int .i64 ((i : Nat) : Int))), (26, (.bool false))]) (fun (i : Nat) => R) (fun (i : Nat) => es.length - i) (0) ⟨by omega, fun j hj => absurd hj (by omega)⟩ ⟨rfl, rfl, rfl, rfl, rfl, trivial⟩ (fun _ h => h) ?_
     rintro i K6 hF hK6
     try dsimp only at hF hK6 ⊢
     obtain ⟨hi, hall⟩ := hF
     refine c_seq (fun K7 hK7 => ?_)
     refine c_seq (fun K8 hK8 => ?_)
     refine c_region ?_
     refine tp rfl (lv_move rfl) ?_
     refine tp rfl (lv_move rfl) ?_
     by_cases h5 : ((i : Nat) : Int) < n
     · -- yes
      refine tp rfl (lv_lss rfl rfl (decide_eq_true h5)) ?_
      refine t_done ?_
      refine q_then_n (hK8 _ _ ?_)
      refine c_true rfl ?_
      refine c_skip ?_
      refine q_then_n (hK7 _ _ ?_)
      refine c_seq (fun K9 hK9 => ?_)
      refine c_block ?_
      refine c_seq (fun K10 hK10 => ?_)
      refine c_seq (fun K11 hK11 => ?_)
      refine c_region ?_
      refine tp rfl (lv_move rfl) ?_
      refine tp rfl (lv_move rfl) ?_
      refine tp rfl (lv_indexAddr (k' := i) Try.underlying23 Try.sizeOf3 rfl rfl hbo (by omega) (by omega) (by omega)) ?_
      refine tp rfl (lv_load Try.isAgg3 rfl (Rd.gives ho (ints_get (by omega)))) ?_
      by_cases h6 : ((own).getD i 0) = 0
      · -- yes
       refine tp rfl (lv_neq rfl rfl (bne_eq_false_iff_eq.2 h6)) ?_
       refine tp rfl (lv_move rfl) ?_
       refine t_skip rfl rfl rfl ?_
       refine t_skip rfl rfl rfl ?_
       refine t_skip rfl rfl rfl ?_
       refine t_skip rfl rfl rfl ?_
       refine t_skip rfl rfl rfl ?_
       refine tp rfl (lv_pick_f rfl rfl) ?_
       refine tp rfl (lv_move rfl) ?_
       refine t_skip rfl rfl rfl ?_
       refine t_skip rfl rfl rfl ?_
       refine t_skip rfl rfl rfl ?_
       refine t_skip rfl rfl rfl ?_
       refine t_skip rfl rfl rfl ?_
       refine tp rfl (lv_pick_f rfl rfl) ?_
       refine t_done ?_
       refine q_then_n (hK11 _ _ ?_)
       refine c_false rfl ?_
       refine c_skip ?_
       refine q_then_n (hK10 _ _ ?_)
       refine c_seq (fun K12 hK12 => ?_)
       refine c_region ?_
       obtain ⟨bi, ci, hoki, hlei, hvi, hri⟩ := hrow i (by omega)
       have hlk := hlx _ (row_at_mem (show i < es.length by omega))
       refine tp rfl (lv_assign rfl) ?_
       refine t_done ?_
       refine q_then_n (hK12 _ _ ?_)
       refine c_block ?_
       refine c_loop (γ := (Nat)) (fun (k : Nat) => k ≤ (es.getD i []).length ∧ (∀ j, j < k → 0 ≤ (es.getD i []).getD j 0 ∧ (es.getD i []).getD j 0 < n)) (fun (k : Nat) => [(0, (.int .i64 n)), (1, (.slice be m1 ce)), (2, (.slice bo m2 co)), (7, (.int .i64 ((i : Nat) : Int))), (8, (.int .i64 ((k : Nat) : Int))), (26, (.bool false)), (29, (.bool true)), (50, (.bool false))]) (fun (k : Nat) => R) (fun (k : Nat) => (es.getD i []).length - k) (0) ⟨by omega, fun j hj => absurd hj (by omega)⟩ ⟨rfl, rfl, rfl, rfl, rfl, rfl, rfl, rfl, trivial⟩ (fun _ h => h) ?_
       rintro k K13 hF hK13
       try dsimp only at hF hK13 ⊢
       obtain ⟨hk, hbd⟩ := hF
       refine c_seq (fun K14 hK14 => ?_)
       refine c_seq (fun K15 hK15 => ?_)
       refine c_region ?_
       refine tp rfl (lv_move rfl) ?_
       refine tp rfl (lv_move rfl) ?_
       refine tp rfl (lv_move rfl) ?_
       refine tp rfl (lv_indexAddr (k' := i) Try.underlying22 Try.sizeOf23 rfl rfl hbe (by omega) (by omega) (by omega)) ?_
       refine tp rfl (lv_load Try.isAgg23 rfl (gives_as hvi (Rd.gives hvs (vals_get (by omega))))) ?_
       refine tp rfl (lv_len Try.underlying23 rfl rfl) ?_
       by_cases h7 : ((k : Nat) : Int) < (((es.getD i []).length : Nat) : Int)
       · -- yes
        refine tp rfl (lv_lss rfl rfl (decide_eq_true h7)) ?_
        refine t_done ?_
        refine q_then_n (hK15 _ _ ?_)
        refine c_true rfl ?_
        refine c_skip ?_
        refine q_then_n (hK14 _ _ ?_)
        refine c_seq (fun K16 hK16 => ?_)
        refine c_block ?_
        refine c_seq (fun K17 hK17 => ?_)
        refine c_region ?_
        refine tp rfl (lv_move rfl) ?_
        refine tp rfl (lv_move rfl) ?_
        refine tp rfl (lv_indexAddr (k' := i) Try.underlying22 Try.sizeOf23 rfl rfl hbe (by omega) (by omega) (by omega)) ?_
        refine tp rfl (lv_load Try.isAgg23 rfl (gives_as hvi (Rd.gives hvs (vals_get (by omega))))) ?_
        refine tp rfl (lv_move rfl) ?_
        refine tp rfl (lv_indexAddr (k' := k) Try.underlying23 Try.sizeOf3 rfl rfl hoki (by omega) (by omega) (by omega)) ?_
        refine tp rfl (lv_load Try.isAgg3 rfl (Rd.gives hri (ints_get (by omega)))) ?_
        by_cases h8 : ((es.getD i []).getD k 0) < 0
        · -- yes
         refine tp rfl (lv_lss rfl rfl (decide_eq_true h8)) ?_
         refine tp rfl (lv_move rfl) ?_
         refine t_skip rfl rfl rfl ?_
         refine t_skip rfl rfl rfl ?_
         refine t_skip rfl rfl rfl ?_
         refine t_skip rfl rfl rfl ?_
         refine t_skip rfl rfl rfl ?_
         refine t_skip rfl rfl rfl ?_
         refine t_skip rfl rfl rfl ?_
         refine t_skip rfl rfl rfl ?_
         refine t_skip rfl rfl rfl ?_
         refine tp rfl (lv_pick_t rfl rfl) ?_
         refine t_done ?_
         refine q_then_n (hK17 _ _ ?_)
         refine c_true rfl ?_
         refine c_seq (fun K18 hK18 => ?_)
         refine c_region ?_
         refine tp rfl (lv_assign rfl) ?_
         refine t_done ?_
         refine q_then_n (hK18 _ _ ?_)
         refine c_ret ?_
         refine q_in_r ?_
         refine q_then_r ?_
         refine q_then_r ?_
         refine q_in_r ?_
         refine q_in_r ?_
         refine q_then_r ?_
         refine q_then_r ?_
         refine q_in_r ?_
         refine q_then_r ?_
         refine q_ret rfl rfl ?_
         first
         | (rw [right_f (by omega)]; exact ⟨rfl, rfl⟩)
         | (rw [right_fi (i := i) (by omega) (goodI_f1 (by omega))]; exact ⟨rfl, rfl⟩)
         | (rw [right_fi (i := i) (by omega) (goodI_f2 (j := k) (by omega) (by omega))]; exact ⟨rfl, rfl⟩)
        · -- no
         refine tp rfl (lv_lss rfl rfl (decide_eq_false h8)) ?_
         refine tp rfl (lv_move rfl) ?_
         refine t_guard rfl rfl ?_
         refine tp rfl (lv_move rfl) ?_
         refine t_guard rfl rfl ?_
         refine tp rfl (lv_move rfl) ?_
         refine t_guard rfl rfl ?_
         refine tp rfl (lv_indexAddr (k' := i) Try.underlying22 Try.sizeOf23 rfl rfl hbe (by omega) (by omega) (by omega)) ?_
         refine t_guard rfl rfl ?_
         refine tp rfl (lv_load Try.isAgg23 rfl (gives_as hvi (Rd.gives hvs (vals_get (by omega))))) ?_
         refine t_guard rfl rfl ?_
         refine tp rfl (lv_move rfl) ?_
         refine t_guard rfl rfl ?_
         refine tp rfl (lv_indexAddr (k' := k) Try.underlying23 Try.sizeOf3 rfl rfl hoki (by omega) (by omega) (by omega)) ?_
         refine t_guard rfl rfl ?_
         refine tp rfl (lv_load Try.isAgg3 rfl (Rd.gives hri (ints_get (by omega)))) ?_
         refine t_guard rfl rfl ?_
         refine tp rfl (lv_move rfl) ?_
         refine t_guard rfl rfl ?_
         by_cases h9 : ((es.getD i []).getD k 0) ≥ n
         · -- yes
          refine tp rfl (lv_geq rfl rfl (decide_eq_true h9)) ?_
          refine tp rfl (lv_pick_f rfl rfl) ?_
          refine t_done ?_
          refine q_then_n (hK17 _ _ ?_)
          refine c_true rfl ?_
          refine c_seq (fun K18 hK18 => ?_)
          refine c_region ?_
          refine tp rfl (lv_assign rfl) ?_
          refine t_done ?_
          refine q_then_n (hK18 _ _ ?_)
          refine c_ret ?_
          refine q_in_r ?_
          refine q_then_r ?_
          refine q_then_r ?_
          refine q_in_r ?_
          refine q_in_r ?_
          refine q_then_r ?_
          refine q_then_r ?_
          refine q_in_r ?_
          refine q_then_r ?_
          refine q_ret rfl rfl ?_
          first
          | (rw [right_f (by omega)]; exact ⟨rfl, rfl⟩)
          | (rw [right_fi (i := i) (by omega) (goodI_f1 (by omega))]; exact ⟨rfl, rfl⟩)
          | (rw [right_fi (i := i) (by omega) (goodI_f2 (j := k) (by omega) (by omega))]; exact ⟨rfl, rfl⟩)
         · -- no
          refine tp rfl (lv_geq rfl rfl (decide_eq_false h9)) ?_
          refine tp rfl (lv_pick_f rfl rfl) ?_
          refine t_done ?_
          refine q_then_n (hK17 _ _ ?_)
          refine c_false rfl ?_
          refine c_skip ?_
          refine q_in_n ?_
          refine q_then_n (hK16 _ _ ?_)
          refine c_region ?_
          refine tp rfl (lv_move rfl) ?_
          refine tp rfl (lv_add (c := ((k + 1 : Nat) : Int)) rfl rfl (wr_i64_succ (by omega))) ?_
          refine tp rfl (lv_assign rfl) ?_
          refine t_done ?_
          refine q_then_n ?_
          exact t_weak (by exact ⟨rfl, rfl, rfl, rfl, rfl, rfl, rfl, rfl, trivial⟩) ((hK13 (k + 1) ⟨by omega, all_bd hbd ⟨by omega, by omega⟩⟩ (by omega)))
       · -- no
        refine tp rfl (lv_lss rfl rfl (decide_eq_false h7)) ?_
        refine t_done ?_
        refine q_then_n (hK15 _ _ ?_)
        refine c_false rfl ?_
        refine c_exit ?_
        refine q_then_x ?_
        refine q_then_x ?_
        refine q_in_x ?_
        refine q_in_n ?_
        refine q_then_n (hK9 _ _ ?_)
        refine c_region ?_
        refine tp rfl (lv_move rfl) ?_
        refine tp rfl (lv_add (c := ((i + 1 : Nat) : Int)) rfl rfl (wr_i64_succ (by omega))) ?_
        refine tp rfl (lv_assign rfl) ?_
        refine t_done ?_
        refine q_then_n ?_
        exact t_weak (by exact ⟨rfl, rfl, rfl, rfl, rfl, trivial⟩) ((hK6 (i + 1) ⟨by omega, good_all hall (goodI_mk (by omega) (fun j hj => hbd j (by omega)))⟩ (by omega)))
      · -- no
       refine tp rfl (lv_neq rfl rfl (bne_iff_ne.2 h6)) ?_
       refine tp rfl (lv_move rfl) ?_
       refine t_guard rfl rfl ?_
       refine tp rfl (lv_move rfl) ?_
       refine t_guard rfl rfl ?_
       refine tp rfl (lv_move rfl) ?_
       refine t_guard rfl rfl ?_
       refine tp rfl (lv_indexAddr (k' := i) Try.underlying23 Try.sizeOf3 rfl rfl hbo (by omega) (by omega) (by omega)) ?_
       refine t_guard rfl rfl ?_
       refine tp rfl (lv_load Try.isAgg3 rfl (Rd.gives ho (ints_get (by omega)))) ?_
       refine t_guard rfl rfl ?_
       by_cases h10 : ((own).getD i 0) = 5
       · -- yes
        refine tp rfl (lv_neq rfl rfl (bne_eq_false_iff_eq.2 h10)) ?_
        refine tp rfl (lv_pick_t rfl rfl) ?_
        refine tp rfl (lv_move rfl) ?_
        refine t_skip rfl rfl rfl ?_
        refine t_skip rfl rfl rfl ?_
        refine t_skip rfl rfl rfl ?_
        refine t_skip rfl rfl rfl ?_
        refine t_skip rfl rfl rfl ?_
        refine tp rfl (lv_pick_f rfl rfl) ?_
        refine t_done ?_
        refine q_then_n (hK11 _ _ ?_)
        refine c_false rfl ?_
        refine c_skip ?_
        refine q_then_n (hK10 _ _ ?_)
        refine c_seq (fun K12 hK12 => ?_)
        refine c_region ?_
        obtain ⟨bi, ci, hoki, hlei, hvi, hri⟩ := hrow i (by omega)
        have hlk := hlx _ (row_at_mem (show i < es.length by omega))
        refine tp rfl (lv_assign rfl) ?_
        refine t_done ?_
        refine q_then_n (hK12 _ _ ?_)
        refine c_block ?_
        refine c_loop (γ := (Nat)) (fun (k : Nat) => k ≤ (es.getD i []).length ∧ (∀ j, j < k → 0 ≤ (es.getD i []).getD j 0 ∧ (es.getD i []).getD j 0 < n)) (fun (k : Nat) => [(0, (.int .i64 n)), (1, (.slice be m1 ce)), (2, (.slice bo m2 co)), (7, (.int .i64 ((i : Nat) : Int))), (8, (.int .i64 ((k : Nat) : Int))), (26, (.bool false)), (29, (.bool true)), (50, (.bool false))]) (fun (k : Nat) => R) (fun (k : Nat) => (es.getD i []).length - k) (0) ⟨by omega, fun j hj => absurd hj (by omega)⟩ ⟨rfl, rfl, rfl, rfl, rfl, rfl, rfl, rfl, trivial⟩ (fun _ h => h) ?_
        rintro k K13 hF hK13
        try dsimp only at hF hK13 ⊢
        obtain ⟨hk, hbd⟩ := hF
        refine c_seq (fun K14 hK14 => ?_)
        refine c_seq (fun K15 hK15 => ?_)
        refine c_region ?_
        refine tp rfl (lv_move rfl) ?_
        refine tp rfl (lv_move rfl) ?_
        refine tp rfl (lv_move rfl) ?_
        refine tp rfl (lv_indexAddr (k' := i) Try.underlying22 Try.sizeOf23 rfl rfl hbe (by omega) (by omega) (by omega)) ?_
        refine tp rfl (lv_load Try.isAgg23 rfl (gives_as hvi (Rd.gives hvs (vals_get (by omega))))) ?_
        refine tp rfl (lv_len Try.underlying23 rfl rfl) ?_
        by_cases h11 : ((k : Nat) : Int) < (((es.getD i []).length : Nat) : Int)
        · -- yes
         refine tp rfl (lv_lss rfl rfl (decide_eq_true h11)) ?_
         refine t_done ?_
         refine q_then_n (hK15 _ _ ?_)
         refine c_true rfl ?_
         refine c_skip ?_
         refine q_then_n (hK14 _ _ ?_)
         refine c_seq (fun K16 hK16 => ?_)
         refine c_block ?_
         refine c_seq (fun K17 hK17 => ?_)
         refine c_region ?_
         refine tp rfl (lv_move rfl) ?_
         refine tp rfl (lv_move rfl) ?_
         refine tp rfl (lv_indexAddr (k' := i) Try.underlying22 Try.sizeOf23 rfl rfl hbe (by omega) (by omega) (by omega)) ?_
         refine tp rfl (lv_load Try.isAgg23 rfl (gives_as hvi (Rd.gives hvs (vals_get (by omega))))) ?_
         refine tp rfl (lv_move rfl) ?_
         refine tp rfl (lv_indexAddr (k' := k) Try.underlying23 Try.sizeOf3 rfl rfl hoki (by omega) (by omega) (by omega)) ?_
         refine tp rfl (lv_load Try.isAgg3 rfl (Rd.gives hri (ints_get (by omega)))) ?_
         by_cases h12 : ((es.getD i []).getD k 0) < 0
         · -- yes
          refine tp rfl (lv_lss rfl rfl (decide_eq_true h12)) ?_
          refine tp rfl (lv_move rfl) ?_
          refine t_skip rfl rfl rfl ?_
          refine t_skip rfl rfl rfl ?_
          refine t_skip rfl rfl rfl ?_
          refine t_skip rfl rfl rfl ?_
          refine t_skip rfl rfl rfl ?_
          refine t_skip rfl rfl rfl ?_
          refine t_skip rfl rfl rfl ?_
          refine t_skip rfl rfl rfl ?_
          refine t_skip rfl rfl rfl ?_
          refine tp rfl (lv_pick_t rfl rfl) ?_
          refine t_done ?_
          refine q_then_n (hK17 _ _ ?_)
          refine c_true rfl ?_
          refine c_seq (fun K18 hK18 => ?_)
          refine c_region ?_
          refine tp rfl (lv_assign rfl) ?_
          refine t_done ?_
          refine q_then_n (hK18 _ _ ?_)
          refine c_ret ?_
          refine q_in_r ?_
          refine q_then_r ?_
          refine q_then_r ?_
          refine q_in_r ?_
          refine q_in_r ?_
          refine q_then_r ?_
          refine q_then_r ?_
          refine q_in_r ?_
          refine q_then_r ?_
          refine q_ret rfl rfl ?_
          first
          | (rw [right_f (by omega)]; exact ⟨rfl, rfl⟩)
          | (rw [right_fi (i := i) (by omega) (goodI_f1 (by omega))]; exact ⟨rfl, rfl⟩)
          | (rw [right_fi (i := i) (by omega) (goodI_f2 (j := k) (by omega) (by omega))]; exact ⟨rfl, rfl⟩)
         · -- no
          refine tp rfl (lv_lss rfl rfl (decide_eq_false h12)) ?_
          refine tp rfl (lv_move rfl) ?_
          refine t_guard rfl rfl ?_
          refine tp rfl (lv_move rfl) ?_
          refine t_guard rfl rfl ?_
          refine tp rfl (lv_move rfl) ?_
          refine t_guard rfl rfl ?_
          refine tp rfl (lv_indexAddr (k' := i) Try.underlying22 Try.sizeOf23 rfl rfl hbe (by omega) (by omega) (by omega)) ?_
          refine t_guard rfl rfl ?_
          refine tp rfl (lv_load Try.isAgg23 rfl (gives_as hvi (Rd.gives hvs (vals_get (by omega))))) ?_
          refine t_guard rfl rfl ?_
          refine tp rfl (lv_move rfl) ?_
          refine t_guard rfl rfl ?_
          refine tp rfl (lv_indexAddr (k' := k) Try.underlying23 Try.sizeOf3 rfl rfl hoki (by omega) (by omega) (by omega)) ?_
          refine t_guard rfl rfl ?_
          refine tp rfl (lv_load Try.isAgg3 rfl (Rd.gives hri (ints_get (by omega)))) ?_
          refine t_guard rfl rfl ?_
          refine tp rfl (lv_move rfl) ?_
          refine t_guard rfl rfl ?_
          by_cases h13 : ((es.getD i []).getD k 0) ≥ n
          · -- yes
           refine tp rfl (lv_geq rfl rfl (decide_eq_true h13)) ?_
           refine tp rfl (lv_pick_f rfl rfl) ?_
           refine t_done ?_
           refine q_then_n (hK17 _ _ ?_)
           refine c_true rfl ?_
           refine c_seq (fun K18 hK18 => ?_)
           refine c_region ?_
           refine tp rfl (lv_assign rfl) ?_
           refine t_done ?_
           refine q_then_n (hK18 _ _ ?_)
           refine c_ret ?_
           refine q_in_r ?_
           refine q_then_r ?_
           refine q_then_r ?_
           refine q_in_r ?_
           refine q_in_r ?_
           refine q_then_r ?_
           refine q_then_r ?_
           refine q_in_r ?_
           refine q_then_r ?_
           refine q_ret rfl rfl ?_
           first
           | (rw [right_f (by omega)]; exact ⟨rfl, rfl⟩)
           | (rw [right_fi (i := i) (by omega) (goodI_f1 (by omega))]; exact ⟨rfl, rfl⟩)
           | (rw [right_fi (i := i) (by omega) (goodI_f2 (j := k) (by omega) (by omega))]; exact ⟨rfl, rfl⟩)
          · -- no
           refine tp rfl (lv_geq rfl rfl (decide_eq_false h13)) ?_
           refine tp rfl (lv_pick_f rfl rfl) ?_
           refine t_done ?_
           refine q_then_n (hK17 _ _ ?_)
           refine c_false rfl ?_
           refine c_skip ?_
           refine q_in_n ?_
           refine q_then_n (hK16 _ _ ?_)
           refine c_region ?_
           refine tp rfl (lv_move rfl) ?_
           refine tp rfl (lv_add (c := ((k + 1 : Nat) : Int)) rfl rfl (wr_i64_succ (by omega))) ?_
           refine tp rfl (lv_assign rfl) ?_
           refine t_done ?_
           refine q_then_n ?_
           exact t_weak (by exact ⟨rfl, rfl, rfl, rfl, rfl, rfl, rfl, rfl, trivial⟩) ((hK13 (k + 1) ⟨by omega, all_bd hbd ⟨by omega, by omega⟩⟩ (by omega)))
        · -- no
         refine tp rfl (lv_lss rfl rfl (decide_eq_false h11)) ?_
         refine t_done ?_
         refine q_then_n (hK15 _ _ ?_)
         refine c_false rfl ?_
         refine c_exit ?_
         refine q_then_x ?_
         refine q_then_x ?_
         refine q_in_x ?_
         refine q_in_n ?_
         refine q_then_n (hK9 _ _ ?_)
         refine c_region ?_
         refine tp rfl (lv_move rfl) ?_
         refine tp rfl (lv_add (c := ((i + 1 : Nat) : Int)) rfl rfl (wr_i64_succ (by omega))) ?_
         refine tp rfl (lv_assign rfl) ?_
         refine t_done ?_
         refine q_then_n ?_
         exact t_weak (by exact ⟨rfl, rfl, rfl, rfl, rfl, trivial⟩) ((hK6 (i + 1) ⟨by omega, good_all hall (goodI_mk (by omega) (fun j hj => hbd j (by omega)))⟩ (by omega)))
       · -- no
        refine tp rfl (lv_neq rfl rfl (bne_iff_ne.2 h10)) ?_
        refine tp rfl (lv_pick_t rfl rfl) ?_
        refine tp rfl (lv_move rfl) ?_
        refine t_guard rfl rfl ?_
        refine tp rfl (lv_move rfl) ?_
        refine t_guard rfl rfl ?_
        refine tp rfl (lv_move rfl) ?_
        refine t_guard rfl rfl ?_
        refine tp rfl (lv_indexAddr (k' := i) Try.underlying23 Try.sizeOf3 rfl rfl hbo (by omega) (by omega) (by omega)) ?_
        refine t_guard rfl rfl ?_
        refine tp rfl (lv_load Try.isAgg3 rfl (Rd.gives ho (ints_get (by omega)))) ?_
        refine t_guard rfl rfl ?_
        by_cases h14 : ((own).getD i 0) = 6
        · -- yes
         refine tp rfl (lv_neq rfl rfl (bne_eq_false_iff_eq.2 h14)) ?_
         refine tp rfl (lv_pick_t rfl rfl) ?_
         refine t_done ?_
         refine q_then_n (hK11 _ _ ?_)
         refine c_false rfl ?_
         refine c_skip ?_
         refine q_then_n (hK10 _ _ ?_)
         refine c_seq (fun K12 hK12 => ?_)
         refine c_region ?_
         obtain ⟨bi, ci, hoki, hlei, hvi, hri⟩ := hrow i (by omega)
         have hlk := hlx _ (row_at_mem (show i < es.length by omega))
         refine tp rfl (lv_assign rfl) ?_
         refine t_done ?_
         refine q_then_n (hK12 _ _ ?_)
         refine c_block ?_
         refine c_loop (γ := (Nat)) (fun (k : Nat) => k ≤ (es.getD i []).length ∧ (∀ j, j < k → 0 ≤ (es.getD i []).getD j 0 ∧ (es.getD i []).getD j 0 < n)) (fun (k : Nat) => [(0, (.int .i64 n)), (1, (.slice be m1 ce)), (2, (.slice bo m2 co)), (7, (.int .i64 ((i : Nat) : Int))), (8, (.int .i64 ((k : Nat) : Int))), (26, (.bool false)), (29, (.bool true)), (50, (.bool false))]) (fun (k : Nat) => R) (fun (k : Nat) => (es.getD i []).length - k) (0) ⟨by omega, fun j hj => absurd hj (by omega)⟩ ⟨rfl, rfl, rfl, rfl, rfl, rfl, rfl, rfl, trivial⟩ (fun _ h => h) ?_
         rintro k K13 hF hK13
         try dsimp only at hF hK13 ⊢
         obtain ⟨hk, hbd⟩ := hF
         refine c_seq (fun K14 hK14 => ?_)
         refine c_seq (fun K15 hK15 => ?_)
         refine c_region ?_
         refine tp rfl (lv_move rfl) ?_
         refine tp rfl (lv_move rfl) ?_
         refine tp rfl (lv_move rfl) ?_
         refine tp rfl (lv_indexAddr (k' := i) Try.underlying22 Try.sizeOf23 rfl rfl hbe (by omega) (by omega) (by omega)) ?_
         refine tp rfl (lv_load Try.isAgg23 rfl (gives_as hvi (Rd.gives hvs (vals_get (by omega))))) ?_
         refine tp rfl (lv_len Try.underlying23 rfl rfl) ?_
         by_cases h15 : ((k : Nat) : Int) < (((es.getD i []).length : Nat) : Int)
         · -- yes
          refine tp rfl (lv_lss rfl rfl (decide_eq_true h15)) ?_
          refine t_done ?_
          refine q_then_n (hK15 _ _ ?_)
          refine c_true rfl ?_
          refine c_skip ?_
          refine q_then_n (hK14 _ _ ?_)
          refine c_seq (fun K16 hK16 => ?_)
          refine c_block ?_
          refine c_seq (fun K17 hK17 => ?_)
          refine c_region ?_
          refine tp rfl (lv_move rfl) ?_
          refine tp rfl (lv_move rfl) ?_
          refine tp rfl (lv_indexAddr (k' := i) Try.underlying22 Try.sizeOf23 rfl rfl hbe (by omega) (by omega) (by omega)) ?_
          refine tp rfl (lv_load Try.isAgg23 rfl (gives_as hvi (Rd.gives hvs (vals_get (by omega))))) ?_
          refine tp rfl (lv_move rfl) ?_
          refine tp rfl (lv_indexAddr (k' := k) Try.underlying23 Try.sizeOf3 rfl rfl hoki (by omega) (by omega) (by omega)) ?_
          refine tp rfl (lv_load Try.isAgg3 rfl (Rd.gives hri (ints_get (by omega)))) ?_
          by_cases h16 : ((es.getD i []).getD k 0) < 0
          · -- yes
           refine tp rfl (lv_lss rfl rfl (decide_eq_true h16)) ?_
           refine tp rfl (lv_move rfl) ?_
           refine t_skip rfl rfl rfl ?_
           refine t_skip rfl rfl rfl ?_
           refine t_skip rfl rfl rfl ?_
           refine t_skip rfl rfl rfl ?_
           refine t_skip rfl rfl rfl ?_
           refine t_skip rfl rfl rfl ?_
           refine t_skip rfl rfl rfl ?_
           refine t_skip rfl rfl rfl ?_
           refine t_skip rfl rfl rfl ?_
           refine tp rfl (lv_pick_t rfl rfl) ?_
           refine t_done ?_
           refine q_then_n (hK17 _ _ ?_)
           refine c_true rfl ?_
           refine c_seq (fun K18 hK18 => ?_)
           refine c_region ?_
           refine tp rfl (lv_assign rfl) ?_
           refine t_done ?_
           refine q_then_n (hK18 _ _ ?_)
           refine c_ret ?_
           refine q_in_r ?_
           refine q_then_r ?_
           refine q_then_r ?_
           refine q_in_r ?_
           refine q_in_r ?_
           refine q_then_r ?_
           refine q_then_r ?_
           refine q_in_r ?_
           refine q_then_r ?_
           refine q_ret rfl rfl ?_
           first
           | (rw [right_f (by omega)]; exact ⟨rfl, rfl⟩)
           | (rw [right_fi (i := i) (by omega) (goodI_f1 (by omega))]; exact ⟨rfl, rfl⟩)
           | (rw [right_fi (i := i) (by omega) (goodI_f2 (j := k) (by omega) (by omega))]; exact ⟨rfl, rfl⟩)
          · -- no
           refine tp rfl (lv_lss rfl rfl (decide_eq_false h16)) ?_
           refine tp rfl (lv_move rfl) ?_
           refine t_guard rfl rfl ?_
           refine tp rfl (lv_move rfl) ?_
           refine t_guard rfl rfl ?_
           refine tp rfl (lv_move rfl) ?_
           refine t_guard rfl rfl ?_
           refine tp rfl (lv_indexAddr (k' := i) Try.underlying22 Try.sizeOf23 rfl rfl hbe (by omega) (by omega) (by omega)) ?_
           refine t_guard rfl rfl ?_
           refine tp rfl (lv_load Try.isAgg23 rfl (gives_as hvi (Rd.gives hvs (vals_get (by omega))))) ?_
           refine t_guard rfl rfl ?_
           refine tp rfl (lv_move rfl) ?_
           refine t_guard rfl rfl ?_
           refine tp rfl (lv_indexAddr (k' := k) Try.underlying23 Try.sizeOf3 rfl rfl hoki (by omega) (by omega) (by omega)) ?_
           refine t_guard rfl rfl ?_
           refine tp rfl (lv_load Try.isAgg3 rfl (Rd.gives hri (ints_get (by omega)))) ?_
           refine t_guard rfl rfl ?_
           refine tp rfl (lv_move rfl) ?_
           refine t_guard rfl rfl ?_
           by_cases h17 : ((es.getD i []).getD k 0) ≥ n
           · -- yes
            refine tp rfl (lv_geq rfl rfl (decide_eq_true h17)) ?_
            refine tp rfl (lv_pick_f rfl rfl) ?_
            refine t_done ?_
            refine q_then_n (hK17 _ _ ?_)
            refine c_true rfl ?_
            refine c_seq (fun K18 hK18 => ?_)
            refine c_region ?_
            refine tp rfl (lv_assign rfl) ?_
            refine t_done ?_
            refine q_then_n (hK18 _ _ ?_)
            refine c_ret ?_
            refine q_in_r ?_
            refine q_then_r ?_
            refine q_then_r ?_
            refine q_in_r ?_
            refine q_in_r ?_
            refine q_then_r ?_
            refine q_then_r ?_
            refine q_in_r ?_
            refine q_then_r ?_
            refine q_ret rfl rfl ?_
            first
            | (rw [right_f (by omega)]; exact ⟨rfl, rfl⟩)
            | (rw [right_fi (i := i) (by omega) (goodI_f1 (by omega))]; exact ⟨rfl, rfl⟩)
            | (rw [right_fi (i := i) (by omega) (goodI_f2 (j := k) (by omega) (by omega))]; exact ⟨rfl, rfl⟩)
           · -- no
            refine tp rfl (lv_geq rfl rfl (decide_eq_false h17)) ?_
            refine tp rfl (lv_pick_f rfl rfl) ?_
            refine t_done ?_
            refine q_then_n (hK17 _ _ ?_)
            refine c_false rfl ?_
            refine c_skip ?_
            refine q_in_n ?_
            refine q_then_n (hK16 _ _ ?_)
            refine c_region ?_
            refine tp rfl (lv_move rfl) ?_
            refine tp rfl (lv_add (c := ((k + 1 : Nat) : Int)) rfl rfl (wr_i64_succ (by omega))) ?_
            refine tp rfl (lv_assign rfl) ?_
            refine t_done ?_
            refine q_then_n ?_
            exact t_weak (by exact ⟨rfl, rfl, rfl, rfl, rfl, rfl, rfl, rfl, trivial⟩) ((hK13 (k + 1) ⟨by omega, all_bd hbd ⟨by omega, by omega⟩⟩ (by omega)))
         · -- no
          refine tp rfl (lv_lss rfl rfl (decide_eq_false h15)) ?_
          refine t_done ?_
          refine q_then_n (hK15 _ _ ?_)
          refine c_false rfl ?_
          refine c_exit ?_
          refine q_then_x ?_
          refine q_then_x ?_
          refine q_in_x ?_
          refine q_in_n ?_
          refine q_then_n (hK9 _ _ ?_)
          refine c_region ?_
          refine tp rfl (lv_move rfl) ?_
          refine tp rfl (lv_add (c := ((i + 1 : Nat) : Int)) rfl rfl (wr_i64_succ (by omega))) ?_
          refine tp rfl (lv_assign rfl) ?_
          refine t_done ?_
          refine q_then_n ?_
          exact t_weak (by exact ⟨rfl, rfl, rfl, rfl, rfl, trivial⟩) ((hK6 (i + 1) ⟨by omega, good_all hall (goodI_mk (by omega) (fun j hj => hbd j (by omega)))⟩ (by omega)))
        · -- no
         refine tp rfl (lv_neq rfl rfl (bne_iff_ne.2 h14)) ?_
         refine tp rfl (lv_pick_t rfl rfl) ?_
         refine t_done ?_
         refine q_then_n (hK11 _ _ ?_)
         refine c_true rfl ?_
         refine c_seq (fun K12 hK12 => ?_)
         refine c_region ?_
         refine tp rfl (lv_assign rfl) ?_
         refine t_done ?_
         refine q_then_n (hK12 _ _ ?_)
         refine c_ret ?_
         refine q_then_r ?_
         refine q_in_r ?_
         refine q_then_r ?_
         refine q_then_r ?_
         refine q_in_r ?_
         refine q_then_r ?_
         refine q_ret rfl rfl ?_
         first
         | (rw [right_f (by omega)]; exact ⟨rfl, rfl⟩)
         | (rw [right_fi (i := i) (by omega) (goodI_f1 (by omega))]; exact ⟨rfl, rfl⟩)
         | (rw [right_fi (i := i) (by omega) (goodI_f2 (j := k) (by omega) (by omega))]; exact ⟨rfl, rfl⟩)
     · -- no
      refine tp rfl (lv_lss rfl rfl (decide_eq_false h5)) ?_
      refine t_done ?_
      refine q_then_n (hK8 _ _ ?_)
      refine c_false rfl ?_
      refine c_exit ?_
      refine q_then_x ?_
      refine q_then_x ?_
      refine q_in_x ?_
      refine q_then_n (hK4 _ _ ?_)
      refine c_seq (fun K9 hK9 => ?_)
      refine c_region ?_
      refine tp rfl (lv_assign rfl) ?_
      refine t_done ?_
      refine q_then_n (hK9 _ _ ?_)
      refine c_ret ?_
      refine q_ret rfl rfl ?_
      rw [right_iff.2 ⟨by omega, by omega, by omega, by omega, fun j hj => hall j (by omega)⟩]
      exact ⟨rfl, rfl⟩
    · -- no
     refine tp rfl (lv_neq rfl rfl (bne_iff_ne.2 h4)) ?_
     refine tp rfl (lv_pick_f rfl rfl) ?_
     refine t_done ?_
     refine q_then_n (hK3 _ _ ?_)
     refine c_true rfl ?_
     refine c_seq (fun K4 hK4 => ?_)
     refine c_region ?_
     refine tp rfl (lv_assign rfl) ?_
     refine t_done ?_
     refine q_then_n (hK4 _ _ ?_)
     refine c_ret ?_
     refine q_then_r ?_
     refine q_ret rfl rfl ?_
     first
     | (rw [right_f (by omega)]; exact ⟨rfl, rfl⟩)
     | (rw [right_fi (i := i) (by omega) (goodI_f1 (by omega))]; exact ⟨rfl, rfl⟩)
     | (rw [right_fi (i := i) (by omega) (goodI_f2 (j := k) (by omega) (by omega))]; exact ⟨rfl, rfl⟩)
   · -- no
    refine tp rfl (lv_neq rfl rfl (bne_iff_ne.2 h3)) ?_
    refine tp rfl (lv_pick_f rfl rfl) ?_
    refine tp rfl (lv_move rfl) ?_
    refine t_skip rfl rfl rfl ?_
    refine t_skip rfl rfl rfl ?_
    refine t_skip rfl rfl rfl ?_
    refine t_skip rfl rfl rfl ?_
    refine tp rfl (lv_pick_t rfl rfl) ?_
    refine t_done ?_
    refine q_then_n (hK3 _ _ ?_)
    refine c_true rfl ?_
    refine c_seq (fun K4 hK4 => ?_)
    refine c_region ?_
    refine tp rfl (lv_assign rfl) ?_
    refine t_done ?_
    refine q_then_n (hK4 _ _ ?_)
    refine c_ret ?_
    refine q_then_r ?_
    refine q_ret rfl rfl ?_
    first
    | (rw [right_f (by omega)]; exact ⟨rfl, rfl⟩)
    | (rw [right_fi (i := i) (by omega) (goodI_f1 (by omega))]; exact ⟨rfl, rfl⟩)
    | (rw [right_fi (i := i) (by omega) (goodI_f2 (j := k) (by omega) (by omega))]; exact ⟨rfl, rfl⟩)

set_option maxHeartbeats 4000000 in
theorem reaches_ok {R : List HP} {N : Nat} {es : List (List Int)} {own : List Int} {be : Option Addr} {ce : Nat} (hfo : FOk N es own) (hlx : ∀ l ∈ es, l.length ≤ 1000000) (hG : GridR R be es) (hbe : SlOk be N) (i : Nat) (hi : i < N) :
    Ok Try.prog 20 [(.slice be N ce), (.int .i64 ((i : Nat) : Int))] R
      (OutSl 4 1 N (bools (wayL N es i)) R) := by
 have hsm := hfo.small
 have hel := hfo.le
 have hin := hfo.in_
 obtain ⟨vs, hvl, hvs, hrow⟩ := hG
 refine ok_of (N := 40) Try.func20 rfl rfl rfl (fun W => ?_)
 refine c_seq (fun K1 hK1 => ?_)
 refine c_region ?_
 refine tp rfl (lv_assign rfl) ?_
 refine t_done ?_
 refine q_then_n (hK1 _ _ ?_)
 refine c_seq (fun K2 hK2 => ?_)
 refine c_region ?_
 refine tp rfl (lv_move rfl) ?_
 refine tp rfl (lv_len Try.underlying22 rfl rfl) ?_
 refine tm rfl (mv_makeSlice (i := Try.t4) Try.underlying38 Try.type4 rfl rfl rfl rfl rfl (by omega) (by rw [show Try.t4.bytes = 1 from rfl]; omega) (by omega)) ?_
 rintro _ _ ⟨bs1, cp2, hok3, hle4, rfl, rfl⟩
 rw [show (((N : Nat) : Int)).toNat = N from rfl] at hok3 hle4 ⊢
 rw [bools_rep]
 refine tp rfl (lv_assign rfl) ?_
 refine t_done ?_
 refine q_then_n (hK2 _ _ ?_)
 refine c_seq (fun K3 hK3 => ?_)
 refine c_region ?_
 obtain ⟨bi, ci, hoki, hlei, hvi, hri⟩ := hrow i (by omega)
 have hlk := hlx _ (row_at_mem (show i < es.length by omega))
 refine tm rfl (mv_buildSlice (cs := []) Try.underlying23 Try.sizeOf3 Try.zeroValue3 (by decide) rfl rfl rfl rfl) ?_
 rintro _ _ ⟨bs5, cp6, hok7, hle8, rfl, rfl⟩
 refine tp rfl (lv_move rfl) ?_
 refine tp rfl (lv_move rfl) ?_
 refine tp rfl (lv_indexAddr (k' := i) Try.underlying22 Try.sizeOf23 rfl rfl hbe (by omega) (by omega) (by omega)) ?_
 refine tp rfl (lv_load Try.isAgg23 rfl (gives_as hvi (Rd.gives (Rd.cons (Rd.cons hvs)) (vals_get (by omega))))) ?_
 refine tm rfl (mv_append (i := Try.t3) Try.underlying23 Try.type3 rfl rfl rfl (by decide) rfl rfl hoki (by first | (simp; done) | (simp; omega)) (Rd.cons (Rd.cons hri)) ints_one (by rw [show Try.t3.bytes = 8 from rfl]; omega)) ?_
 rintro _ _ ⟨bs9, cp10, hok11, hle12, rfl, rfl⟩
 simp only [Nat.zero_add] at hok11 hle12 ⊢
 rw [List.nil_append]
 refine tp rfl (lv_assign rfl) ?_
 refine t_done ?_
 refine q_then_n (hK3 _ _ ?_)
 refine c_seq (fun K4 hK4 => ?_)
 refine c_block ?_
 refine t_sat (fun _ h => slv_slt h) ?_
 refine c_loop (γ := (List Bool) × (List Int) × (Option Addr) × (Nat)) (fun (s, ql, bl, cl) => Bq N es i s ql ∧ SlOk bl ql.length ∧ ql.length ≤ cl) (fun (s, ql, bl, cl) => [(0, (.slice be N ce)), (1, (.int .i64 ((i : Nat) : Int))), (4, (.slice none 0 0)), (5, (.slice bs1 N cp2)), (6, (.slice bl ql.length cl))]) (fun (s, ql, bl, cl) => (SlT 3 1 (.slice bl ql.length cl) ql.length (ints .i64 ql)) :: (SlV 4 1 (.slice bs1 N cp2) N (bools s)) :: R) (fun (s, ql, bl, cl) => Bmu N s ql) (List.replicate N false, es.getD i [], bs9, cp10) ⟨Bq.start hin hlk, hok11, hle12⟩ ⟨rfl, rfl, rfl, rfl, rfl, trivial⟩ (fun _ h => h) ?_
 rintro ⟨s, ql, bl, cl⟩ K5 hF hK5
 try dsimp only at hF hK5 ⊢
 obtain ⟨hb, hok, hle⟩ := hF
 have hsl := hb.len
 have hqz := hb.size
 have hct := List.count_le_length (a := true) (l := s)
 refine c_seq (fun K6 hK6 => ?_)
 refine c_seq (fun K7 hK7 => ?_)
 refine c_region ?_
 refine tp rfl (lv_move rfl) ?_
 refine tp rfl (lv_len Try.underlying23 rfl rfl) ?_
 by_cases h13 : ((ql.length : Nat) : Int) > 0
 · -- yes
  refine tp rfl (lv_gtr rfl rfl (decide_eq_true h13)) ?_
  refine t_done ?_
  refine q_then_n (hK7 _ _ ?_)
  refine c_true rfl ?_
  refine c_skip ?_
  refine q_then_n (hK6 _ _ ?_)
  refine c_block ?_
  refine c_seq (fun K8 hK8 => ?_)
  refine c_region ?_
  obtain ⟨x, r, rfl⟩ : ∃ a r, ql = a :: r := by cases ql with | nil => exact absurd ‹_› (by simp) | cons a r => exact ⟨a, r, rfl⟩
  have hx := hb.inq x (List.mem_cons_self ..)
  have hxN := hx.2.1
  have hx0 := hx.1
  refine tp rfl (lv_move rfl) ?_
  refine tp rfl (lv_indexAddr (k' := 0) Try.underlying23 Try.sizeOf3 rfl rfl hok (by omega) (by omega) (by omega)) ?_
  refine tp rfl (lv_load Try.isAgg3 rfl (gives_as (v := .int .i64 x) rfl (gives_slt (.head _) (ints_get (by first | omega | (simp; omega)))))) ?_
  refine tp rfl (lv_assign rfl) ?_
  refine t_done ?_
  refine q_then_n (hK8 _ _ ?_)
  refine c_seq (fun K9 hK9 => ?_)
  refine c_region ?_
  refine tp rfl (lv_move rfl) ?_
  refine tp rfl (lv_slice (l := 1) (h := (x :: r).length) (m := cl) (v := (.slice (sbase bl 1 cl 1) (((x :: r).length) - 1) (cl - 1))) Try.underlying23 Try.sizeOf3 rfl rfl rfl rfl (.inr ⟨rfl, rfl⟩) (.inr ⟨rfl, rfl⟩) (.inl ⟨_, _, rfl, (by omega), (by omega), (by omega)⟩) (by simp) rfl) ?_
  refine t_sat (fun _ h => slt_tail (l := 1) (n' := ((x :: r).length) - 1) (c' := cl - 1) (by omega) (by omega) (by omega) (by omega) h) ?_
  rw [show (ints .i64 (x :: r)).drop (1 * 1) = ints .i64 ((x :: r).drop 1) from by rw [Nat.mul_one, ints_drop]]
  refine t_learn (fun _ h => slt_facts h) (fun hbx => ?_)
  obtain ⟨hok14, hle15⟩ := hbx
  refine tp rfl (lv_assign rfl) ?_
  refine t_done ?_
  refine q_then_n (hK9 _ _ ?_)
  refine c_seq (fun K10 hK10 => ?_)
  refine c_region ?_
  refine tp rfl (lv_move rfl) ?_
  refine tp rfl (lv_move rfl) ?_
  refine tp rfl (lv_indexAddr (k' := x.toNat) Try.underlying38 Try.sizeOf4 rfl rfl hok3 (by omega) (by omega) (by omega)) ?_
  refine tp rfl (lv_load Try.isAgg4 rfl (gives_sl (.tail _ (.head _)) (bools_get (by omega)))) ?_
  refine tp rfl (lv_not (c := !((s).getD x.toNat false)) rfl rfl) ?_
  refine t_done ?_
  refine q_then_n (hK10 _ _ ?_)
  refine c_split rfl (fun c16 => ?_) (fun c16 => ?_)
  · -- true
   refine c_seq (fun K11 hK11 => ?_)
   have hs : s.getD x.toNat false = false := by simpa using c16
   refine c_region ?_
   refine tp rfl (lv_move rfl) ?_
   refine tp rfl (lv_move rfl) ?_
   refine tp rfl (lv_indexAddr (k' := x.toNat) Try.underlying38 Try.sizeOf4 rfl rfl hok3 (by omega) (by omega) (by omega)) ?_
   refine t_f1 ?_
   refine ts (sv_sl Try.sizeOf4 rfl rfl rfl (by rw [bools_length]; omega) bools_set) ?_
   refine t_done ?_
   refine q_then_n (hK11 _ _ ?_)
   refine c_region ?_
   obtain ⟨bx, cx, hokx, hlex, hvx, hrx⟩ := hrow x.toNat (by omega)
   have hlkx := hlx _ (row_at_mem (show x.toNat < es.length by omega))
   rw [List.length_cons] at hqz
   refine tp rfl (lv_move rfl) ?_
   refine tp rfl (lv_move rfl) ?_
   refine tp rfl (lv_move rfl) ?_
   refine tp rfl (lv_indexAddr (k' := x.toNat) Try.underlying22 Try.sizeOf23 rfl rfl hbe (by omega) (by omega) (by omega)) ?_
   refine tp rfl (lv_load Try.isAgg23 rfl (gives_as hvx (Rd.gives (Rd.cons (Rd.cons hvs)) (vals_get (by omega))))) ?_
   refine t_f1 ?_
   refine tm rfl (mv_appendT (i := Try.t3) Try.underlying23 Try.type3 rfl rfl rfl (by decide) rfl rfl hokx (by first | (simp; done) | (simp; omega)) (Rd.cons (Rd.cons hrx)) ints_one (by rw [show Try.t3.bytes = 8 from rfl]; rw [List.length_cons]; omega)) ?_
   rintro _ _ ⟨bs17, cp18, hok19, hle20, rfl, rfl⟩
   rw [← ints_append]
   rw [show (((x :: r).length) - 1) + ((es.getD x.toNat []).length) = ((x :: r).drop 1 ++ es.getD x.toNat []).length from by simp] at hok19 hle20 ⊢
   refine tp rfl (lv_assign rfl) ?_
   refine t_done ?_
   refine q_in_n ?_
   refine q_then_n ?_
   exact t_weak (by exact ⟨rfl, rfl, rfl, rfl, rfl, trivial⟩) ((hK5 ((s).set x.toNat true, ((x :: r).drop 1) ++ (es.getD x.toNat []), bs17, cp18) ⟨hb.new hin hlkx hs, hok19, hle20⟩ (hb.mu hlkx hs)))
  · -- false
   refine c_skip ?_
   refine q_in_n ?_
   refine q_then_n ?_
   have hln : ((x :: r).length) - 1 = ((x :: r).drop 1).length := by rw [List.length_drop]
   rw [hln] at hok14 hle15 ⊢
   exact t_weak (by exact ⟨rfl, rfl, rfl, rfl, rfl, trivial⟩) ((hK5 (s, (x :: r).drop 1, (sbase bl 1 cl 1), cl - 1) ⟨hb.old (by simpa using c16), hok14, hle15⟩ (show Bmu N s r < Bmu N s (x :: r) from by unfold Bmu; rw [List.length_cons]; omega)))
 · -- no
  refine tp rfl (lv_gtr rfl rfl (decide_eq_false h13)) ?_
  refine t_done ?_
  refine q_then_n (hK7 _ _ ?_)
  refine c_false rfl ?_
  refine c_exit ?_
  refine q_then_x ?_
  refine q_then_x ?_
  refine q_in_x ?_
  refine q_then_n (hK4 _ _ ?_)
  refine c_seq (fun K8 hK8 => ?_)
  refine c_region ?_
  refine tp rfl (lv_move rfl) ?_
  refine tp rfl (lv_assign rfl) ?_
  refine t_done ?_
  refine q_then_n (hK8 _ _ ?_)
  refine c_ret ?_
  refine t_drop ?_
  refine q_ret rfl rfl ?_
  obtain rfl : ql = [] := by cases ql with | nil => rfl | cons a r => exact absurd ‹_› (by simp)
  rw [hb.end_ hel hin]
  exact ⟨_, _, hok3, hle4, rfl, rfl⟩
end Go.Proofs.Ytljnaefaahphaaa
