/- Contracts of the document's heap. -/
import Derived.Test.YtchnphachgcjmaaHc
import Derived.Test.YtchnphachgcjmaaRwv
import Derived.Test.YtchnphachgcjmaaRc2
set_option maxRecDepth 100000
set_option linter.unusedVariables false
set_option linter.unusedSimpArgs false
namespace Go.Proofs.Ytchnphachgcjmaa
open Go Go.Proofs Sp
theorem rknown_t {R : List HP} {p : Nat} {N : Int} {es : List (Int × Int)} (hes : es.length ≤ 65536) {x : Int} (hr : 0 ≤ x ∧ x < min N 65536) :
    Ok Try.prog 33 [(.pointer (some ⟨p, 0, none⟩)), (.int .i64 x)] ((RowQ 52 54 p N es) :: R)
      (fun v M => v = .bool true ∧ M = RowQ 52 54 p N es :: R) := by
 refine ok_of (N := 16) Try.func33 rfl rfl rfl (fun W => ?_)
 refine t_openQ (fun bs1 cp2 hok3 hle4 => ?_)
 refine c_seq (fun K1 hK1 => ?_)
 refine c_region ?_
 refine tp rfl (lv_assign rfl) ?_
 refine t_done ?_
 refine q_then_n (hK1 _ _ ?_)
 refine c_seq (fun K2 hK2 => ?_)
 refine c_region ?_
 refine tp rfl (lv_move rfl) ?_
 refine tp rfl (lv_geq rfl rfl (decide_eq_true (by omega))) ?_
 refine tp rfl (lv_move rfl) ?_
 refine t_guard rfl rfl ?_
 refine tp rfl (lv_move rfl) ?_
 refine t_guard rfl rfl ?_
 refine tp rfl (lv_move rfl) ?_
 refine t_guard rfl rfl ?_
 refine tp rfl (lv_nilCheck rfl) ?_
 refine t_guard rfl rfl ?_
 refine tp rfl (lv_fieldAddr (o' := 0) Try.underlying52 rfl Try.sizeOf3 rfl rfl) ?_
 refine t_guard rfl rfl ?_
 refine tp rfl (lv_load Try.isAgg3 rfl (gives_blk (.head _) rfl)) ?_
 refine t_guard rfl rfl ?_
 refine tp rfl (lv_min (c := min N 65536) rfl rfl rfl) ?_
 refine t_guard rfl rfl ?_
 refine tp rfl (lv_lss rfl rfl (decide_eq_true (by omega))) ?_
 refine tp rfl (lv_pick_t rfl rfl) ?_
 refine tp rfl (lv_assign rfl) ?_
 refine t_done ?_
 refine q_then_n (hK2 _ _ ?_)
 refine c_ret ?_
 refine t_f1 ?_
 refine t_f1 ?_
 refine t_shutQ hok3 hle4 ?_
 refine q_ret rfl rfl ?_
 exact ⟨by first | rfl | (exfalso; omega) | (simp; omega), rfl⟩

theorem rknown_f {R : List HP} {p : Nat} {N : Int} {es : List (Int × Int)} (hes : es.length ≤ 65536) {x : Int} (hr : ¬ (0 ≤ x ∧ x < min N 65536)) :
    Ok Try.prog 33 [(.pointer (some ⟨p, 0, none⟩)), (.int .i64 x)] ((RowQ 52 54 p N es) :: R)
      (fun v M => v = .bool false ∧ M = RowQ 52 54 p N es :: R) := by
 refine ok_of (N := 16) Try.func33 rfl rfl rfl (fun W => ?_)
 refine t_openQ (fun bs1 cp2 hok3 hle4 => ?_)
 refine c_seq (fun K1 hK1 => ?_)
 refine c_region ?_
 refine tp rfl (lv_assign rfl) ?_
 refine t_done ?_
 refine q_then_n (hK1 _ _ ?_)
 refine c_seq (fun K2 hK2 => ?_)
 refine c_region ?_
 refine tp rfl (lv_move rfl) ?_
 by_cases h5 : x ≥ 0
 · -- yes
  refine tp rfl (lv_geq rfl rfl (decide_eq_true h5)) ?_
  refine tp rfl (lv_move rfl) ?_
  refine t_guard rfl rfl ?_
  refine tp rfl (lv_move rfl) ?_
  refine t_guard rfl rfl ?_
  refine tp rfl (lv_move rfl) ?_
  refine t_guard rfl rfl ?_
  refine tp rfl (lv_nilCheck rfl) ?_
  refine t_guard rfl rfl ?_
  refine tp rfl (lv_fieldAddr (o' := 0) Try.underlying52 rfl Try.sizeOf3 rfl rfl) ?_
  refine t_guard rfl rfl ?_
  refine tp rfl (lv_load Try.isAgg3 rfl (gives_blk (.head _) rfl)) ?_
  refine t_guard rfl rfl ?_
  refine tp rfl (lv_min (c := min N 65536) rfl rfl rfl) ?_
  refine t_guard rfl rfl ?_
  refine tp rfl (lv_lss rfl rfl rfl) ?_
  refine tp rfl (lv_pick_t rfl rfl) ?_
  refine tp rfl (lv_assign rfl) ?_
  refine t_done ?_
  refine q_then_n (hK2 _ _ ?_)
  refine c_ret ?_
  refine t_f1 ?_
  refine t_f1 ?_
  refine t_shutQ hok3 hle4 ?_
  refine q_ret rfl rfl ?_
  exact ⟨by first | rfl | (exfalso; omega) | (simp; omega), rfl⟩
 · -- no
  refine tp rfl (lv_geq rfl rfl (decide_eq_false h5)) ?_
  refine tp rfl (lv_move rfl) ?_
  refine t_skip rfl rfl rfl ?_
  refine t_skip rfl rfl rfl ?_
  refine t_skip rfl rfl rfl ?_
  refine t_skip rfl rfl rfl ?_
  refine t_skip rfl rfl rfl ?_
  refine t_skip rfl rfl rfl ?_
  refine t_skip rfl rfl rfl ?_
  refine tp rfl (lv_pick_f rfl rfl) ?_
  refine tp rfl (lv_assign rfl) ?_
  refine t_done ?_
  refine q_then_n (hK2 _ _ ?_)
  refine c_ret ?_
  refine t_f1 ?_
  refine t_f1 ?_
  refine t_shutQ hok3 hle4 ?_
  refine q_ret rfl rfl ?_
  exact ⟨by first | rfl | (exfalso; omega) | (simp; omega), rfl⟩

set_option maxHeartbeats 4000000 in
theorem rfind_n {R : List HP} {p : Nat} {N : Int} {es : List (Int × Int)} (hes : es.length ≤ 65536) {x : Int} (hno : ∀ j, j < es.length → ¬ (es.getD j (0, 0)).1 = x) :
    Ok Try.prog 34 [(.pointer (some ⟨p, 0, none⟩)), (.int .i64 x)] ((RowQ 52 54 p N es) :: R)
      (fun v M => v = .int .i64 (-1) ∧ M = RowQ 52 54 p N es :: R) := by
 refine ok_of (N := 26) Try.func34 rfl rfl rfl (fun W => ?_)
 refine t_openQ (fun bs1 cp2 hok3 hle4 => ?_)
 refine c_seq (fun K1 hK1 => ?_)
 refine c_region ?_
 refine tp rfl (lv_assign rfl) ?_
 refine t_done ?_
 refine q_then_n (hK1 _ _ ?_)
 refine c_seq (fun K2 hK2 => ?_)
 refine c_seq (fun K3 hK3 => ?_)
 refine c_region ?_
 refine tp rfl (lv_assign rfl) ?_
 refine t_done ?_
 refine q_then_n (hK3 _ _ ?_)
 refine c_block ?_
 refine c_loop (γ := (Nat)) (fun (i : Nat) => i ≤ es.length) (fun (i : Nat) => [(0, (.pointer (some ⟨p, 0, none⟩))), (1, (.int .i64 x)), (5, (.int .i64 ((i : Nat) : Int)))]) (fun (i : Nat) => (Blk p [(.int .i64 N), (.slice bs1 es.length cp2)] 52) :: (SlV 54 2 (.slice bs1 es.length cp2) es.length (recs pairQ es)) :: R) (fun (i : Nat) => es.length - i) (0) (by omega) ⟨rfl, rfl, rfl, trivial⟩ (fun _ h => h) ?_
 rintro i K4 hF hK4
 try dsimp only at hF hK4 ⊢
 refine c_seq (fun K5 hK5 => ?_)
 refine c_seq (fun K6 hK6 => ?_)
 refine c_region ?_
 refine tp rfl (lv_move rfl) ?_
 refine tp rfl (lv_move rfl) ?_
 refine tp rfl (lv_nilCheck rfl) ?_
 refine tp rfl (lv_fieldAddr (o' := 1) Try.underlying52 rfl Try.sizeOf50 rfl rfl) ?_
 refine tp rfl (lv_load Try.isAgg50 rfl (gives_blk (.head _) rfl)) ?_
 refine tp rfl (lv_len Try.underlying50 rfl rfl) ?_
 by_cases h5 : ((i : Nat) : Int) < ((es.length : Nat) : Int)
 · -- yes
  refine tp rfl (lv_lss rfl rfl (decide_eq_true h5)) ?_
  refine t_done ?_
  refine q_then_n (hK6 _ _ ?_)
  refine c_true rfl ?_
  refine c_skip ?_
  refine q_then_n (hK5 _ _ ?_)
  refine c_seq (fun K7 hK7 => ?_)
  refine c_block ?_
  refine c_seq (fun K8 hK8 => ?_)
  refine c_region ?_
  refine tp rfl (lv_move rfl) ?_
  refine tp rfl (lv_nilCheck rfl) ?_
  refine tp rfl (lv_fieldAddr (o' := 1) Try.underlying52 rfl Try.sizeOf50 rfl rfl) ?_
  refine tp rfl (lv_load Try.isAgg50 rfl (gives_blk (.head _) rfl)) ?_
  refine tp rfl (lv_move rfl) ?_
  refine tp rfl (lv_indexAddr (k' := i * 2) Try.underlying50 Try.sizeOf54 rfl rfl hok3 (by omega) (by omega) (by omega)) ?_
  refine tp rfl (lv_fieldAddr_ad (o' := i * 2) Try.underlying54 rfl Try.sizeOf3 rfl rfl) ?_
  refine tp rfl (lv_load Try.isAgg3 rfl (gives_sl (.tail _ (.head _)) ((recs_get (k := i) (j := 0) pairQ_len (d := (0, 0)) (by omega) (Nat.le_of_ble_eq_true rfl)).trans rfl))) ?_
  refine tp rfl (lv_move rfl) ?_
  refine tp rfl (lv_eql rfl rfl (beq_eq_false_iff_ne.2 (hno i (by omega)))) ?_
  refine t_done ?_
  refine q_then_n (hK8 _ _ ?_)
  refine c_false rfl ?_
  refine c_skip ?_
  refine q_in_n ?_
  refine q_then_n (hK7 _ _ ?_)
  refine c_region ?_
  refine tp rfl (lv_move rfl) ?_
  refine tp rfl (lv_add (c := ((i + 1 : Nat) : Int)) rfl rfl (wr_i64_succ (by omega))) ?_
  refine tp rfl (lv_assign rfl) ?_
  refine t_done ?_
  refine q_then_n ?_
  exact t_weak (by exact ⟨rfl, rfl, rfl, trivial⟩) ((hK4 (i + 1) (by omega) (by omega)))
 · -- no
  refine tp rfl (lv_lss rfl rfl (decide_eq_false h5)) ?_
  refine t_done ?_
  refine q_then_n (hK6 _ _ ?_)
  refine c_false rfl ?_
  refine c_exit ?_
  refine q_then_x ?_
  refine q_then_x ?_
  refine q_in_x ?_
  refine q_then_n (hK2 _ _ ?_)
  refine c_seq (fun K7 hK7 => ?_)
  refine c_region ?_
  refine tp rfl (lv_assign rfl) ?_
  refine t_done ?_
  refine q_then_n (hK7 _ _ ?_)
  refine c_ret ?_
  refine t_f1 ?_
  refine t_f1 ?_
  refine t_shutQ hok3 hle4 ?_
  refine q_ret rfl rfl ?_
  exact ⟨rfl, rfl⟩

set_option maxHeartbeats 4000000 in
theorem rfind_s {R : List HP} {p : Nat} {N : Int} {es : List (Int × Int)} (hes : es.length ≤ 65536) {x : Int} {k : Nat} (hk : k < es.length) (hkx : (es.getD k (0, 0)).1 = x) (hall : ∀ j, j < k → ¬ (es.getD j (0, 0)).1 = x) :
    Ok Try.prog 34 [(.pointer (some ⟨p, 0, none⟩)), (.int .i64 x)] ((RowQ 52 54 p N es) :: R)
      (fun v M => v = .int .i64 ((k : Nat) : Int) ∧ M = RowQ 52 54 p N es :: R) := by
 refine ok_of (N := 26) Try.func34 rfl rfl rfl (fun W => ?_)
 refine t_openQ (fun bs1 cp2 hok3 hle4 => ?_)
 refine c_seq (fun K1 hK1 => ?_)
 refine c_region ?_
 refine tp rfl (lv_assign rfl) ?_
 refine t_done ?_
 refine q_then_n (hK1 _ _ ?_)
 refine c_seq (fun K2 hK2 => ?_)
 refine c_seq (fun K3 hK3 => ?_)
 refine c_region ?_
 refine tp rfl (lv_assign rfl) ?_
 refine t_done ?_
 refine q_then_n (hK3 _ _ ?_)
 refine c_block ?_
 refine c_loop (γ := (Nat)) (fun (i : Nat) => i ≤ k) (fun (i : Nat) => [(0, (.pointer (some ⟨p, 0, none⟩))), (1, (.int .i64 x)), (5, (.int .i64 ((i : Nat) : Int)))]) (fun (i : Nat) => (Blk p [(.int .i64 N), (.slice bs1 es.length cp2)] 52) :: (SlV 54 2 (.slice bs1 es.length cp2) es.length (recs pairQ es)) :: R) (fun (i : Nat) => es.length - i) (0) (by omega) ⟨rfl, rfl, rfl, trivial⟩ (fun _ h => h) ?_
 rintro i K4 hF hK4
 try dsimp only at hF hK4 ⊢
 refine c_seq (fun K5 hK5 => ?_)
 refine c_seq (fun K6 hK6 => ?_)
 refine c_region ?_
 refine tp rfl (lv_move rfl) ?_
 refine tp rfl (lv_move rfl) ?_
 refine tp rfl (lv_nilCheck rfl) ?_
 refine tp rfl (lv_fieldAddr (o' := 1) Try.underlying52 rfl Try.sizeOf50 rfl rfl) ?_
 refine tp rfl (lv_load Try.isAgg50 rfl (gives_blk (.head _) rfl)) ?_
 refine tp rfl (lv_len Try.underlying50 rfl rfl) ?_
 refine tp rfl (lv_lss rfl rfl (decide_eq_true (by omega))) ?_
 refine t_done ?_
 refine q_then_n (hK6 _ _ ?_)
 refine c_true rfl ?_
 refine c_skip ?_
 refine q_then_n (hK5 _ _ ?_)
 refine c_seq (fun K7 hK7 => ?_)
 refine c_block ?_
 refine c_seq (fun K8 hK8 => ?_)
 refine c_region ?_
 refine tp rfl (lv_move rfl) ?_
 refine tp rfl (lv_nilCheck rfl) ?_
 refine tp rfl (lv_fieldAddr (o' := 1) Try.underlying52 rfl Try.sizeOf50 rfl rfl) ?_
 refine tp rfl (lv_load Try.isAgg50 rfl (gives_blk (.head _) rfl)) ?_
 refine tp rfl (lv_move rfl) ?_
 refine tp rfl (lv_indexAddr (k' := i * 2) Try.underlying50 Try.sizeOf54 rfl rfl hok3 (by omega) (by omega) (by omega)) ?_
 refine tp rfl (lv_fieldAddr_ad (o' := i * 2) Try.underlying54 rfl Try.sizeOf3 rfl rfl) ?_
 refine tp rfl (lv_load Try.isAgg3 rfl (gives_sl (.tail _ (.head _)) ((recs_get (k := i) (j := 0) pairQ_len (d := (0, 0)) (by omega) (Nat.le_of_ble_eq_true rfl)).trans rfl))) ?_
 refine tp rfl (lv_move rfl) ?_
 by_cases h5 : ((es.getD i (0, 0)).1) = x
 · -- yes
  refine tp rfl (lv_eql rfl rfl (beq_iff_eq.2 h5)) ?_
  refine t_done ?_
  refine q_then_n (hK8 _ _ ?_)
  refine c_true rfl ?_
  refine c_seq (fun K9 hK9 => ?_)
  refine c_region ?_
  refine tp rfl (lv_move rfl) ?_
  refine tp rfl (lv_assign rfl) ?_
  refine t_done ?_
  refine q_then_n (hK9 _ _ ?_)
  refine c_ret ?_
  refine q_in_r ?_
  refine q_then_r ?_
  refine q_then_r ?_
  refine q_in_r ?_
  refine q_then_r ?_
  refine t_f1 ?_
  refine t_f1 ?_
  refine t_shutQ hok3 hle4 ?_
  refine q_ret rfl rfl ?_
  have e : i = k := by
    rcases Nat.lt_or_ge i k with q | q
    · exact absurd ‹_› (hall i q)
    · omega
  subst e
  exact ⟨rfl, rfl⟩
 · -- no
  refine tp rfl (lv_eql rfl rfl (beq_eq_false_iff_ne.2 h5)) ?_
  refine t_done ?_
  refine q_then_n (hK8 _ _ ?_)
  refine c_false rfl ?_
  refine c_skip ?_
  refine q_in_n ?_
  refine q_then_n (hK7 _ _ ?_)
  refine c_region ?_
  refine tp rfl (lv_move rfl) ?_
  refine tp rfl (lv_add (c := ((i + 1 : Nat) : Int)) rfl rfl (wr_i64_succ (by omega))) ?_
  refine tp rfl (lv_assign rfl) ?_
  refine t_done ?_
  refine q_then_n ?_
  exact t_weak (by exact ⟨rfl, rfl, rfl, trivial⟩) ((hK4 (i + 1) (by have hne : i ≠ k := (fun e => absurd (e ▸ hkx) ‹_›); omega) (by omega)))

theorem rpush_arg {R : List HP} {p : Nat} {N : Int} {es : List (Int × Int)} (hes : es.length ≤ 65536) {x : Int} (t : Int) (hr : ¬ (0 ≤ x ∧ x < min N 65536)) :
    Ok Try.prog 20 [(.pointer (some ⟨p, 0, none⟩)), (.int .i64 x), (.int .i64 t)] ((RowQ 52 54 p N es) :: R)
      (fun v M => v = .int .i64 1 ∧ M = RowQ 52 54 p N es :: R) := by
 refine ok_of (N := 31) Try.func20 rfl rfl rfl (fun W => ?_)
 refine c_seq (fun K1 hK1 => ?_)
 refine c_region ?_
 refine tp rfl (lv_assign rfl) ?_
 refine t_done ?_
 refine q_then_n (hK1 _ _ ?_)
 refine c_seq (fun K2 hK2 => ?_)
 refine c_region ?_
 refine tp rfl (lv_move rfl) ?_
 refine tp rfl (lv_move rfl) ?_
 refine tc rfl (en_fn Try.call33 rfl) (rknown_f hes hr) ?_
 rintro _ _ ⟨rfl, rfl⟩
 refine tp rfl (lv_assign rfl) ?_
 refine t_done ?_
 refine q_then_n (hK2 _ _ ?_)
 refine c_seq (fun K3 hK3 => ?_)
 refine c_seq (fun K4 hK4 => ?_)
 refine c_region ?_
 refine tp rfl (lv_move rfl) ?_
 refine tp rfl (lv_not (c := true) rfl rfl) ?_
 refine t_done ?_
 refine q_then_n (hK4 _ _ ?_)
 refine c_true rfl ?_
 refine c_seq (fun K5 hK5 => ?_)
 refine c_region ?_
 refine tp rfl (lv_assign rfl) ?_
 refine t_done ?_
 refine q_then_n (hK5 _ _ ?_)
 refine c_ret ?_
 refine q_then_r ?_
 refine q_ret rfl rfl ?_
 exact ⟨rfl, rfl⟩

theorem rpush_state {R : List HP} {p : Nat} {N : Int} {es : List (Int × Int)} (hes : es.length ≤ 65536) {x : Int} (t : Int) (hr : 0 ≤ x ∧ x < min N 65536) {k : Nat} (hk : k < es.length) (hkx : (es.getD k (0, 0)).1 = x) (hall : ∀ j, j < k → ¬ (es.getD j (0, 0)).1 = x) :
    Ok Try.prog 20 [(.pointer (some ⟨p, 0, none⟩)), (.int .i64 x), (.int .i64 t)] ((RowQ 52 54 p N es) :: R)
      (fun v M => v = .int .i64 8 ∧ M = RowQ 52 54 p N es :: R) := by
 refine ok_of (N := 31) Try.func20 rfl rfl rfl (fun W => ?_)
 refine c_seq (fun K1 hK1 => ?_)
 refine c_region ?_
 refine tp rfl (lv_assign rfl) ?_
 refine t_done ?_
 refine q_then_n (hK1 _ _ ?_)
 refine c_seq (fun K2 hK2 => ?_)
 refine c_region ?_
 refine tp rfl (lv_move rfl) ?_
 refine tp rfl (lv_move rfl) ?_
 refine tc rfl (en_fn Try.call33 rfl) (rknown_t hes hr) ?_
 rintro _ _ ⟨rfl, rfl⟩
 refine tp rfl (lv_assign rfl) ?_
 refine t_done ?_
 refine q_then_n (hK2 _ _ ?_)
 refine c_seq (fun K3 hK3 => ?_)
 refine c_seq (fun K4 hK4 => ?_)
 refine c_region ?_
 refine tp rfl (lv_move rfl) ?_
 refine tp rfl (lv_not (c := false) rfl rfl) ?_
 refine t_done ?_
 refine q_then_n (hK4 _ _ ?_)
 refine c_false rfl ?_
 refine c_skip ?_
 refine q_then_n (hK3 _ _ ?_)
 refine c_seq (fun K5 hK5 => ?_)
 refine c_seq (fun K6 hK6 => ?_)
 refine c_region ?_
 refine tp rfl (lv_move rfl) ?_
 refine tp rfl (lv_move rfl) ?_
 refine tc rfl (en_fn Try.call34 rfl) (rfind_s hes hk hkx hall) ?_
 rintro _ _ ⟨rfl, rfl⟩
 refine tp rfl (lv_geq rfl rfl (decide_eq_true (by omega))) ?_
 refine t_done ?_
 refine q_then_n (hK6 _ _ ?_)
 refine c_true rfl ?_
 refine c_seq (fun K7 hK7 => ?_)
 refine c_region ?_
 refine tp rfl (lv_assign rfl) ?_
 refine t_done ?_
 refine q_then_n (hK7 _ _ ?_)
 refine c_ret ?_
 refine q_then_r ?_
 refine q_ret rfl rfl ?_
 exact ⟨rfl, rfl⟩

set_option maxHeartbeats 4000000 in
theorem rpush_new {R : List HP} {p : Nat} {N : Int} {es : List (Int × Int)} (hes : es.length ≤ 65536) {x : Int} (t : Int) (hr : 0 ≤ x ∧ x < min N 65536) (hno : ∀ j, j < es.length → ¬ (es.getD j (0, 0)).1 = x) :
    Ok Try.prog 20 [(.pointer (some ⟨p, 0, none⟩)), (.int .i64 x), (.int .i64 t)] ((RowQ 52 54 p N es) :: R)
      (fun v M => v = .int .i64 0 ∧ M = RowQ 52 54 p N (es ++ [(x, t)]) :: R) := by
 refine ok_of (N := 31) Try.func20 rfl rfl rfl (fun W => ?_)
 refine c_seq (fun K1 hK1 => ?_)
 refine c_region ?_
 refine tp rfl (lv_assign rfl) ?_
 refine t_done ?_
 refine q_then_n (hK1 _ _ ?_)
 refine c_seq (fun K2 hK2 => ?_)
 refine c_region ?_
 refine tp rfl (lv_move rfl) ?_
 refine tp rfl (lv_move rfl) ?_
 refine tc rfl (en_fn Try.call33 rfl) (rknown_t hes hr) ?_
 rintro _ _ ⟨rfl, rfl⟩
 refine tp rfl (lv_assign rfl) ?_
 refine t_done ?_
 refine q_then_n (hK2 _ _ ?_)
 refine c_seq (fun K3 hK3 => ?_)
 refine c_seq (fun K4 hK4 => ?_)
 refine c_region ?_
 refine tp rfl (lv_move rfl) ?_
 refine tp rfl (lv_not (c := false) rfl rfl) ?_
 refine t_done ?_
 refine q_then_n (hK4 _ _ ?_)
 refine c_false rfl ?_
 refine c_skip ?_
 refine q_then_n (hK3 _ _ ?_)
 refine c_seq (fun K5 hK5 => ?_)
 refine c_seq (fun K6 hK6 => ?_)
 refine c_region ?_
 refine tp rfl (lv_move rfl) ?_
 refine tp rfl (lv_move rfl) ?_
 refine tc rfl (en_fn Try.call34 rfl) (rfind_n hes hno) ?_
 rintro _ _ ⟨rfl, rfl⟩
 refine tp rfl (lv_geq (r := false) rfl rfl (by decide)) ?_
 refine t_done ?_
 refine q_then_n (hK6 _ _ ?_)
 refine c_false rfl ?_
 refine c_skip ?_
 refine q_then_n (hK5 _ _ ?_)
 refine c_seq (fun K7 hK7 => ?_)
 refine t_openQ (fun bs1 cp2 hok3 hle4 => ?_)
 refine c_region ?_
 refine tp rfl (lv_move rfl) ?_
 refine tm rfl (mv_buildSlice (cs := []) Try.underlying50 Try.sizeOf54 Try.zeroValue54 (by decide) rfl rfl rfl rfl) ?_
 rintro _ _ ⟨bs5, cp6, hok7, hle8, rfl, rfl⟩
 refine tp rfl (lv_move rfl) ?_
 refine tp rfl (lv_nilCheck rfl) ?_
 refine tp rfl (lv_fieldAddr (o' := 1) Try.underlying52 rfl Try.sizeOf50 rfl rfl) ?_
 refine tp rfl (lv_load Try.isAgg50 rfl (gives_blk (.tail _ (.head _)) rfl)) ?_
 refine tm rfl (mv_append (i := Try.t54) Try.underlying50 Try.type54 rfl rfl rfl (by decide) rfl rfl hok3 (by first | exact recs_len pairQ_len _ | (rw [recs_len pairQ_len]; congr 1; first | (simp; done) | (simp; omega))) (rd_sl (.tail _ (.tail _ (.head _)))) (recs_one pairQ_one) (by rw [show Try.t54.bytes = 16 from rfl]; omega)) ?_
 rintro _ _ ⟨bs9, cp10, hok11, hle12, rfl, rfl⟩
 simp only [Nat.zero_add] at hok11 hle12 ⊢
 rw [List.nil_append]
 refine tp rfl (lv_move rfl) ?_
 refine tp rfl (lv_move rfl) ?_
 refine tp rfl (lv_build (cs := [(.int .i64 x), (.int .i64 t)]) (pl := [(0, 1), (1, 1)]) Try.underlying54 Try.zeroValue54 (fun _ => by simp) rfl rfl) ?_
 refine tm rfl (mv_buildSlice (cs := [(.int .i64 x), (.int .i64 t)]) Try.underlying50 Try.sizeOf54 Try.zeroValue54 (by decide) rfl rfl rfl rfl) ?_
 rintro _ _ ⟨bs13, cp14, hok15, hle16, rfl, rfl⟩
 refine t_f1 ?_
 refine tm rfl (mv_append (i := Try.t54) Try.underlying50 Try.type54 rfl rfl rfl (by decide) rfl rfl hok15 (by first | (simp; done) | (simp; omega)) (rd_sl (.tail _ (.head _))) (by simp [Value.oneCell']) (by rw [show Try.t54.bytes = 16 from rfl]; omega)) ?_
 rintro _ _ ⟨bs17, cp18, hok19, hle20, rfl, rfl⟩
 rw [show recs pairQ es ++ [(.int .i64 x), (.int .i64 t)] = recs pairQ (es ++ [(x, t)]) from recs_snoc pairQ es (x, t)]
 refine tp rfl (lv_nilCheck rfl) ?_
 refine tp rfl (lv_fieldAddr (o' := 1) Try.underlying52 rfl Try.sizeOf50 rfl rfl) ?_
 refine t_f2 ?_
 refine ts (sv_blk Try.sizeOf50 rfl rfl rfl (Nat.le_of_ble_eq_true rfl) rfl) ?_
 refine t_done ?_
 refine q_then_n (hK7 _ _ ?_)
 refine c_seq (fun K8 hK8 => ?_)
 refine c_region ?_
 refine tp rfl (lv_assign rfl) ?_
 refine t_done ?_
 refine q_then_n (hK8 _ _ ?_)
 refine c_ret ?_
 have hln9 : es.length + 1 = (es ++ [(x, t)]).length := by simp
 rw [hln9] at hok19 hle20 ⊢
 refine t_f1 ?_
 refine t_f1 ?_
 refine t_shutQ hok19 hle20 ?_
 refine t_f1 ?_
 refine t_drop ?_
 refine t_f1 ?_
 refine t_drop ?_
 refine q_ret rfl rfl ?_
 exact ⟨rfl, rfl⟩

theorem rlow_arg {R : List HP} {p : Nat} {N : Int} {es : List (Int × Int)} (hes : es.length ≤ 65536) {x : Int} (t : Int) (hr : ¬ (0 ≤ x ∧ x < min N 65536)) :
    Ok Try.prog 21 [(.pointer (some ⟨p, 0, none⟩)), (.int .i64 x), (.int .i64 t)] ((RowQ 52 54 p N es) :: R)
      (fun v M => v = .int .i64 1 ∧ M = RowQ 52 54 p N es :: R) := by
 refine ok_of (N := 37) Try.func21 rfl rfl rfl (fun W => ?_)
 refine c_seq (fun K1 hK1 => ?_)
 refine c_region ?_
 refine tp rfl (lv_assign rfl) ?_
 refine t_done ?_
 refine q_then_n (hK1 _ _ ?_)
 refine c_seq (fun K2 hK2 => ?_)
 refine c_region ?_
 refine tp rfl (lv_move rfl) ?_
 refine tp rfl (lv_move rfl) ?_
 refine tc rfl (en_fn Try.call33 rfl) (rknown_f hes hr) ?_
 rintro _ _ ⟨rfl, rfl⟩
 refine tp rfl (lv_assign rfl) ?_
 refine t_done ?_
 refine q_then_n (hK2 _ _ ?_)
 refine c_seq (fun K3 hK3 => ?_)
 refine c_seq (fun K4 hK4 => ?_)
 refine c_region ?_
 refine tp rfl (lv_move rfl) ?_
 refine tp rfl (lv_not (c := true) rfl rfl) ?_
 refine t_done ?_
 refine q_then_n (hK4 _ _ ?_)
 refine c_true rfl ?_
 refine c_seq (fun K5 hK5 => ?_)
 refine c_region ?_
 refine tp rfl (lv_assign rfl) ?_
 refine t_done ?_
 refine q_then_n (hK5 _ _ ?_)
 refine c_ret ?_
 refine q_then_r ?_
 refine q_ret rfl rfl ?_
 exact ⟨rfl, rfl⟩

theorem rlow_none {R : List HP} {p : Nat} {N : Int} {es : List (Int × Int)} (hes : es.length ≤ 65536) {x : Int} (t : Int) (hr : 0 ≤ x ∧ x < min N 65536) (hno : ∀ j, j < es.length → ¬ (es.getD j (0, 0)).1 = x) :
    Ok Try.prog 21 [(.pointer (some ⟨p, 0, none⟩)), (.int .i64 x), (.int .i64 t)] ((RowQ 52 54 p N es) :: R)
      (fun v M => v = .int .i64 6 ∧ M = RowQ 52 54 p N es :: R) := by
 refine ok_of (N := 37) Try.func21 rfl rfl rfl (fun W => ?_)
 refine c_seq (fun K1 hK1 => ?_)
 refine c_region ?_
 refine tp rfl (lv_assign rfl) ?_
 refine t_done ?_
 refine q_then_n (hK1 _ _ ?_)
 refine c_seq (fun K2 hK2 => ?_)
 refine c_region ?_
 refine tp rfl (lv_move rfl) ?_
 refine tp rfl (lv_move rfl) ?_
 refine tc rfl (en_fn Try.call33 rfl) (rknown_t hes hr) ?_
 rintro _ _ ⟨rfl, rfl⟩
 refine tp rfl (lv_assign rfl) ?_
 refine t_done ?_
 refine q_then_n (hK2 _ _ ?_)
 refine c_seq (fun K3 hK3 => ?_)
 refine c_seq (fun K4 hK4 => ?_)
 refine c_region ?_
 refine tp rfl (lv_move rfl) ?_
 refine tp rfl (lv_not (c := false) rfl rfl) ?_
 refine t_done ?_
 refine q_then_n (hK4 _ _ ?_)
 refine c_false rfl ?_
 refine c_skip ?_
 refine q_then_n (hK3 _ _ ?_)
 refine c_seq (fun K5 hK5 => ?_)
 refine c_region ?_
 refine tp rfl (lv_move rfl) ?_
 refine tp rfl (lv_move rfl) ?_
 refine tc rfl (en_fn Try.call34 rfl) (rfind_n hes hno) ?_
 rintro _ _ ⟨rfl, rfl⟩
 refine tp rfl (lv_assign rfl) ?_
 refine t_done ?_
 refine q_then_n (hK5 _ _ ?_)
 refine c_seq (fun K6 hK6 => ?_)
 refine c_seq (fun K7 hK7 => ?_)
 refine c_region ?_
 refine tp rfl (lv_move rfl) ?_
 refine tp rfl (lv_lss (r := true) rfl rfl (by decide)) ?_
 refine t_done ?_
 refine q_then_n (hK7 _ _ ?_)
 refine c_true rfl ?_
 refine c_seq (fun K8 hK8 => ?_)
 refine c_region ?_
 refine tp rfl (lv_assign rfl) ?_
 refine t_done ?_
 refine q_then_n (hK8 _ _ ?_)
 refine c_ret ?_
 refine q_then_r ?_
 refine q_ret rfl rfl ?_
 exact ⟨rfl, rfl⟩

theorem rlow_rng {R : List HP} {p : Nat} {N : Int} {es : List (Int × Int)} (hes : es.length ≤ 65536) {x : Int} (t : Int) (hr : 0 ≤ x ∧ x < min N 65536) {k : Nat} (hk : k < es.length) (hkx : (es.getD k (0, 0)).1 = x) (hall : ∀ j, j < k → ¬ (es.getD j (0, 0)).1 = x) (hgt : t > (es.getD k (0, 0)).2) :
    Ok Try.prog 21 [(.pointer (some ⟨p, 0, none⟩)), (.int .i64 x), (.int .i64 t)] ((RowQ 52 54 p N es) :: R)
      (fun v M => v = .int .i64 3 ∧ M = RowQ 52 54 p N es :: R) := by
 refine ok_of (N := 37) Try.func21 rfl rfl rfl (fun W => ?_)
 refine c_seq (fun K1 hK1 => ?_)
 refine c_region ?_
 refine tp rfl (lv_assign rfl) ?_
 refine t_done ?_
 refine q_then_n (hK1 _ _ ?_)
 refine c_seq (fun K2 hK2 => ?_)
 refine c_region ?_
 refine tp rfl (lv_move rfl) ?_
 refine tp rfl (lv_move rfl) ?_
 refine tc rfl (en_fn Try.call33 rfl) (rknown_t hes hr) ?_
 rintro _ _ ⟨rfl, rfl⟩
 refine tp rfl (lv_assign rfl) ?_
 refine t_done ?_
 refine q_then_n (hK2 _ _ ?_)
 refine c_seq (fun K3 hK3 => ?_)
 refine c_seq (fun K4 hK4 => ?_)
 refine c_region ?_
 refine tp rfl (lv_move rfl) ?_
 refine tp rfl (lv_not (c := false) rfl rfl) ?_
 refine t_done ?_
 refine q_then_n (hK4 _ _ ?_)
 refine c_false rfl ?_
 refine c_skip ?_
 refine q_then_n (hK3 _ _ ?_)
 refine c_seq (fun K5 hK5 => ?_)
 refine c_region ?_
 refine tp rfl (lv_move rfl) ?_
 refine tp rfl (lv_move rfl) ?_
 refine tc rfl (en_fn Try.call34 rfl) (rfind_s hes hk hkx hall) ?_
 rintro _ _ ⟨rfl, rfl⟩
 refine tp rfl (lv_assign rfl) ?_
 refine t_done ?_
 refine q_then_n (hK5 _ _ ?_)
 refine c_seq (fun K6 hK6 => ?_)
 refine c_seq (fun K7 hK7 => ?_)
 refine c_region ?_
 refine tp rfl (lv_move rfl) ?_
 refine tp rfl (lv_lss rfl rfl (decide_eq_false (by omega))) ?_
 refine t_done ?_
 refine q_then_n (hK7 _ _ ?_)
 refine c_false rfl ?_
 refine c_skip ?_
 refine q_then_n (hK6 _ _ ?_)
 refine c_seq (fun K8 hK8 => ?_)
 refine c_seq (fun K9 hK9 => ?_)
 refine t_openQ (fun bs1 cp2 hok3 hle4 => ?_)
 refine c_region ?_
 refine tp rfl (lv_move rfl) ?_
 refine tp rfl (lv_move rfl) ?_
 refine tp rfl (lv_nilCheck rfl) ?_
 refine tp rfl (lv_fieldAddr (o' := 1) Try.underlying52 rfl Try.sizeOf50 rfl rfl) ?_
 refine tp rfl (lv_load Try.isAgg50 rfl (gives_blk (.head _) rfl)) ?_
 refine tp rfl (lv_move rfl) ?_
 refine tp rfl (lv_indexAddr (k' := k * 2) Try.underlying50 Try.sizeOf54 rfl rfl hok3 (by omega) (by omega) (by omega)) ?_
 refine tp rfl (lv_fieldAddr_ad (o' := k * 2 + 1) Try.underlying54 rfl Try.sizeOf3 rfl rfl) ?_
 refine tp rfl (lv_load Try.isAgg3 rfl (gives_sl (.tail _ (.head _)) ((recs_get (k := k) (j := 1) pairQ_len (d := (0, 0)) (by omega) (Nat.le_of_ble_eq_true rfl)).trans rfl))) ?_
 refine tp rfl (lv_gtr rfl rfl (decide_eq_true hgt)) ?_
 refine t_done ?_
 refine q_then_n (hK9 _ _ ?_)
 refine c_true rfl ?_
 refine c_seq (fun K10 hK10 => ?_)
 refine c_region ?_
 refine tp rfl (lv_assign rfl) ?_
 refine t_done ?_
 refine q_then_n (hK10 _ _ ?_)
 refine c_ret ?_
 refine q_then_r ?_
 refine t_f1 ?_
 refine t_f1 ?_
 refine t_shutQ hok3 hle4 ?_
 refine q_ret rfl rfl ?_
 exact ⟨rfl, rfl⟩

set_option maxHeartbeats 4000000 in
theorem rlow_ok {R : List HP} {p : Nat} {N : Int} {es : List (Int × Int)} (hes : es.length ≤ 65536) {x : Int} (t : Int) (hr : 0 ≤ x ∧ x < min N 65536) {k : Nat} (hk : k < es.length) (hkx : (es.getD k (0, 0)).1 = x) (hall : ∀ j, j < k → ¬ (es.getD j (0, 0)).1 = x) (hgt : ¬ t > (es.getD k (0, 0)).2) :
    Ok Try.prog 21 [(.pointer (some ⟨p, 0, none⟩)), (.int .i64 x), (.int .i64 t)] ((RowQ 52 54 p N es) :: R)
      (fun v M => v = .int .i64 0 ∧ M = RowQ 52 54 p N (es.set k ((es.getD k (0, 0)).1, t)) :: R) := by
 refine ok_of (N := 37) Try.func21 rfl rfl rfl (fun W => ?_)
 refine c_seq (fun K1 hK1 => ?_)
 refine c_region ?_
 refine tp rfl (lv_assign rfl) ?_
 refine t_done ?_
 refine q_then_n (hK1 _ _ ?_)
 refine c_seq (fun K2 hK2 => ?_)
 refine c_region ?_
 refine tp rfl (lv_move rfl) ?_
 refine tp rfl (lv_move rfl) ?_
 refine tc rfl (en_fn Try.call33 rfl) (rknown_t hes hr) ?_
 rintro _ _ ⟨rfl, rfl⟩
 refine tp rfl (lv_assign rfl) ?_
 refine t_done ?_
 refine q_then_n (hK2 _ _ ?_)
 refine c_seq (fun K3 hK3 => ?_)
 refine c_seq (fun K4 hK4 => ?_)
 refine c_region ?_
 refine tp rfl (lv_move rfl) ?_
 refine tp rfl (lv_not (c := false) rfl rfl) ?_
 refine t_done ?_
 refine q_then_n (hK4 _ _ ?_)
 refine c_false rfl ?_
 refine c_skip ?_
 refine q_then_n (hK3 _ _ ?_)
 refine c_seq (fun K5 hK5 => ?_)
 refine c_region ?_
 refine tp rfl (lv_move rfl) ?_
 refine tp rfl (lv_move rfl) ?_
 refine tc rfl (en_fn Try.call34 rfl) (rfind_s hes hk hkx hall) ?_
 rintro _ _ ⟨rfl, rfl⟩
 refine tp rfl (lv_assign rfl) ?_
 refine t_done ?_
 refine q_then_n (hK5 _ _ ?_)
 refine c_seq (fun K6 hK6 => ?_)
 refine c_seq (fun K7 hK7 => ?_)
 refine c_region ?_
 refine tp rfl (lv_move rfl) ?_
 refine tp rfl (lv_lss rfl rfl (decide_eq_false (by omega))) ?_
 refine t_done ?_
 refine q_then_n (hK7 _ _ ?_)
 refine c_false rfl ?_
 refine c_skip ?_
 refine q_then_n (hK6 _ _ ?_)
 refine c_seq (fun K8 hK8 => ?_)
 refine c_seq (fun K9 hK9 => ?_)
 refine t_openQ (fun bs1 cp2 hok3 hle4 => ?_)
 refine c_region ?_
 refine tp rfl (lv_move rfl) ?_
 refine tp rfl (lv_move rfl) ?_
 refine tp rfl (lv_nilCheck rfl) ?_
 refine tp rfl (lv_fieldAddr (o' := 1) Try.underlying52 rfl Try.sizeOf50 rfl rfl) ?_
 refine tp rfl (lv_load Try.isAgg50 rfl (gives_blk (.head _) rfl)) ?_
 refine tp rfl (lv_move rfl) ?_
 refine tp rfl (lv_indexAddr (k' := k * 2) Try.underlying50 Try.sizeOf54 rfl rfl hok3 (by omega) (by omega) (by omega)) ?_
 refine tp rfl (lv_fieldAddr_ad (o' := k * 2 + 1) Try.underlying54 rfl Try.sizeOf3 rfl rfl) ?_
 refine tp rfl (lv_load Try.isAgg3 rfl (gives_sl (.tail _ (.head _)) ((recs_get (k := k) (j := 1) pairQ_len (d := (0, 0)) (by omega) (Nat.le_of_ble_eq_true rfl)).trans rfl))) ?_
 refine tp rfl (lv_gtr rfl rfl (decide_eq_false hgt)) ?_
 refine t_done ?_
 refine q_then_n (hK9 _ _ ?_)
 refine c_false rfl ?_
 refine c_skip ?_
 refine q_then_n (hK8 _ _ ?_)
 refine c_seq (fun K10 hK10 => ?_)
 refine c_region ?_
 refine tp rfl (lv_move rfl) ?_
 refine tp rfl (lv_nilCheck rfl) ?_
 refine tp rfl (lv_fieldAddr (o' := 1) Try.underlying52 rfl Try.sizeOf50 rfl rfl) ?_
 refine tp rfl (lv_load Try.isAgg50 rfl (gives_blk (.head _) rfl)) ?_
 refine tp rfl (lv_move rfl) ?_
 refine tp rfl (lv_move rfl) ?_
 refine tp rfl (lv_indexAddr (k' := k * 2) Try.underlying50 Try.sizeOf54 rfl rfl hok3 (by omega) (by omega) (by omega)) ?_
 refine tp rfl (lv_fieldAddr_ad (o' := k * 2 + 1) Try.underlying54 rfl Try.sizeOf3 rfl rfl) ?_
 refine t_f1 ?_
 refine ts (sv_sl Try.sizeOf3 rfl rfl rfl (by rw [recs_len pairQ_len]; omega) (recs_set (k := k) (j := 1) pairQ_len (d := (0, 0)) (x' := ((es.getD k (0, 0)).1, t)) (by omega) (Nat.le_of_ble_eq_true rfl) rfl)) ?_
 refine t_done ?_
 refine q_then_n (hK10 _ _ ?_)
 refine c_seq (fun K11 hK11 => ?_)
 refine c_region ?_
 refine tp rfl (lv_assign rfl) ?_
 refine t_done ?_
 refine q_then_n (hK11 _ _ ?_)
 refine c_ret ?_
 have hln9 : es.length = (es.set k ((es.getD k (0, 0)).1, t)).length := by simp
 rw [hln9] at hok3 hle4 ⊢
 refine t_f1 ?_
 refine t_shutQ hok3 hle4 ?_
 refine q_ret rfl rfl ?_
 exact ⟨rfl, rfl⟩

theorem cut_eq {es : List (Int × Int)} {k : Nat} : es.take k ++ es.drop (k + 1) = es.eraseIdx k := (List.eraseIdx_eq_take_drop_succ ..).symm

set_option maxHeartbeats 4000000 in
theorem rcut_ok {R : List HP} {p : Nat} {N : Int} {es : List (Int × Int)} (hes : es.length ≤ 65536) {k : Nat} (hk : k < es.length) :
    Ok Try.prog 35 [(.pointer (some ⟨p, 0, none⟩)), (.int .i64 ((k : Nat) : Int))] ((RowQ 52 54 p N es) :: R)
      (fun v M => v = .tuple #[] ∧ M = RowQ 52 54 p N (es.eraseIdx k) :: R) := by
 refine ok_of (N := 23) Try.func35 rfl rfl rfl (fun W => ?_)
 refine t_openQ (fun bs1 cp2 hok3 hle4 => ?_)
 refine c_draw (γ := Option Addr × Nat × Option Addr × Nat × Option Addr × Nat) (n := 20) Try.mixed rfl rfl (fun (bs5, cp6, bs9, cp10, bs13, cp14) S => (S 1 = true → SlOk bs5 0) ∧ (S 1 = true → 0 ≤ cp6) ∧ (S 8 = true → SlOk bs9 k) ∧ (S 8 = true → k ≤ cp10) ∧ (S 16 = true → SlOk bs13 (k + (es.length - (k + 1)))) ∧ (S 16 = true → k + (es.length - (k + 1)) ≤ cp14)) (fun (bs5, cp6, bs9, cp10, bs13, cp14) => [(0, 4, (.pointer (some ⟨p, 0, none⟩))), (1, 5, (.slice bs5 0 cp6)), (2, 6, (.pointer (some ⟨p, 0, none⟩))), (3, 7, (.pointer (some ⟨p, 0, none⟩))), (4, 8, (.pointer (some ⟨p, 1, none⟩))), (5, 9, (.slice bs1 es.length cp2)), (6, 10, (.int .i64 ((k : Nat) : Int))), (7, 11, (.slice bs1 k cp2)), (8, 12, (.slice bs9 k cp10)), (9, 13, (.pointer (some ⟨p, 0, none⟩))), (10, 14, (.pointer (some ⟨p, 0, none⟩))), (11, 15, (.pointer (some ⟨p, 1, none⟩))), (12, 16, (.slice bs1 es.length cp2)), (13, 17, (.int .i64 ((k : Nat) : Int))), (14, 18, (.int .i64 ((k + 1 : Nat) : Int))), (15, 19, (.slice (sbase bs1 (k + 1) cp2 2) (es.length - (k + 1)) (cp2 - (k + 1)))), (16, 20, (.slice bs13 (k + (es.length - (k + 1))) cp14)), (17, 21, (.pointer (some ⟨p, 0, none⟩))), (18, 22, (.pointer (some ⟨p, 1, none⟩)))]) (fun (bs5, cp6, bs9, cp10, bs13, cp14) S => (bif S 19 then (Blk p [(.int .i64 N), (.slice bs13 (k + (es.length - (k + 1))) cp14)] 52) else (Blk p [(.int .i64 N), (.slice bs1 es.length cp2)] 52)) :: (SlV 54 2 (.slice bs1 es.length cp2) es.length (recs pairQ es)) :: (bif S 16 then (SlV 54 2 (.slice bs13 (k + (es.length - (k + 1))) cp14) (k + (es.length - (k + 1))) (recs pairQ ((es.take k) ++ (es.drop (k + 1))))) else (bif S 8 then (SlV 54 2 (.slice bs9 k cp10) k (recs pairQ (es.take k))) else (bif S 1 then (SlV 54 2 (.slice bs5 0 cp6) 0 []) else Emp))) :: R) (none, 0, none, 0, none, 0) (by simp [Nat.ble]) (fun _ h => sat_emps [_, _] 1 h) (fun _ _ h => h) ?_ ?_
 · -- steps
  refine ⟨?_, ?_, ?_, ?_, ?_, ?_, ?_, ?_, ?_, ?_, ?_, ?_, ?_, ?_, ?_, ?_, ?_, ?_, ?_, ?_, trivial⟩
  · -- 0
   rintro ⟨bs5, cp6, bs9, cp10, bs13, cp14⟩ S hF hS D hp K hK
   try dsimp only at hF ⊢
   obtain ⟨hf0, hf1, hf2, hf3, hf4, hf5⟩ := hF
   refine d_need (small := [(0, (.pointer (some ⟨p, 0, none⟩)))]) ⟨look_b rfl rfl, trivial⟩ ?_
   refine tp rfl (lv_move rfl) ?_
   exact d_closes ⟨look_b rfl rfl, trivial⟩ 0 rfl rfl rfl hS (AgreeR.refl _) (t_sat (fun _ h => h) (hK (bs5, cp6, bs9, cp10, bs13, cp14) ⟨hf0, hf1, hf2, hf3, hf4, hf5⟩))
  · -- 1
   rintro ⟨bs5, cp6, bs9, cp10, bs13, cp14⟩ S hF hS D hp K hK
   try dsimp only at hF ⊢
   obtain ⟨hf0, hf1, hf2, hf3, hf4, hf5⟩ := hF
   refine d_need (small := []) trivial ?_
   refine tm rfl (mv_buildSlice (cs := []) Try.underlying50 Try.sizeOf54 Try.zeroValue54 (by decide) rfl rfl rfl rfl) ?_
   rintro _ _ ⟨bs5, cp6, hok7, hle8, rfl, rfl⟩
   refine t_wF (A := (SlV 54 2 (.slice bs9 k cp10) k (recs pairQ (es.take k)))) (nf hS D (k := 8) (i := 1) rfl) ?_
   refine t_wF (A := (SlV 54 2 (.slice bs13 (k + (es.length - (k + 1))) cp14) (k + (es.length - (k + 1))) (recs pairQ ((es.take k) ++ (es.drop (k + 1)))))) (nf (nf hS D (k := 8) (i := 1) rfl) D (k := 16) (i := 8) rfl) ?_
   refine t_sat (fun _ h => sat_put [_, _] h) ?_
   exact d_closes trivial 1 rfl rfl rfl hS (by exact ⟨.inl rfl, .inr ⟨rfl, rfl, hS⟩, .inl rfl, .inl rfl, .inl rfl, .inl rfl, .inl rfl, .inl rfl, .inl rfl, .inl rfl, .inl rfl, .inl rfl, .inl rfl, .inl rfl, .inl rfl, .inl rfl, .inl rfl, .inl rfl, .inl rfl, trivial⟩) (t_sat (fun _ h => h) (hK (bs5, cp6, bs9, cp10, bs13, cp14) ⟨(fun _ => hok7), (fun _ => hle8), hf2, hf3, hf4, hf5⟩))
  · -- 2
   rintro ⟨bs5, cp6, bs9, cp10, bs13, cp14⟩ S hF hS D hp K hK
   try dsimp only at hF ⊢
   obtain ⟨hf0, hf1, hf2, hf3, hf4, hf5⟩ := hF
   refine d_need (small := [(0, (.pointer (some ⟨p, 0, none⟩)))]) ⟨look_b rfl rfl, trivial⟩ ?_
   refine tp rfl (lv_move rfl) ?_
   exact d_closes ⟨look_b rfl rfl, trivial⟩ 2 rfl rfl rfl hS (AgreeR.refl _) (t_sat (fun _ h => h) (hK (bs5, cp6, bs9, cp10, bs13, cp14) ⟨hf0, hf1, hf2, hf3, hf4, hf5⟩))
  · -- 3
   rintro ⟨bs5, cp6, bs9, cp10, bs13, cp14⟩ S hF hS D hp K hK
   try dsimp only at hF ⊢
   obtain ⟨hf0, hf1, hf2, hf3, hf4, hf5⟩ := hF
   have s2 := hp 2 rfl
   refine d_need (small := [(6, (.pointer (some ⟨p, 0, none⟩)))]) ⟨look_row rfl 2 rfl s2, trivial⟩ ?_
   refine tp rfl (lv_nilCheck rfl) ?_
   exact d_closes ⟨look_row rfl 2 rfl s2, trivial⟩ 3 rfl rfl rfl hS (AgreeR.refl _) (t_sat (fun _ h => h) (hK (bs5, cp6, bs9, cp10, bs13, cp14) ⟨hf0, hf1, hf2, hf3, hf4, hf5⟩))
  · -- 4
   rintro ⟨bs5, cp6, bs9, cp10, bs13, cp14⟩ S hF hS D hp K hK
   try dsimp only at hF ⊢
   obtain ⟨hf0, hf1, hf2, hf3, hf4, hf5⟩ := hF
   have s3 := hp 3 rfl
   refine d_need (small := [(7, (.pointer (some ⟨p, 0, none⟩)))]) ⟨look_row rfl 3 rfl s3, trivial⟩ ?_
   refine tp rfl (lv_fieldAddr (o' := 1) Try.underlying52 rfl Try.sizeOf50 rfl rfl) ?_
   exact d_closes ⟨look_row rfl 3 rfl s3, trivial⟩ 4 rfl rfl rfl hS (AgreeR.refl _) (t_sat (fun _ h => h) (hK (bs5, cp6, bs9, cp10, bs13, cp14) ⟨hf0, hf1, hf2, hf3, hf4, hf5⟩))
  · -- 5
   rintro ⟨bs5, cp6, bs9, cp10, bs13, cp14⟩ S hF hS D hp K hK
   try dsimp only at hF ⊢
   obtain ⟨hf0, hf1, hf2, hf3, hf4, hf5⟩ := hF
   have s4 := hp 4 rfl
   refine d_need (small := [(8, (.pointer (some ⟨p, 1, none⟩)))]) ⟨look_row rfl 4 rfl s4, trivial⟩ ?_
   refine tp rfl (lv_load Try.isAgg50 rfl (gives_blk (mem_cF (nf hS D (k := 19) (i := 5) rfl) (.head _)) rfl)) ?_
   exact d_closes ⟨look_row rfl 4 rfl s4, trivial⟩ 5 rfl rfl rfl hS (AgreeR.refl _) (t_sat (fun _ h => h) (hK (bs5, cp6, bs9, cp10, bs13, cp14) ⟨hf0, hf1, hf2, hf3, hf4, hf5⟩))
  · -- 6
   rintro ⟨bs5, cp6, bs9, cp10, bs13, cp14⟩ S hF hS D hp K hK
   try dsimp only at hF ⊢
   obtain ⟨hf0, hf1, hf2, hf3, hf4, hf5⟩ := hF
   refine d_need (small := [(1, (.int .i64 ((k : Nat) : Int)))]) ⟨look_b rfl rfl, trivial⟩ ?_
   refine tp rfl (lv_move rfl) ?_
   exact d_closes ⟨look_b rfl rfl, trivial⟩ 6 rfl rfl rfl hS (AgreeR.refl _) (t_sat (fun _ h => h) (hK (bs5, cp6, bs9, cp10, bs13, cp14) ⟨hf0, hf1, hf2, hf3, hf4, hf5⟩))
  · -- 7
   rintro ⟨bs5, cp6, bs9, cp10, bs13, cp14⟩ S hF hS D hp K hK
   try dsimp only at hF ⊢
   obtain ⟨hf0, hf1, hf2, hf3, hf4, hf5⟩ := hF
   have s5 := hp 5 rfl
   have s6 := hp 6 rfl
   refine d_need (small := [(9, (.slice bs1 es.length cp2)), (10, (.int .i64 ((k : Nat) : Int)))]) ⟨look_row rfl 5 rfl s5, look_row rfl 6 rfl s6, trivial⟩ ?_
   refine tp rfl (lv_slice (l := 0) (h := k) (m := cp2) (v := (.slice bs1 k cp2)) Try.underlying50 Try.sizeOf54 rfl rfl rfl rfl (.inr ⟨rfl, rfl⟩) (.inl ⟨_, _, rfl, (by omega), (by omega), (by omega)⟩) (.inr ⟨rfl, rfl⟩) (by simp) (by rw [sbase_zero]; rfl)) ?_
   exact d_closes ⟨look_row rfl 5 rfl s5, look_row rfl 6 rfl s6, trivial⟩ 7 rfl rfl rfl hS (AgreeR.refl _) (t_sat (fun _ h => h) (hK (bs5, cp6, bs9, cp10, bs13, cp14) ⟨hf0, hf1, hf2, hf3, hf4, hf5⟩))
  · -- 8
   rintro ⟨bs5, cp6, bs9, cp10, bs13, cp14⟩ S hF hS D hp K hK
   try dsimp only at hF ⊢
   obtain ⟨hf0, hf1, hf2, hf3, hf4, hf5⟩ := hF
   have s1 := hp 1 rfl
   have hok7 := hf0 s1
   have hle8 := hf1 s1
   have s7 := hp 7 rfl
   refine d_need (small := [(5, (.slice bs5 0 cp6)), (11, (.slice bs1 k cp2))]) ⟨look_row rfl 1 rfl s1, look_row rfl 7 rfl s7, trivial⟩ ?_
   refine t_f2 ?_
   refine t_cF (nf hS D (k := 16) (i := 8) rfl) ?_
   refine t_cF hS ?_
   refine t_cT s1 ?_
   refine tm rfl (mv_append (i := Try.t54) Try.underlying50 Try.type54 rfl rfl rfl (by decide) rfl rfl (fun hz => hok3 (by omega)) (by first | exact recs_len pairQ_len _ | (rw [recs_len pairQ_len]; congr 1; first | (simp; done) | (simp; omega))) (rd_tk_recs pairQ_len k (rd_sl (.tail _ (.tail _ (.head _))))) (recs_one pairQ_one) (by rw [show Try.t54.bytes = 16 from rfl]; omega)) ?_
   rintro _ _ ⟨bs9, cp10, hok11, hle12, rfl, rfl⟩
   simp only [Nat.zero_add] at hok11 hle12 ⊢
   rw [List.nil_append]
   refine t_wF (A := (SlV 54 2 (.slice bs13 (k + (es.length - (k + 1))) cp14) (k + (es.length - (k + 1))) (recs pairQ ((es.take k) ++ (es.drop (k + 1)))))) (nf hS D (k := 16) (i := 8) rfl) ?_
   refine t_f2 ?_
   refine t_f2 ?_
   exact d_closes ⟨look_row rfl 1 rfl s1, look_row rfl 7 rfl s7, trivial⟩ 8 rfl rfl rfl hS (by exact ⟨.inl rfl, .inl rfl, .inl rfl, .inl rfl, .inl rfl, .inl rfl, .inl rfl, .inl rfl, .inr ⟨rfl, rfl, hS⟩, .inl rfl, .inl rfl, .inl rfl, .inl rfl, .inl rfl, .inl rfl, .inl rfl, .inl rfl, .inl rfl, .inl rfl, trivial⟩) (t_sat (fun _ h => h) (hK (bs5, cp6, bs9, cp10, bs13, cp14) ⟨hf0, hf1, (fun _ => hok11), (fun _ => hle12), hf4, hf5⟩))
  · -- 9
   rintro ⟨bs5, cp6, bs9, cp10, bs13, cp14⟩ S hF hS D hp K hK
   try dsimp only at hF ⊢
   obtain ⟨hf0, hf1, hf2, hf3, hf4, hf5⟩ := hF
   refine d_need (small := [(0, (.pointer (some ⟨p, 0, none⟩)))]) ⟨look_b rfl rfl, trivial⟩ ?_
   refine tp rfl (lv_move rfl) ?_
   exact d_closes ⟨look_b rfl rfl, trivial⟩ 9 rfl rfl rfl hS (AgreeR.refl _) (t_sat (fun _ h => h) (hK (bs5, cp6, bs9, cp10, bs13, cp14) ⟨hf0, hf1, hf2, hf3, hf4, hf5⟩))
  · -- 10
   rintro ⟨bs5, cp6, bs9, cp10, bs13, cp14⟩ S hF hS D hp K hK
   try dsimp only at hF ⊢
   obtain ⟨hf0, hf1, hf2, hf3, hf4, hf5⟩ := hF
   have s9 := hp 9 rfl
   refine d_need (small := [(13, (.pointer (some ⟨p, 0, none⟩)))]) ⟨look_row rfl 9 rfl s9, trivial⟩ ?_
   refine tp rfl (lv_nilCheck rfl) ?_
   exact d_closes ⟨look_row rfl 9 rfl s9, trivial⟩ 10 rfl rfl rfl hS (AgreeR.refl _) (t_sat (fun _ h => h) (hK (bs5, cp6, bs9, cp10, bs13, cp14) ⟨hf0, hf1, hf2, hf3, hf4, hf5⟩))
  · -- 11
   rintro ⟨bs5, cp6, bs9, cp10, bs13, cp14⟩ S hF hS D hp K hK
   try dsimp only at hF ⊢
   obtain ⟨hf0, hf1, hf2, hf3, hf4, hf5⟩ := hF
   have s10 := hp 10 rfl
   refine d_need (small := [(14, (.pointer (some ⟨p, 0, none⟩)))]) ⟨look_row rfl 10 rfl s10, trivial⟩ ?_
   refine tp rfl (lv_fieldAddr (o' := 1) Try.underlying52 rfl Try.sizeOf50 rfl rfl) ?_
   exact d_closes ⟨look_row rfl 10 rfl s10, trivial⟩ 11 rfl rfl rfl hS (AgreeR.refl _) (t_sat (fun _ h => h) (hK (bs5, cp6, bs9, cp10, bs13, cp14) ⟨hf0, hf1, hf2, hf3, hf4, hf5⟩))
  · -- 12
   rintro ⟨bs5, cp6, bs9, cp10, bs13, cp14⟩ S hF hS D hp K hK
   try dsimp only at hF ⊢
   obtain ⟨hf0, hf1, hf2, hf3, hf4, hf5⟩ := hF
   have s11 := hp 11 rfl
   refine d_need (small := [(15, (.pointer (some ⟨p, 1, none⟩)))]) ⟨look_row rfl 11 rfl s11, trivial⟩ ?_
   refine tp rfl (lv_load Try.isAgg50 rfl (gives_blk (mem_cF (nf hS D (k := 19) (i := 12) rfl) (.head _)) rfl)) ?_
   exact d_closes ⟨look_row rfl 11 rfl s11, trivial⟩ 12 rfl rfl rfl hS (AgreeR.refl _) (t_sat (fun _ h => h) (hK (bs5, cp6, bs9, cp10, bs13, cp14) ⟨hf0, hf1, hf2, hf3, hf4, hf5⟩))
  · -- 13
   rintro ⟨bs5, cp6, bs9, cp10, bs13, cp14⟩ S hF hS D hp K hK
   try dsimp only at hF ⊢
   obtain ⟨hf0, hf1, hf2, hf3, hf4, hf5⟩ := hF
   refine d_need (small := [(1, (.int .i64 ((k : Nat) : Int)))]) ⟨look_b rfl rfl, trivial⟩ ?_
   refine tp rfl (lv_move rfl) ?_
   exact d_closes ⟨look_b rfl rfl, trivial⟩ 13 rfl rfl rfl hS (AgreeR.refl _) (t_sat (fun _ h => h) (hK (bs5, cp6, bs9, cp10, bs13, cp14) ⟨hf0, hf1, hf2, hf3, hf4, hf5⟩))
  · -- 14
   rintro ⟨bs5, cp6, bs9, cp10, bs13, cp14⟩ S hF hS D hp K hK
   try dsimp only at hF ⊢
   obtain ⟨hf0, hf1, hf2, hf3, hf4, hf5⟩ := hF
   have s13 := hp 13 rfl
   refine d_need (small := [(17, (.int .i64 ((k : Nat) : Int)))]) ⟨look_row rfl 13 rfl s13, trivial⟩ ?_
   refine tp rfl (lv_add (c := ((k + 1 : Nat) : Int)) rfl rfl (wr_i64_succ (by omega))) ?_
   exact d_closes ⟨look_row rfl 13 rfl s13, trivial⟩ 14 rfl rfl rfl hS (AgreeR.refl _) (t_sat (fun _ h => h) (hK (bs5, cp6, bs9, cp10, bs13, cp14) ⟨hf0, hf1, hf2, hf3, hf4, hf5⟩))
  · -- 15
   rintro ⟨bs5, cp6, bs9, cp10, bs13, cp14⟩ S hF hS D hp K hK
   try dsimp only at hF ⊢
   obtain ⟨hf0, hf1, hf2, hf3, hf4, hf5⟩ := hF
   have s12 := hp 12 rfl
   have s14 := hp 14 rfl
   refine d_need (small := [(16, (.slice bs1 es.length cp2)), (18, (.int .i64 ((k + 1 : Nat) : Int)))]) ⟨look_row rfl 12 rfl s12, look_row rfl 14 rfl s14, trivial⟩ ?_
   refine tp rfl (lv_slice (l := k + 1) (h := es.length) (m := cp2) (v := (.slice (sbase bs1 (k + 1) cp2 2) (es.length - (k + 1)) (cp2 - (k + 1)))) Try.underlying50 Try.sizeOf54 rfl rfl rfl rfl (.inr ⟨rfl, rfl⟩) (.inr ⟨rfl, rfl⟩) (.inl ⟨_, _, rfl, (by omega), (by omega), (by omega)⟩) (by simp) rfl) ?_
   exact d_closes ⟨look_row rfl 12 rfl s12, look_row rfl 14 rfl s14, trivial⟩ 15 rfl rfl rfl hS (AgreeR.refl _) (t_sat (fun _ h => h) (hK (bs5, cp6, bs9, cp10, bs13, cp14) ⟨hf0, hf1, hf2, hf3, hf4, hf5⟩))
  · -- 16
   rintro ⟨bs5, cp6, bs9, cp10, bs13, cp14⟩ S hF hS D hp K hK
   try dsimp only at hF ⊢
   obtain ⟨hf0, hf1, hf2, hf3, hf4, hf5⟩ := hF
   have s8 := hp 8 rfl
   have s1 := D 8 1 rfl s8
   have hok7 := hf0 s1
   have hle8 := hf1 s1
   have hok11 := hf2 s8
   have hle12 := hf3 s8
   have s15 := hp 15 rfl
   refine d_need (small := [(12, (.slice bs9 k cp10)), (19, (.slice (sbase bs1 (k + 1) cp2 2) (es.length - (k + 1)) (cp2 - (k + 1))))]) ⟨look_row rfl 8 rfl s8, look_row rfl 15 rfl s15, trivial⟩ ?_
   refine t_cF (nf hS D (k := 19) (i := 16) rfl) ?_
   refine t_f2 ?_
   refine t_cF hS ?_
   refine t_cT s8 ?_
   refine tm rfl (mv_append (i := Try.t54) Try.underlying50 Try.type54 rfl rfl rfl (by decide) rfl rfl (fun hz => slok_sbase hok3 (by omega) hz) (by first | exact recs_len pairQ_len _ | (rw [recs_len pairQ_len]; congr 1; first | (simp; done) | (simp; omega))) (rd_sb_recs (l := k + 1) (m := cp2) pairQ_len (rd_sl (.tail _ (.tail _ (.head _)))) hok3 rfl hle4) (recs_one pairQ_one) (by rw [show Try.t54.bytes = 16 from rfl]; omega)) ?_
   rintro _ _ ⟨bs13, cp14, hok15, hle16, rfl, rfl⟩
   rw [← recs_append]
   refine t_f1 ?_
   refine t_wF (A := (Blk p [(.int .i64 N), (.slice bs13 (k + (es.length - (k + 1))) cp14)] 52)) (nf hS D (k := 19) (i := 16) rfl) ?_
   refine t_f1 ?_
   refine t_f2 ?_
   refine t_f2 ?_
   exact d_closes ⟨look_row rfl 8 rfl s8, look_row rfl 15 rfl s15, trivial⟩ 16 rfl rfl rfl hS (by exact ⟨.inl rfl, .inl rfl, .inl rfl, .inl rfl, .inl rfl, .inl rfl, .inl rfl, .inl rfl, .inl rfl, .inl rfl, .inl rfl, .inl rfl, .inl rfl, .inl rfl, .inl rfl, .inl rfl, .inr ⟨rfl, rfl, hS⟩, .inl rfl, .inl rfl, trivial⟩) (t_sat (fun _ h => h) (hK (bs5, cp6, bs9, cp10, bs13, cp14) ⟨hf0, hf1, hf2, hf3, (fun _ => hok15), (fun _ => hle16)⟩))
  · -- 17
   rintro ⟨bs5, cp6, bs9, cp10, bs13, cp14⟩ S hF hS D hp K hK
   try dsimp only at hF ⊢
   obtain ⟨hf0, hf1, hf2, hf3, hf4, hf5⟩ := hF
   have s0 := hp 0 rfl
   refine d_need (small := [(4, (.pointer (some ⟨p, 0, none⟩)))]) ⟨look_row rfl 0 rfl s0, trivial⟩ ?_
   refine tp rfl (lv_nilCheck rfl) ?_
   exact d_closes ⟨look_row rfl 0 rfl s0, trivial⟩ 17 rfl rfl rfl hS (AgreeR.refl _) (t_sat (fun _ h => h) (hK (bs5, cp6, bs9, cp10, bs13, cp14) ⟨hf0, hf1, hf2, hf3, hf4, hf5⟩))
  · -- 18
   rintro ⟨bs5, cp6, bs9, cp10, bs13, cp14⟩ S hF hS D hp K hK
   try dsimp only at hF ⊢
   obtain ⟨hf0, hf1, hf2, hf3, hf4, hf5⟩ := hF
   have s17 := hp 17 rfl
   refine d_need (small := [(21, (.pointer (some ⟨p, 0, none⟩)))]) ⟨look_row rfl 17 rfl s17, trivial⟩ ?_
   refine tp rfl (lv_fieldAddr (o' := 1) Try.underlying52 rfl Try.sizeOf50 rfl rfl) ?_
   exact d_closes ⟨look_row rfl 17 rfl s17, trivial⟩ 18 rfl rfl rfl hS (AgreeR.refl _) (t_sat (fun _ h => h) (hK (bs5, cp6, bs9, cp10, bs13, cp14) ⟨hf0, hf1, hf2, hf3, hf4, hf5⟩))
  · -- 19
   rintro ⟨bs5, cp6, bs9, cp10, bs13, cp14⟩ S hF hS D hp K hK
   try dsimp only at hF ⊢
   obtain ⟨hf0, hf1, hf2, hf3, hf4, hf5⟩ := hF
   have s1 := hp 1 rfl
   have hok7 := hf0 s1
   have hle8 := hf1 s1
   have s8 := hp 8 rfl
   have hok11 := hf2 s8
   have hle12 := hf3 s8
   have s16 := hp 16 rfl
   have hok15 := hf4 s16
   have hle16 := hf5 s16
   have s18 := hp 18 rfl
   refine d_need (small := [(20, (.slice bs13 (k + (es.length - (k + 1))) cp14)), (22, (.pointer (some ⟨p, 1, none⟩)))]) ⟨look_row rfl 16 rfl s16, look_row rfl 18 rfl s18, trivial⟩ ?_
   refine t_cF hS ?_
   refine ts (sv_blk Try.sizeOf50 rfl rfl rfl (Nat.le_of_ble_eq_true rfl) rfl) ?_
   exact d_closes0 ⟨look_row rfl 16 rfl s16, look_row rfl 18 rfl s18, trivial⟩ rfl (t_sat (fun _ h => h) (hK (bs5, cp6, bs9, cp10, bs13, cp14) ⟨hf0, hf1, hf2, hf3, hf4, hf5⟩))
 · -- behind
  rintro ⟨bs5, cp6, bs9, cp10, bs13, cp14⟩ hF
  try dsimp only at hF ⊢
  obtain ⟨hf0, hf1, hf2, hf3, hf4, hf5⟩ := hF
  have hok7 := hf0 rfl
  have hle8 := hf1 rfl
  have hok11 := hf2 rfl
  have hle12 := hf3 rfl
  have hok15 := hf4 rfl
  have hle16 := hf5 rfl
  refine t_weak (E' := [(0, (.pointer (some ⟨p, 0, none⟩))), (1, (.int .i64 ((k : Nat) : Int)))]) ⟨rfl, rfl, trivial⟩ ?_
  have hel9 : (es.take k) ++ (es.drop (k + 1)) = es.eraseIdx k := cut_eq
  have hln9 : k + (es.length - (k + 1)) = (es.eraseIdx k).length := by rw [← hel9]; simp; try omega
  rw [hel9]
  rw [hln9] at hok15 hle16 ⊢
  refine t_f2 ?_
  refine t_f1 ?_
  refine t_shutQ hok15 hle16 ?_
  refine t_f1 ?_
  refine t_drop ?_
  refine q_ret0 rfl ?_
  exact ⟨rfl, rfl⟩

theorem rrem_arg {R : List HP} {p : Nat} {N : Int} {es : List (Int × Int)} (hes : es.length ≤ 65536) {x : Int} (hr : ¬ (0 ≤ x ∧ x < min N 65536)) :
    Ok Try.prog 22 [(.pointer (some ⟨p, 0, none⟩)), (.int .i64 x)] ((RowQ 52 54 p N es) :: R)
      (fun v M => v = .tuple #[.int .i64 0, .int .i64 1] ∧ M = RowQ 52 54 p N es :: R) := by
 refine ok_of (N := 31) Try.func22 rfl rfl rfl (fun W => ?_)
 refine c_seq (fun K1 hK1 => ?_)
 refine c_region ?_
 refine tp rfl (lv_assign rfl) ?_
 refine tp rfl (lv_assign rfl) ?_
 refine t_done ?_
 refine q_then_n (hK1 _ _ ?_)
 refine c_seq (fun K2 hK2 => ?_)
 refine c_region ?_
 refine tp rfl (lv_move rfl) ?_
 refine tp rfl (lv_move rfl) ?_
 refine tc rfl (en_fn Try.call33 rfl) (rknown_f hes hr) ?_
 rintro _ _ ⟨rfl, rfl⟩
 refine tp rfl (lv_assign rfl) ?_
 refine t_done ?_
 refine q_then_n (hK2 _ _ ?_)
 refine c_seq (fun K3 hK3 => ?_)
 refine c_seq (fun K4 hK4 => ?_)
 refine c_region ?_
 refine tp rfl (lv_move rfl) ?_
 refine tp rfl (lv_not (c := true) rfl rfl) ?_
 refine t_done ?_
 refine q_then_n (hK4 _ _ ?_)
 refine c_true rfl ?_
 refine c_seq (fun K5 hK5 => ?_)
 refine c_region ?_
 refine tp rfl (lv_assign rfl) ?_
 refine tp rfl (lv_assign rfl) ?_
 refine t_done ?_
 refine q_then_n (hK5 _ _ ?_)
 refine c_ret ?_
 refine q_then_r ?_
 refine q_ret2 rfl rfl rfl ?_
 exact ⟨rfl, rfl⟩

theorem rrem_none {R : List HP} {p : Nat} {N : Int} {es : List (Int × Int)} (hes : es.length ≤ 65536) {x : Int} (hr : 0 ≤ x ∧ x < min N 65536) (hno : ∀ j, j < es.length → ¬ (es.getD j (0, 0)).1 = x) :
    Ok Try.prog 22 [(.pointer (some ⟨p, 0, none⟩)), (.int .i64 x)] ((RowQ 52 54 p N es) :: R)
      (fun v M => v = .tuple #[.int .i64 0, .int .i64 6] ∧ M = RowQ 52 54 p N es :: R) := by
 refine ok_of (N := 31) Try.func22 rfl rfl rfl (fun W => ?_)
 refine c_seq (fun K1 hK1 => ?_)
 refine c_region ?_
 refine tp rfl (lv_assign rfl) ?_
 refine tp rfl (lv_assign rfl) ?_
 refine t_done ?_
 refine q_then_n (hK1 _ _ ?_)
 refine c_seq (fun K2 hK2 => ?_)
 refine c_region ?_
 refine tp rfl (lv_move rfl) ?_
 refine tp rfl (lv_move rfl) ?_
 refine tc rfl (en_fn Try.call33 rfl) (rknown_t hes hr) ?_
 rintro _ _ ⟨rfl, rfl⟩
 refine tp rfl (lv_assign rfl) ?_
 refine t_done ?_
 refine q_then_n (hK2 _ _ ?_)
 refine c_seq (fun K3 hK3 => ?_)
 refine c_seq (fun K4 hK4 => ?_)
 refine c_region ?_
 refine tp rfl (lv_move rfl) ?_
 refine tp rfl (lv_not (c := false) rfl rfl) ?_
 refine t_done ?_
 refine q_then_n (hK4 _ _ ?_)
 refine c_false rfl ?_
 refine c_skip ?_
 refine q_then_n (hK3 _ _ ?_)
 refine c_seq (fun K5 hK5 => ?_)
 refine c_region ?_
 refine tp rfl (lv_move rfl) ?_
 refine tp rfl (lv_move rfl) ?_
 refine tc rfl (en_fn Try.call34 rfl) (rfind_n hes hno) ?_
 rintro _ _ ⟨rfl, rfl⟩
 refine tp rfl (lv_assign rfl) ?_
 refine t_done ?_
 refine q_then_n (hK5 _ _ ?_)
 refine c_seq (fun K6 hK6 => ?_)
 refine c_seq (fun K7 hK7 => ?_)
 refine c_region ?_
 refine tp rfl (lv_move rfl) ?_
 refine tp rfl (lv_lss (r := true) rfl rfl (by decide)) ?_
 refine t_done ?_
 refine q_then_n (hK7 _ _ ?_)
 refine c_true rfl ?_
 refine c_seq (fun K8 hK8 => ?_)
 refine c_region ?_
 refine tp rfl (lv_assign rfl) ?_
 refine tp rfl (lv_assign rfl) ?_
 refine t_done ?_
 refine q_then_n (hK8 _ _ ?_)
 refine c_ret ?_
 refine q_then_r ?_
 refine q_ret2 rfl rfl rfl ?_
 exact ⟨rfl, rfl⟩

theorem rrem_ok {R : List HP} {p : Nat} {N : Int} {es : List (Int × Int)} (hes : es.length ≤ 65536) {x : Int} (hr : 0 ≤ x ∧ x < min N 65536) {k : Nat} (hk : k < es.length) (hkx : (es.getD k (0, 0)).1 = x) (hall : ∀ j, j < k → ¬ (es.getD j (0, 0)).1 = x) :
    Ok Try.prog 22 [(.pointer (some ⟨p, 0, none⟩)), (.int .i64 x)] ((RowQ 52 54 p N es) :: R)
      (fun v M => v = .tuple #[.int .i64 (es.getD k (0, 0)).2, .int .i64 0] ∧ M = RowQ 52 54 p N (es.eraseIdx k) :: R) := by
 refine ok_of (N := 31) Try.func22 rfl rfl rfl (fun W => ?_)
 refine c_seq (fun K1 hK1 => ?_)
 refine c_region ?_
 refine tp rfl (lv_assign rfl) ?_
 refine tp rfl (lv_assign rfl) ?_
 refine t_done ?_
 refine q_then_n (hK1 _ _ ?_)
 refine c_seq (fun K2 hK2 => ?_)
 refine c_region ?_
 refine tp rfl (lv_move rfl) ?_
 refine tp rfl (lv_move rfl) ?_
 refine tc rfl (en_fn Try.call33 rfl) (rknown_t hes hr) ?_
 rintro _ _ ⟨rfl, rfl⟩
 refine tp rfl (lv_assign rfl) ?_
 refine t_done ?_
 refine q_then_n (hK2 _ _ ?_)
 refine c_seq (fun K3 hK3 => ?_)
 refine c_seq (fun K4 hK4 => ?_)
 refine c_region ?_
 refine tp rfl (lv_move rfl) ?_
 refine tp rfl (lv_not (c := false) rfl rfl) ?_
 refine t_done ?_
 refine q_then_n (hK4 _ _ ?_)
 refine c_false rfl ?_
 refine c_skip ?_
 refine q_then_n (hK3 _ _ ?_)
 refine c_seq (fun K5 hK5 => ?_)
 refine c_region ?_
 refine tp rfl (lv_move rfl) ?_
 refine tp rfl (lv_move rfl) ?_
 refine tc rfl (en_fn Try.call34 rfl) (rfind_s hes hk hkx hall) ?_
 rintro _ _ ⟨rfl, rfl⟩
 refine tp rfl (lv_assign rfl) ?_
 refine t_done ?_
 refine q_then_n (hK5 _ _ ?_)
 refine c_seq (fun K6 hK6 => ?_)
 refine c_seq (fun K7 hK7 => ?_)
 refine c_region ?_
 refine tp rfl (lv_move rfl) ?_
 refine tp rfl (lv_lss rfl rfl (decide_eq_false (by omega))) ?_
 refine t_done ?_
 refine q_then_n (hK7 _ _ ?_)
 refine c_false rfl ?_
 refine c_skip ?_
 refine q_then_n (hK6 _ _ ?_)
 refine c_seq (fun K8 hK8 => ?_)
 refine t_openQ (fun bs1 cp2 hok3 hle4 => ?_)
 refine c_region ?_
 refine tp rfl (lv_move rfl) ?_
 refine tp rfl (lv_nilCheck rfl) ?_
 refine tp rfl (lv_fieldAddr (o' := 1) Try.underlying52 rfl Try.sizeOf50 rfl rfl) ?_
 refine tp rfl (lv_load Try.isAgg50 rfl (gives_blk (.head _) rfl)) ?_
 refine tp rfl (lv_move rfl) ?_
 refine tp rfl (lv_indexAddr (k' := k * 2) Try.underlying50 Try.sizeOf54 rfl rfl hok3 (by omega) (by omega) (by omega)) ?_
 refine tp rfl (lv_fieldAddr_ad (o' := k * 2 + 1) Try.underlying54 rfl Try.sizeOf3 rfl rfl) ?_
 refine tp rfl (lv_load Try.isAgg3 rfl (gives_sl (.tail _ (.head _)) ((recs_get (k := k) (j := 1) pairQ_len (d := (0, 0)) (by omega) (Nat.le_of_ble_eq_true rfl)).trans rfl))) ?_
 refine tp rfl (lv_assign rfl) ?_
 refine t_done ?_
 refine q_then_n (hK8 _ _ ?_)
 refine c_seq (fun K9 hK9 => ?_)
 refine c_region ?_
 refine t_f1 ?_
 refine t_f1 ?_
 refine t_shutQ hok3 hle4 ?_
 refine tp rfl (lv_move rfl) ?_
 refine tp rfl (lv_move rfl) ?_
 refine tc rfl (en_fn Try.call35 rfl) (rcut_ok hes hk) ?_
 rintro _ _ ⟨rfl, rfl⟩
 refine t_done ?_
 refine q_then_n (hK9 _ _ ?_)
 refine c_seq (fun K10 hK10 => ?_)
 refine c_region ?_
 refine tp rfl (lv_move rfl) ?_
 refine tp rfl (lv_assign rfl) ?_
 refine tp rfl (lv_assign rfl) ?_
 refine t_done ?_
 refine q_then_n (hK10 _ _ ?_)
 refine c_ret ?_
 refine q_ret2 rfl rfl rfl ?_
 exact ⟨rfl, rfl⟩

theorem rkey_none {R : List HP} {p : Nat} {N : Int} {es : List (Int × Int)} (hes : es.length ≤ 65536) {x : Int} (hno : ∀ j, j < es.length → ¬ (es.getD j (0, 0)).1 = x) :
    Ok Try.prog 26 [(.pointer (some ⟨p, 0, none⟩)), (.int .i64 x)] ((RowQ 52 54 p N es) :: R)
      (fun v M => v = .tuple #[.int .i64 0, .bool false] ∧ M = RowQ 52 54 p N es :: R) := by
 refine ok_of (N := 20) Try.func26 rfl rfl rfl (fun W => ?_)
 refine c_seq (fun K1 hK1 => ?_)
 refine c_region ?_
 refine tp rfl (lv_assign rfl) ?_
 refine tp rfl (lv_assign rfl) ?_
 refine t_done ?_
 refine q_then_n (hK1 _ _ ?_)
 refine c_seq (fun K2 hK2 => ?_)
 refine c_region ?_
 refine tp rfl (lv_move rfl) ?_
 refine tp rfl (lv_move rfl) ?_
 refine tc rfl (en_fn Try.call34 rfl) (rfind_n hes hno) ?_
 rintro _ _ ⟨rfl, rfl⟩
 refine tp rfl (lv_assign rfl) ?_
 refine t_done ?_
 refine q_then_n (hK2 _ _ ?_)
 refine c_seq (fun K3 hK3 => ?_)
 refine c_seq (fun K4 hK4 => ?_)
 refine c_region ?_
 refine tp rfl (lv_move rfl) ?_
 refine tp rfl (lv_lss (r := true) rfl rfl (by decide)) ?_
 refine t_done ?_
 refine q_then_n (hK4 _ _ ?_)
 refine c_true rfl ?_
 refine c_seq (fun K5 hK5 => ?_)
 refine c_region ?_
 refine tp rfl (lv_assign rfl) ?_
 refine tp rfl (lv_assign rfl) ?_
 refine t_done ?_
 refine q_then_n (hK5 _ _ ?_)
 refine c_ret ?_
 refine q_then_r ?_
 refine q_ret2 rfl rfl rfl ?_
 exact ⟨rfl, rfl⟩

theorem rkey_ok {R : List HP} {p : Nat} {N : Int} {es : List (Int × Int)} (hes : es.length ≤ 65536) {x : Int} {k : Nat} (hk : k < es.length) (hkx : (es.getD k (0, 0)).1 = x) (hall : ∀ j, j < k → ¬ (es.getD j (0, 0)).1 = x) :
    Ok Try.prog 26 [(.pointer (some ⟨p, 0, none⟩)), (.int .i64 x)] ((RowQ 52 54 p N es) :: R)
      (fun v M => v = .tuple #[.int .i64 (es.getD k (0, 0)).2, .bool true] ∧ M = RowQ 52 54 p N es :: R) := by
 refine ok_of (N := 20) Try.func26 rfl rfl rfl (fun W => ?_)
 refine c_seq (fun K1 hK1 => ?_)
 refine c_region ?_
 refine tp rfl (lv_assign rfl) ?_
 refine tp rfl (lv_assign rfl) ?_
 refine t_done ?_
 refine q_then_n (hK1 _ _ ?_)
 refine c_seq (fun K2 hK2 => ?_)
 refine c_region ?_
 refine tp rfl (lv_move rfl) ?_
 refine tp rfl (lv_move rfl) ?_
 refine tc rfl (en_fn Try.call34 rfl) (rfind_s hes hk hkx hall) ?_
 rintro _ _ ⟨rfl, rfl⟩
 refine tp rfl (lv_assign rfl) ?_
 refine t_done ?_
 refine q_then_n (hK2 _ _ ?_)
 refine c_seq (fun K3 hK3 => ?_)
 refine c_seq (fun K4 hK4 => ?_)
 refine c_region ?_
 refine tp rfl (lv_move rfl) ?_
 refine tp rfl (lv_lss rfl rfl (decide_eq_false (by omega))) ?_
 refine t_done ?_
 refine q_then_n (hK4 _ _ ?_)
 refine c_false rfl ?_
 refine c_skip ?_
 refine q_then_n (hK3 _ _ ?_)
 refine c_seq (fun K5 hK5 => ?_)
 refine t_openQ (fun bs1 cp2 hok3 hle4 => ?_)
 refine c_region ?_
 refine tp rfl (lv_move rfl) ?_
 refine tp rfl (lv_nilCheck rfl) ?_
 refine tp rfl (lv_fieldAddr (o' := 1) Try.underlying52 rfl Try.sizeOf50 rfl rfl) ?_
 refine tp rfl (lv_load Try.isAgg50 rfl (gives_blk (.head _) rfl)) ?_
 refine tp rfl (lv_move rfl) ?_
 refine tp rfl (lv_indexAddr (k' := k * 2) Try.underlying50 Try.sizeOf54 rfl rfl hok3 (by omega) (by omega) (by omega)) ?_
 refine tp rfl (lv_fieldAddr_ad (o' := k * 2 + 1) Try.underlying54 rfl Try.sizeOf3 rfl rfl) ?_
 refine tp rfl (lv_load Try.isAgg3 rfl (gives_sl (.tail _ (.head _)) ((recs_get (k := k) (j := 1) pairQ_len (d := (0, 0)) (by omega) (Nat.le_of_ble_eq_true rfl)).trans rfl))) ?_
 refine tp rfl (lv_assign rfl) ?_
 refine tp rfl (lv_assign rfl) ?_
 refine t_done ?_
 refine q_then_n (hK5 _ _ ?_)
 refine c_ret ?_
 refine t_f1 ?_
 refine t_f1 ?_
 refine t_shutQ hok3 hle4 ?_
 refine q_ret2 rfl rfl rfl ?_
 exact ⟨rfl, rfl⟩

/-- it comes no later -/
def LeQ (a b : Int × Int) : Prop := a.2 < b.2 ∨ (a.2 = b.2 ∧ a.1 ≤ b.1)
theorem LeQ.keep {es : List (Int × Int)} {c : Int × Int} {i : Nat} (h : ∀ j, j < i → LeQ c (es.getD j (0, 0))) (hn : LeQ c (es.getD i (0, 0))) : ∀ j, j < i + 1 → LeQ c (es.getD j (0, 0)) := fun j hj => by
  by_cases e : j = i
  · exact e ▸ hn
  · exact h j (by omega)
theorem LeQ.new {es : List (Int × Int)} {c : Int × Int} {i : Nat} (h : ∀ j, j < i → LeQ c (es.getD j (0, 0))) (hn : LeQ (es.getD i (0, 0)) c) : ∀ j, j < i + 1 → LeQ (es.getD i (0, 0)) (es.getD j (0, 0)) := fun j hj => by
  by_cases e : j = i
  · subst e; exact .inr ⟨rfl, Int.le_refl _⟩
  · have := h j (by omega); unfold LeQ at *; omega

theorem rfirst_n {R : List HP} {p : Nat} {N : Int} {es : List (Int × Int)} (hes : es.length ≤ 65536) (h0 : es.length = 0) :
    Ok Try.prog 24 [(.pointer (some ⟨p, 0, none⟩))] ((RowQ 52 54 p N es) :: R)
      (fun v M => v = .tuple #[.agg #[.int .i64 0, .int .i64 0], .bool false] ∧ M = RowQ 52 54 p N es :: R) := by
 refine ok_of (N := 57) Try.func24 rfl rfl rfl (fun W => ?_)
 refine t_openQ (fun bs1 cp2 hok3 hle4 => ?_)
 refine c_seq (fun K1 hK1 => ?_)
 refine c_region ?_
 refine tm rfl (mv_alloc Try.zeroValue54 rfl) ?_
 rintro _ _ ⟨b5, rfl, rfl⟩
 refine tp rfl (lv_assign rfl) ?_
 refine t_done ?_
 refine q_then_n (hK1 _ _ ?_)
 refine c_seq (fun K2 hK2 => ?_)
 refine c_seq (fun K3 hK3 => ?_)
 refine c_region ?_
 refine tp rfl (lv_move rfl) ?_
 refine tp rfl (lv_nilCheck rfl) ?_
 refine tp rfl (lv_fieldAddr (o' := 1) Try.underlying52 rfl Try.sizeOf50 rfl rfl) ?_
 refine tp rfl (lv_load Try.isAgg50 rfl (gives_blk (.tail _ (.head _)) rfl)) ?_
 refine tp rfl (lv_len Try.underlying50 rfl rfl) ?_
 refine tp rfl (lv_eql rfl rfl (beq_iff_eq.2 (by omega))) ?_
 refine t_done ?_
 refine q_then_n (hK3 _ _ ?_)
 refine c_true rfl ?_
 refine c_seq (fun K4 hK4 => ?_)
 refine c_region ?_
 refine tp rfl (lv_build (cs := [(.int .i64 0), (.int .i64 0)]) (pl := [(0, 1), (1, 1)]) Try.underlying54 Try.zeroValue54 (fun _ => by simp) rfl rfl) ?_
 refine ts (sv_blkAgg (news := [(.int .i64 0), (.int .i64 0)]) Try.sizeOf54 rfl rfl rfl rfl (Nat.le_of_ble_eq_true rfl) rfl) ?_
 refine tp rfl (lv_assign rfl) ?_
 refine t_done ?_
 refine q_then_n (hK4 _ _ ?_)
 refine c_ret ?_
 refine q_then_r ?_
 refine t_f2 ?_
 refine t_f2 ?_
 refine t_shutQ hok3 hle4 ?_
 refine t_f1 ?_
 refine q_retc2 (cs := [(.int .i64 0), (.int .i64 0)]) rfl rfl rfl Try.isAgg54 Try.sizeOf54 (gives_all2 (gives_blk (.head _) rfl) (gives_blk (.head _) rfl)) (fun _ h => h.drop) ?_
 exact ⟨rfl, rfl⟩

set_option maxHeartbeats 4000000 in
theorem rfirst_s {R : List HP} {p : Nat} {N : Int} {es : List (Int × Int)} (hes : es.length ≤ 65536) (h0 : 0 < es.length) :
    Ok Try.prog 24 [(.pointer (some ⟨p, 0, none⟩))] ((RowQ 52 54 p N es) :: R)
      (fun v M => ∃ (c : Int × Int) (k : Nat), k < es.length ∧ es.getD k (0, 0) = c ∧ (∀ j, j < es.length → LeQ c (es.getD j (0, 0))) ∧ v = .tuple #[.agg #[.int .i64 c.1, .int .i64 c.2], .bool true] ∧ M = RowQ 52 54 p N es :: R) := by
 refine ok_of (N := 57) Try.func24 rfl rfl rfl (fun W => ?_)
 refine t_openQ (fun bs1 cp2 hok3 hle4 => ?_)
 refine c_seq (fun K1 hK1 => ?_)
 refine c_region ?_
 refine tm rfl (mv_alloc Try.zeroValue54 rfl) ?_
 rintro _ _ ⟨b5, rfl, rfl⟩
 refine tp rfl (lv_assign rfl) ?_
 refine t_done ?_
 refine q_then_n (hK1 _ _ ?_)
 refine c_seq (fun K2 hK2 => ?_)
 refine c_seq (fun K3 hK3 => ?_)
 refine c_region ?_
 refine tp rfl (lv_move rfl) ?_
 refine tp rfl (lv_nilCheck rfl) ?_
 refine tp rfl (lv_fieldAddr (o' := 1) Try.underlying52 rfl Try.sizeOf50 rfl rfl) ?_
 refine tp rfl (lv_load Try.isAgg50 rfl (gives_blk (.tail _ (.head _)) rfl)) ?_
 refine tp rfl (lv_len Try.underlying50 rfl rfl) ?_
 refine tp rfl (lv_eql rfl rfl (beq_eq_false_iff_ne.2 (by omega))) ?_
 refine t_done ?_
 refine q_then_n (hK3 _ _ ?_)
 refine c_false rfl ?_
 refine c_skip ?_
 refine q_then_n (hK2 _ _ ?_)
 refine c_seq (fun K4 hK4 => ?_)
 refine c_region ?_
 refine tp rfl (lv_move rfl) ?_
 refine tp rfl (lv_nilCheck rfl) ?_
 refine tp rfl (lv_fieldAddr (o' := 1) Try.underlying52 rfl Try.sizeOf50 rfl rfl) ?_
 refine tp rfl (lv_load Try.isAgg50 rfl (gives_blk (.tail _ (.head _)) rfl)) ?_
 refine tp rfl (lv_indexAddr (k' := 0) Try.underlying50 Try.sizeOf54 rfl rfl hok3 (by omega) (by omega) (by omega)) ?_
 refine tp rfl (lv_loadAgg_ad (cs := [(.int .i64 ((es.getD 0 (0, 0)).1)), (.int .i64 ((es.getD 0 (0, 0)).2))]) Try.isAgg54 Try.sizeOf54 rfl (gives_all2 (gives_sl (.tail _ (.tail _ (.head _))) ((recs_get (k := 0) (j := 0) pairQ_len (d := (0, 0)) (by omega) (Nat.le_of_ble_eq_true rfl)).trans rfl)) (gives_sl (.tail _ (.tail _ (.head _))) ((recs_get (k := 0) (j := 1) pairQ_len (d := (0, 0)) (by omega) (Nat.le_of_ble_eq_true rfl)).trans rfl)))) ?_
 refine tm rfl (mv_alloc Try.zeroValue54 rfl) ?_
 rintro _ _ ⟨b6, rfl, rfl⟩
 refine ts (sv_blkAgg (news := [(.int .i64 ((es.getD 0 (0, 0)).1)), (.int .i64 ((es.getD 0 (0, 0)).2))]) Try.sizeOf54 rfl rfl rfl rfl (Nat.le_of_ble_eq_true rfl) rfl) ?_
 refine t_done ?_
 refine q_then_n (hK4 _ _ ?_)
 refine c_seq (fun K5 hK5 => ?_)
 refine c_seq (fun K6 hK6 => ?_)
 refine c_region ?_
 refine tp rfl (lv_assign rfl) ?_
 refine t_done ?_
 refine q_then_n (hK6 _ _ ?_)
 refine c_block ?_
 refine c_loop (γ := (Nat) × (Int × Int)) (fun (i, c) => 1 ≤ i ∧ i ≤ es.length ∧ (∃ j, j < es.length ∧ es.getD j (0, 0) = c) ∧ (∀ j, j < i → LeQ c (es.getD j (0, 0)))) (fun (i, c) => [(0, (.pointer (some ⟨p, 0, none⟩))), (2, (.pointer (some ⟨b5, 0, none⟩))), (3, (.bool false)), (4, (.pointer (some ⟨b6, 0, none⟩))), (5, (.int .i64 ((i : Nat) : Int))), (12, (.bool false))]) (fun (i, c) => (Blk b6 [(.int .i64 c.1), (.int .i64 c.2)] 54) :: (Blk b5 [(.int .i64 0), (.int .i64 0)] 54) :: (Blk p [(.int .i64 N), (.slice bs1 es.length cp2)] 52) :: (SlV 54 2 (.slice bs1 es.length cp2) es.length (recs pairQ es)) :: R) (fun (i, c) => es.length - i) (1, es.getD 0 (0, 0)) ⟨by omega, by omega, ⟨0, by omega, rfl⟩, fun j hj => (show j = 0 by omega) ▸ .inr ⟨rfl, Int.le_refl _⟩⟩ ⟨rfl, rfl, rfl, rfl, rfl, rfl, trivial⟩ (fun _ h => h) ?_
 rintro ⟨i, c⟩ K7 hF hK7
 try dsimp only at hF hK7 ⊢
 obtain ⟨hi1, hi, hmem, hmin⟩ := hF
 refine c_seq (fun K8 hK8 => ?_)
 refine c_seq (fun K9 hK9 => ?_)
 refine c_region ?_
 refine tp rfl (lv_move rfl) ?_
 refine tp rfl (lv_move rfl) ?_
 refine tp rfl (lv_nilCheck rfl) ?_
 refine tp rfl (lv_fieldAddr (o' := 1) Try.underlying52 rfl Try.sizeOf50 rfl rfl) ?_
 refine tp rfl (lv_load Try.isAgg50 rfl (gives_blk (.tail _ (.tail _ (.head _))) rfl)) ?_
 refine tp rfl (lv_len Try.underlying50 rfl rfl) ?_
 by_cases h7 : ((i : Nat) : Int) < ((es.length : Nat) : Int)
 · -- yes
  refine tp rfl (lv_lss rfl rfl (decide_eq_true h7)) ?_
  refine t_done ?_
  refine q_then_n (hK9 _ _ ?_)
  refine c_true rfl ?_
  refine c_skip ?_
  refine q_then_n (hK8 _ _ ?_)
  refine c_seq (fun K10 hK10 => ?_)
  refine c_block ?_
  refine c_seq (fun K11 hK11 => ?_)
  refine c_region ?_
  refine tp rfl (lv_move rfl) ?_
  refine tp rfl (lv_nilCheck rfl) ?_
  refine tp rfl (lv_fieldAddr (o' := 1) Try.underlying52 rfl Try.sizeOf50 rfl rfl) ?_
  refine tp rfl (lv_load Try.isAgg50 rfl (gives_blk (.tail _ (.tail _ (.head _))) rfl)) ?_
  refine tp rfl (lv_move rfl) ?_
  refine tp rfl (lv_indexAddr (k' := i * 2) Try.underlying50 Try.sizeOf54 rfl rfl hok3 (by omega) (by omega) (by omega)) ?_
  refine tp rfl (lv_loadAgg_ad (cs := [(.int .i64 ((es.getD i (0, 0)).1)), (.int .i64 ((es.getD i (0, 0)).2))]) Try.isAgg54 Try.sizeOf54 rfl (gives_all2 (gives_sl (.tail _ (.tail _ (.tail _ (.head _)))) ((recs_get (k := i) (j := 0) pairQ_len (d := (0, 0)) (by omega) (Nat.le_of_ble_eq_true rfl)).trans rfl)) (gives_sl (.tail _ (.tail _ (.tail _ (.head _)))) ((recs_get (k := i) (j := 1) pairQ_len (d := (0, 0)) (by omega) (Nat.le_of_ble_eq_true rfl)).trans rfl)))) ?_
  refine tm rfl (mv_alloc Try.zeroValue54 rfl) ?_
  rintro _ _ ⟨b8, rfl, rfl⟩
  refine ts (sv_blkAgg (news := [(.int .i64 ((es.getD i (0, 0)).1)), (.int .i64 ((es.getD i (0, 0)).2))]) Try.sizeOf54 rfl rfl rfl rfl (Nat.le_of_ble_eq_true rfl) rfl) ?_
  refine t_done ?_
  refine q_then_n (hK11 _ _ ?_)
  refine c_seq (fun K12 hK12 => ?_)
  refine c_region ?_
  refine tp rfl (lv_fieldAddr (o' := 1) Try.underlying54 rfl Try.sizeOf3 rfl rfl) ?_
  refine tp rfl (lv_load Try.isAgg3 rfl (gives_blk (.head _) rfl)) ?_
  refine tp rfl (lv_fieldAddr (o' := 1) Try.underlying54 rfl Try.sizeOf3 rfl rfl) ?_
  refine tp rfl (lv_load Try.isAgg3 rfl (gives_blk (.tail _ (.head _)) rfl)) ?_
  by_cases h9 : ((es.getD i (0, 0)).2) < c.2
  · -- yes
   refine tp rfl (lv_lss rfl rfl (decide_eq_true h9)) ?_
   refine tp rfl (lv_move rfl) ?_
   refine t_skip rfl rfl rfl ?_
   refine t_skip rfl rfl rfl ?_
   refine t_skip rfl rfl rfl ?_
   refine t_skip rfl rfl rfl ?_
   refine t_skip rfl rfl rfl ?_
   refine t_skip rfl rfl rfl ?_
   refine t_skipu rfl rfl rfl ?_
   refine t_skipu rfl rfl rfl ?_
   refine t_skipu rfl rfl rfl ?_
   refine t_skipu rfl rfl rfl ?_
   refine t_skipu rfl rfl rfl ?_
   refine t_skip rfl rfl rfl ?_
   refine tp rfl (lv_pick_t rfl rfl) ?_
   refine t_done ?_
   refine q_then_n (hK12 _ _ ?_)
   refine c_true rfl ?_
   refine c_region ?_
   refine tp rfl (lv_loadAgg (cs := [(.int .i64 ((es.getD i (0, 0)).1)), (.int .i64 ((es.getD i (0, 0)).2))]) Try.isAgg54 Try.sizeOf54 rfl (gives_all2 (gives_blk (.head _) rfl) (gives_blk (.head _) rfl))) ?_
   refine t_f1 ?_
   refine ts (sv_blkAgg (news := [(.int .i64 ((es.getD i (0, 0)).1)), (.int .i64 ((es.getD i (0, 0)).2))]) Try.sizeOf54 rfl rfl rfl rfl (Nat.le_of_ble_eq_true rfl) rfl) ?_
   refine t_done ?_
   refine q_in_n ?_
   refine q_then_n (hK10 _ _ ?_)
   refine c_region ?_
   refine tp rfl (lv_move rfl) ?_
   refine tp rfl (lv_add (c := ((i + 1 : Nat) : Int)) rfl rfl (wr_i64_succ (by omega))) ?_
   refine tp rfl (lv_assign rfl) ?_
   refine t_done ?_
   refine q_then_n ?_
   refine t_f1 ?_
   refine t_drop ?_
   exact t_weak (by exact ⟨rfl, rfl, rfl, rfl, rfl, rfl, trivial⟩) ((hK7 (i + 1, es.getD i (0, 0)) ⟨by omega, by omega, ⟨i, by omega, rfl⟩, LeQ.new hmin (by unfold LeQ; (try dsimp only); omega)⟩ (by dsimp only; omega)))
  · -- no
   refine tp rfl (lv_lss rfl rfl (decide_eq_false h9)) ?_
   refine tp rfl (lv_move rfl) ?_
   refine t_guard rfl rfl ?_
   refine tp rfl (lv_fieldAddr (o' := 1) Try.underlying54 rfl Try.sizeOf3 rfl rfl) ?_
   refine t_guard rfl rfl ?_
   refine tp rfl (lv_load Try.isAgg3 rfl (gives_blk (.head _) rfl)) ?_
   refine t_guard rfl rfl ?_
   refine tp rfl (lv_fieldAddr (o' := 1) Try.underlying54 rfl Try.sizeOf3 rfl rfl) ?_
   refine t_guard rfl rfl ?_
   refine tp rfl (lv_load Try.isAgg3 rfl (gives_blk (.tail _ (.head _)) rfl)) ?_
   refine t_guard rfl rfl ?_
   by_cases h10 : ((es.getD i (0, 0)).2) = c.2
   · -- yes
    refine tp rfl (lv_eql rfl rfl (beq_iff_eq.2 h10)) ?_
    refine t_guard rfl rfl ?_
    refine tp rfl (lv_move rfl) ?_
    refine t_guard rfl rfl ?_
    refine tp rfl (lv_fieldAddr (o' := 0) Try.underlying54 rfl Try.sizeOf3 rfl rfl) ?_
    refine t_guard rfl rfl ?_
    refine tp rfl (lv_load Try.isAgg3 rfl (gives_blk (.head _) rfl)) ?_
    refine t_guard rfl rfl ?_
    refine tp rfl (lv_fieldAddr (o' := 0) Try.underlying54 rfl Try.sizeOf3 rfl rfl) ?_
    refine t_guard rfl rfl ?_
    refine tp rfl (lv_load Try.isAgg3 rfl (gives_blk (.tail _ (.head _)) rfl)) ?_
    refine t_guard rfl rfl ?_
    by_cases h11 : ((es.getD i (0, 0)).1) < c.1
    · -- yes
     refine tp rfl (lv_lss rfl rfl (decide_eq_true h11)) ?_
     refine t_guard rfl rfl ?_
     refine tp rfl (lv_pick_t rfl rfl) ?_
     refine tp rfl (lv_pick_f rfl rfl) ?_
     refine t_done ?_
     refine q_then_n (hK12 _ _ ?_)
     refine c_true rfl ?_
     refine c_region ?_
     refine tp rfl (lv_loadAgg (cs := [(.int .i64 ((es.getD i (0, 0)).1)), (.int .i64 ((es.getD i (0, 0)).2))]) Try.isAgg54 Try.sizeOf54 rfl (gives_all2 (gives_blk (.head _) rfl) (gives_blk (.head _) rfl))) ?_
     refine t_f1 ?_
     refine ts (sv_blkAgg (news := [(.int .i64 ((es.getD i (0, 0)).1)), (.int .i64 ((es.getD i (0, 0)).2))]) Try.sizeOf54 rfl rfl rfl rfl (Nat.le_of_ble_eq_true rfl) rfl) ?_
     refine t_done ?_
     refine q_in_n ?_
     refine q_then_n (hK10 _ _ ?_)
     refine c_region ?_
     refine tp rfl (lv_move rfl) ?_
     refine tp rfl (lv_add (c := ((i + 1 : Nat) : Int)) rfl rfl (wr_i64_succ (by omega))) ?_
     refine tp rfl (lv_assign rfl) ?_
     refine t_done ?_
     refine q_then_n ?_
     refine t_f1 ?_
     refine t_drop ?_
     exact t_weak (by exact ⟨rfl, rfl, rfl, rfl, rfl, rfl, trivial⟩) ((hK7 (i + 1, es.getD i (0, 0)) ⟨by omega, by omega, ⟨i, by omega, rfl⟩, LeQ.new hmin (by unfold LeQ; (try dsimp only); omega)⟩ (by dsimp only; omega)))
    · -- no
     refine tp rfl (lv_lss rfl rfl (decide_eq_false h11)) ?_
     refine t_guard rfl rfl ?_
     refine tp rfl (lv_pick_t rfl rfl) ?_
     refine tp rfl (lv_pick_f rfl rfl) ?_
     refine t_done ?_
     refine q_then_n (hK12 _ _ ?_)
     refine c_false rfl ?_
     refine c_skip ?_
     refine q_in_n ?_
     refine q_then_n (hK10 _ _ ?_)
     refine c_region ?_
     refine tp rfl (lv_move rfl) ?_
     refine tp rfl (lv_add (c := ((i + 1 : Nat) : Int)) rfl rfl (wr_i64_succ (by omega))) ?_
     refine tp rfl (lv_assign rfl) ?_
     refine t_done ?_
     refine q_then_n ?_
     refine t_drop ?_
     exact t_weak (by exact ⟨rfl, rfl, rfl, rfl, rfl, rfl, trivial⟩) ((hK7 (i + 1, c) ⟨by omega, by omega, hmem, LeQ.keep hmin (by unfold LeQ; (try dsimp only); omega)⟩ (by dsimp only; omega)))
   · -- no
    refine tp rfl (lv_eql rfl rfl (beq_eq_false_iff_ne.2 h10)) ?_
    refine t_guard rfl rfl ?_
    refine tp rfl (lv_move rfl) ?_
    refine t_skip rfl rfl rfl ?_
    refine t_skip rfl rfl rfl ?_
    refine t_skip rfl rfl rfl ?_
    refine t_skip rfl rfl rfl ?_
    refine t_skip rfl rfl rfl ?_
    refine t_guard rfl rfl ?_
    refine tp rfl (lv_pick_f rfl rfl) ?_
    refine tp rfl (lv_pick_f rfl rfl) ?_
    refine t_done ?_
    refine q_then_n (hK12 _ _ ?_)
    refine c_false rfl ?_
    refine c_skip ?_
    refine q_in_n ?_
    refine q_then_n (hK10 _ _ ?_)
    refine c_region ?_
    refine tp rfl (lv_move rfl) ?_
    refine tp rfl (lv_add (c := ((i + 1 : Nat) : Int)) rfl rfl (wr_i64_succ (by omega))) ?_
    refine tp rfl (lv_assign rfl) ?_
    refine t_done ?_
    refine q_then_n ?_
    refine t_drop ?_
    exact t_weak (by exact ⟨rfl, rfl, rfl, rfl, rfl, rfl, trivial⟩) ((hK7 (i + 1, c) ⟨by omega, by omega, hmem, LeQ.keep hmin (by unfold LeQ; (try dsimp only); omega)⟩ (by dsimp only; omega)))
 · -- no
  refine tp rfl (lv_lss rfl rfl (decide_eq_false h7)) ?_
  refine t_done ?_
  refine q_then_n (hK9 _ _ ?_)
  refine c_false rfl ?_
  refine c_exit ?_
  refine q_then_x ?_
  refine q_then_x ?_
  refine q_in_x ?_
  refine q_then_n (hK5 _ _ ?_)
  refine c_seq (fun K10 hK10 => ?_)
  refine c_region ?_
  refine tp rfl (lv_loadAgg (cs := [(.int .i64 c.1), (.int .i64 c.2)]) Try.isAgg54 Try.sizeOf54 rfl (gives_all2 (gives_blk (.head _) rfl) (gives_blk (.head _) rfl))) ?_
  refine t_f1 ?_
  refine ts (sv_blkAgg (news := [(.int .i64 c.1), (.int .i64 c.2)]) Try.sizeOf54 rfl rfl rfl rfl (Nat.le_of_ble_eq_true rfl) rfl) ?_
  refine tp rfl (lv_assign rfl) ?_
  refine t_done ?_
  refine q_then_n (hK10 _ _ ?_)
  refine c_ret ?_
  refine t_f3 ?_
  refine t_f3 ?_
  refine t_shutQ hok3 hle4 ?_
  refine t_f2 ?_
  refine t_drop ?_
  refine t_f1 ?_
  refine q_retc2 (cs := [(.int .i64 c.1), (.int .i64 c.2)]) rfl rfl rfl Try.isAgg54 Try.sizeOf54 (gives_all2 (gives_blk (.head _) rfl) (gives_blk (.head _) rfl)) (fun _ h => h.drop) ?_
  obtain ⟨k, hk, hkc⟩ := hmem
  exact ⟨c, k, hk, hkc, fun j hj => hmin j (by omega), rfl, rfl⟩

theorem rpop_n {R : List HP} {p : Nat} {N : Int} {es : List (Int × Int)} (hes : es.length ≤ 65536) (h0 : es.length = 0) :
    Ok Try.prog 23 [(.pointer (some ⟨p, 0, none⟩))] ((RowQ 52 54 p N es) :: R)
      (fun v M => v = .tuple #[.agg #[.int .i64 0, .int .i64 0], .bool false] ∧ M = RowQ 52 54 p N es :: R) := by
 refine ok_of (N := 20) Try.func23 rfl rfl rfl (fun W => ?_)
 refine c_seq (fun K1 hK1 => ?_)
 refine c_region ?_
 refine tm rfl (mv_alloc Try.zeroValue54 rfl) ?_
 rintro _ _ ⟨b1, rfl, rfl⟩
 refine tp rfl (lv_assign rfl) ?_
 refine t_done ?_
 refine q_then_n (hK1 _ _ ?_)
 refine c_seq (fun K2 hK2 => ?_)
 refine c_region ?_
 refine tp rfl (lv_move rfl) ?_
 refine t_f1 ?_
 refine tc rfl (en_fn Try.call24 rfl) (rfirst_n hes h0) ?_
 rintro _ _ ⟨rfl, rfl⟩
 refine tp rfl (lv_move rfl) ?_
 refine tp rfl (lv_extract rfl rfl) ?_
 refine tp rfl (lv_extract rfl rfl) ?_
 refine tm rfl (mv_alloc Try.zeroValue54 rfl) ?_
 rintro _ _ ⟨b2, rfl, rfl⟩
 refine ts (sv_blkAgg (news := [(.int .i64 0), (.int .i64 0)]) Try.sizeOf54 rfl rfl rfl rfl (Nat.le_of_ble_eq_true rfl) rfl) ?_
 refine tp rfl (lv_assign rfl) ?_
 refine t_done ?_
 refine q_then_n (hK2 _ _ ?_)
 refine c_seq (fun K3 hK3 => ?_)
 refine c_seq (fun K4 hK4 => ?_)
 refine c_region ?_
 refine tp rfl (lv_move rfl) ?_
 refine t_done ?_
 refine q_then_n (hK4 _ _ ?_)
 refine c_false rfl ?_
 refine c_skip ?_
 refine q_then_n (hK3 _ _ ?_)
 refine c_seq (fun K5 hK5 => ?_)
 refine c_region ?_
 refine tp rfl (lv_loadAgg (cs := [(.int .i64 0), (.int .i64 0)]) Try.isAgg54 Try.sizeOf54 rfl (gives_all2 (gives_blk (.head _) rfl) (gives_blk (.head _) rfl))) ?_
 refine tp rfl (lv_move rfl) ?_
 refine t_f2 ?_
 refine ts (sv_blkAgg (news := [(.int .i64 0), (.int .i64 0)]) Try.sizeOf54 rfl rfl rfl rfl (Nat.le_of_ble_eq_true rfl) rfl) ?_
 refine tp rfl (lv_assign rfl) ?_
 refine t_done ?_
 refine q_then_n (hK5 _ _ ?_)
 refine c_ret ?_
 refine t_f1 ?_
 refine t_drop ?_
 refine q_retc2 (cs := [(.int .i64 0), (.int .i64 0)]) rfl rfl rfl Try.isAgg54 Try.sizeOf54 (gives_all2 (gives_blk (.head _) rfl) (gives_blk (.head _) rfl)) (fun _ h => h.drop) ?_
 exact ⟨rfl, rfl⟩

theorem rpop_s {R : List HP} {p : Nat} {N : Int} {es : List (Int × Int)} (hes : es.length ≤ 65536) (h0 : 0 < es.length) (hnd : ∀ i j, i < es.length → j < es.length → i ≠ j → ¬ (es.getD i (0, 0)).1 = (es.getD j (0, 0)).1) :
    Ok Try.prog 23 [(.pointer (some ⟨p, 0, none⟩))] ((RowQ 52 54 p N es) :: R)
      (fun v M => ∃ (c : Int × Int) (k : Nat), k < es.length ∧ es.getD k (0, 0) = c ∧ (∀ j, j < es.length → LeQ c (es.getD j (0, 0))) ∧ v = .tuple #[.agg #[.int .i64 c.1, .int .i64 c.2], .bool true] ∧ M = RowQ 52 54 p N (es.eraseIdx k) :: R) := by
 refine ok_of (N := 20) Try.func23 rfl rfl rfl (fun W => ?_)
 refine c_seq (fun K1 hK1 => ?_)
 refine c_region ?_
 refine tm rfl (mv_alloc Try.zeroValue54 rfl) ?_
 rintro _ _ ⟨b1, rfl, rfl⟩
 refine tp rfl (lv_assign rfl) ?_
 refine t_done ?_
 refine q_then_n (hK1 _ _ ?_)
 refine c_seq (fun K2 hK2 => ?_)
 refine c_region ?_
 refine tp rfl (lv_move rfl) ?_
 refine t_f1 ?_
 refine tc rfl (en_fn Try.call24 rfl) (rfirst_s hes h0) ?_
 rintro _ _ ⟨c, k, hk, hkc, hmin, rfl, rfl⟩
 refine tp rfl (lv_move rfl) ?_
 refine tp rfl (lv_extract rfl rfl) ?_
 refine tp rfl (lv_extract rfl rfl) ?_
 refine tm rfl (mv_alloc Try.zeroValue54 rfl) ?_
 rintro _ _ ⟨b2, rfl, rfl⟩
 refine ts (sv_blkAgg (news := [(.int .i64 c.1), (.int .i64 c.2)]) Try.sizeOf54 rfl rfl rfl rfl (Nat.le_of_ble_eq_true rfl) rfl) ?_
 refine tp rfl (lv_assign rfl) ?_
 refine t_done ?_
 refine q_then_n (hK2 _ _ ?_)
 refine c_seq (fun K3 hK3 => ?_)
 refine c_seq (fun K4 hK4 => ?_)
 refine c_region ?_
 refine tp rfl (lv_move rfl) ?_
 refine t_done ?_
 refine q_then_n (hK4 _ _ ?_)
 refine c_true rfl ?_
 refine c_region ?_
 refine tp rfl (lv_move rfl) ?_
 refine tp rfl (lv_move rfl) ?_
 refine tp rfl (lv_fieldAddr (o' := 0) Try.underlying54 rfl Try.sizeOf3 rfl rfl) ?_
 refine tp rfl (lv_load Try.isAgg3 rfl (gives_blk (.head _) rfl)) ?_
 refine t_f1 ?_
 refine tc rfl (en_fn Try.call34 rfl) (rfind_s hes hk (show (es.getD k (0, 0)).1 = c.1 by rw [hkc]) (fun j hj e => hnd j k (by omega) hk (by omega) (by rw [e, hkc]))) ?_
 rintro _ _ ⟨rfl, rfl⟩
 refine tc rfl (en_fn Try.call35 rfl) (rcut_ok hes hk) ?_
 rintro _ _ ⟨rfl, rfl⟩
 refine t_done ?_
 refine q_then_n (hK3 _ _ ?_)
 refine c_seq (fun K5 hK5 => ?_)
 refine c_region ?_
 refine tp rfl (lv_loadAgg (cs := [(.int .i64 c.1), (.int .i64 c.2)]) Try.isAgg54 Try.sizeOf54 rfl (gives_all2 (gives_blk (.tail _ (.head _)) rfl) (gives_blk (.tail _ (.head _)) rfl))) ?_
 refine tp rfl (lv_move rfl) ?_
 refine t_f2 ?_
 refine ts (sv_blkAgg (news := [(.int .i64 c.1), (.int .i64 c.2)]) Try.sizeOf54 rfl rfl rfl rfl (Nat.le_of_ble_eq_true rfl) rfl) ?_
 refine tp rfl (lv_assign rfl) ?_
 refine t_done ?_
 refine q_then_n (hK5 _ _ ?_)
 refine c_ret ?_
 refine t_f2 ?_
 refine t_drop ?_
 refine q_retc2 (cs := [(.int .i64 c.1), (.int .i64 c.2)]) rfl rfl rfl Try.isAgg54 Try.sizeOf54 (gives_all2 (gives_blk (.head _) rfl) (gives_blk (.head _) rfl)) (fun _ h => h.drop) ?_
 exact ⟨c, k, hk, hkc, hmin, rfl, rfl⟩
end Go.Proofs.Ytchnphachgcjmaa
