/- Contracts of the document's timer. -/
import Derived.Test.YtombnfgkgcjihaaHd
import Derived.Test.YtombnfgkgcjihaaTr
import Derived.Test.YtombnfgkgcjihaaRwp
import Derived.Test.YtombnfgkgcjihaaRec
set_option maxRecDepth 100000
set_option linter.unusedVariables false
set_option linter.unusedSimpArgs false
namespace Go.Proofs.Ytombnfgkgcjihaa
open Go Go.Proofs Sp
theorem pairs_drop (es : List (Int × Int)) (l : Nat) : (pairs es).drop (l * 2) = pairs (es.drop l) := recs_drop (F := fun e : Int × Int => [.int .i64 e.1, .int .i64 e.2]) (n := 2) (fun _ => rfl) es l
def noT (x : Int) (es : List (Int × Int)) : List (Int × Int) := es.filter fun e => e.1 != x
theorem noT_yes {x : Int} {es : List (Int × Int)} {k : Nat} (hk : k < es.length) (h : (es.getD k (0, 0)).1 ≠ x) : noT x (es.take (k + 1)) = noT x (es.take k) ++ [es.getD k (0, 0)] := by
  unfold noT; rw [take_succ_getD hk (0, 0), List.filter_append, List.filter_cons, if_pos (by simpa using h)]; rfl
theorem noT_no {x : Int} {es : List (Int × Int)} {k : Nat} (hk : k < es.length) (h : (es.getD k (0, 0)).1 = x) : noT x (es.take (k + 1)) = noT x (es.take k) := by
  unfold noT; rw [take_succ_getD hk (0, 0), List.filter_append, List.filter_cons, if_neg (by simpa using h)]; simp
theorem noT_len (x : Int) (es : List (Int × Int)) : (noT x es).length ≤ es.length := List.length_filter_le ..

set_option maxHeartbeats 4000000 in
theorem rstop_ok {R : List HP} {p : Nat} {N : Int} {es : List (Int × Int)} (x : Int) (hes : es.length ≤ 65536) :
    Ok Try.prog 19 [(.pointer (some ⟨p, 0, none⟩)), (.int .i64 x)] ((RowP 52 55 p N es) :: R)
      (fun v M => v = .bool (decide ((((noT x es).length : Nat) : Int) < ((es.length : Nat) : Int))) ∧ M = RowP 52 55 p N (noT x es) :: R) := by
 refine ok_of (N := 51) Try.func19 rfl rfl rfl (fun W => ?_)
 refine t_openP (fun bs1 cp2 hok3 hle4 => ?_)
 refine c_seq (fun K1 hK1 => ?_)
 refine c_region ?_
 refine tp rfl (lv_assign rfl) ?_
 refine t_done ?_
 refine q_then_n (hK1 _ _ ?_)
 refine c_seq (fun K2 hK2 => ?_)
 refine c_region ?_
 refine tm rfl (mv_buildSlice (cs := []) Try.underlying50 Try.sizeOf55 Try.zeroValue55 (by decide) rfl rfl rfl rfl) ?_
 rintro _ _ ⟨bs5, cp6, hok7, hle8, rfl, rfl⟩
 refine tp rfl (lv_assign rfl) ?_
 refine t_done ?_
 refine q_then_n (hK2 _ _ ?_)
 refine c_seq (fun K3 hK3 => ?_)
 refine c_seq (fun K4 hK4 => ?_)
 refine c_region ?_
 refine tp rfl (lv_assign rfl) ?_
 refine t_done ?_
 refine q_then_n (hK4 _ _ ?_)
 refine c_block ?_
 refine c_loop (γ := (Nat) × (Option Addr) × (Nat)) (fun (k, bt, ct) => k ≤ es.length ∧ SlOk bt (noT x (es.take k)).length ∧ (noT x (es.take k)).length ≤ ct) (fun (k, bt, ct) => [(0, (.pointer (some ⟨p, 0, none⟩))), (1, (.int .i64 x)), (4, (.bool false)), (5, (.slice bt ((noT x (es.take k)).length) ct)), (6, (.int .i64 ((k : Nat) : Int)))]) (fun (k, bt, ct) => (SlV 55 2 (.slice bt ((noT x (es.take k)).length) ct) ((noT x (es.take k)).length) (pairs (noT x (es.take k)))) :: (Blk p [(.int .i64 N), (.slice bs1 es.length cp2)] 52) :: (SlT 55 2 (.slice bs1 es.length cp2) es.length (pairs es)) :: R) (fun (k, bt, ct) => es.length - k) (0, bs5, cp6) ⟨by omega, hok7, hle8⟩ ⟨rfl, rfl, rfl, rfl, rfl, trivial⟩ (fun _ h => h) ?_
 rintro ⟨k, bt, ct⟩ K5 hF hK5
 try dsimp only at hF hK5 ⊢
 obtain ⟨hk, hok, hle⟩ := hF
 have hnl := noT_len x (es.take k)
 have htl : (es.take k).length ≤ es.length := by rw [List.length_take]; omega
 refine c_seq (fun K6 hK6 => ?_)
 refine c_seq (fun K7 hK7 => ?_)
 refine c_region ?_
 refine tp rfl (lv_move rfl) ?_
 refine tp rfl (lv_move rfl) ?_
 refine tp rfl (lv_nilCheck rfl) ?_
 refine tp rfl (lv_fieldAddr (o' := 1) Try.underlying52 rfl Try.sizeOf50 rfl rfl) ?_
 refine tp rfl (lv_load Try.isAgg50 rfl (gives_blk (.tail _ (.head _)) rfl)) ?_
 refine tp rfl (lv_len Try.underlying50 rfl rfl) ?_
 by_cases h9 : ((k : Nat) : Int) < ((es.length : Nat) : Int)
 · -- yes
  refine tp rfl (lv_lss rfl rfl (decide_eq_true h9)) ?_
  refine t_done ?_
  refine q_then_n (hK7 _ _ ?_)
  refine c_true rfl ?_
  refine c_skip ?_
  refine q_then_n (hK6 _ _ ?_)
  refine c_seq (fun K8 hK8 => ?_)
  refine c_block ?_
  refine c_seq (fun K9 hK9 => ?_)
  refine c_region ?_
  refine tp rfl (lv_move rfl) ?_
  refine tp rfl (lv_nilCheck rfl) ?_
  refine tp rfl (lv_fieldAddr (o' := 1) Try.underlying52 rfl Try.sizeOf50 rfl rfl) ?_
  refine tp rfl (lv_load Try.isAgg50 rfl (gives_blk (.tail _ (.head _)) rfl)) ?_
  refine tp rfl (lv_move rfl) ?_
  refine tp rfl (lv_indexAddr (k' := k * 2) Try.underlying50 Try.sizeOf55 rfl rfl hok3 (by omega) (by omega) (by omega)) ?_
  refine tp rfl (lv_fieldAddr_ad (o' := k * 2) Try.underlying55 rfl Try.sizeOf3 rfl rfl) ?_
  refine tp rfl (lv_load Try.isAgg3 rfl (gives_slt (.tail _ (.tail _ (.head _))) (pairs_get0 (by omega)))) ?_
  refine tp rfl (lv_move rfl) ?_
  by_cases h10 : (((es).getD k (0, 0)).1) = x
  · -- yes
   refine tp rfl (lv_neq rfl rfl (bne_eq_false_iff_eq.2 h10)) ?_
   refine t_done ?_
   refine q_then_n (hK9 _ _ ?_)
   refine c_false rfl ?_
   refine c_skip ?_
   refine q_in_n ?_
   refine q_then_n (hK8 _ _ ?_)
   refine c_region ?_
   refine tp rfl (lv_move rfl) ?_
   refine tp rfl (lv_add (c := ((k + 1 : Nat) : Int)) rfl rfl (wr_i64_succ (by omega))) ?_
   refine tp rfl (lv_assign rfl) ?_
   refine t_done ?_
   refine q_then_n ?_
   rw [← noT_no (show k < es.length by omega) (by first | exact h10 | exact Classical.not_not.1 h10)] at hok hle ⊢
   exact t_weak (by exact ⟨rfl, rfl, rfl, rfl, rfl, trivial⟩) ((hK5 (k + 1, bt, ct) ⟨by omega, hok, hle⟩ (by dsimp only; omega)))
  · -- no
   refine tp rfl (lv_neq rfl rfl (bne_iff_ne.2 h10)) ?_
   refine t_done ?_
   refine q_then_n (hK9 _ _ ?_)
   refine c_true rfl ?_
   refine c_region ?_
   refine tp rfl (lv_move rfl) ?_
   refine tp rfl (lv_move rfl) ?_
   refine tp rfl (lv_nilCheck rfl) ?_
   refine tp rfl (lv_fieldAddr (o' := 1) Try.underlying52 rfl Try.sizeOf50 rfl rfl) ?_
   refine tp rfl (lv_load Try.isAgg50 rfl (gives_blk (.tail _ (.head _)) rfl)) ?_
   refine tp rfl (lv_move rfl) ?_
   refine tp rfl (lv_indexAddr (k' := k * 2) Try.underlying50 Try.sizeOf55 rfl rfl hok3 (by omega) (by omega) (by omega)) ?_
   refine tp rfl (lv_loadAgg_ad (cs := [(.int .i64 (((es).getD k (0, 0)).1)), (.int .i64 (((es).getD k (0, 0)).2))]) Try.isAgg55 Try.sizeOf55 rfl (gives_all2 (gives_slt (.tail _ (.tail _ (.head _))) (pairs_get0 (by omega))) (gives_slt (.tail _ (.tail _ (.head _))) (pairs_get1 (by omega))))) ?_
   refine tm rfl (mv_buildSlice (cs := [(.int .i64 (((es).getD k (0, 0)).1)), (.int .i64 (((es).getD k (0, 0)).2))]) Try.underlying50 Try.sizeOf55 Try.zeroValue55 (by decide) rfl rfl rfl rfl) ?_
   rintro _ _ ⟨bs11, cp12, hok13, hle14, rfl, rfl⟩
   refine t_f1 ?_
   refine tm rfl (mv_append (i := Try.t55) Try.underlying50 Try.type55 rfl rfl rfl (by decide) rfl rfl hok13 (by first | (simp; done) | (simp; omega)) (rd_sl (.tail _ (.head _))) (by simp [Value.oneCell']) (by rw [show Try.t55.bytes = 16 from rfl]; omega)) ?_
   rintro _ _ ⟨bs15, cp16, hok17, hle18, rfl, rfl⟩
   rw [show pairs (noT x (es.take k)) ++ [(.int .i64 (((es).getD k (0, 0)).1)), (.int .i64 (((es).getD k (0, 0)).2))] = pairs ((noT x (es.take k)) ++ [(((es).getD k (0, 0)).1, ((es).getD k (0, 0)).2)]) from pairs_snoc _ _ _]
   rw [show ((noT x (es.take k)).length) + 1 = (noT x (es.take k) ++ [es.getD k (0, 0)]).length from by simp] at hok17 hle18 ⊢
   refine tp rfl (lv_assign rfl) ?_
   refine t_done ?_
   refine q_in_n ?_
   refine q_then_n (hK8 _ _ ?_)
   refine c_region ?_
   refine tp rfl (lv_move rfl) ?_
   refine tp rfl (lv_add (c := ((k + 1 : Nat) : Int)) rfl rfl (wr_i64_succ (by omega))) ?_
   refine tp rfl (lv_assign rfl) ?_
   refine t_done ?_
   refine q_then_n ?_
   refine t_f1 ?_
   refine t_drop ?_
   rw [← noT_yes (show k < es.length by omega) h10] at hok17 hle18 ⊢
   exact t_weak (by exact ⟨rfl, rfl, rfl, rfl, rfl, trivial⟩) ((hK5 (k + 1, bs15, cp16) ⟨by omega, hok17, hle18⟩ (by dsimp only; omega)))
 · -- no
  refine tp rfl (lv_lss rfl rfl (decide_eq_false h9)) ?_
  refine t_done ?_
  refine q_then_n (hK7 _ _ ?_)
  refine c_false rfl ?_
  refine c_exit ?_
  refine q_then_x ?_
  refine q_then_x ?_
  refine q_in_x ?_
  refine q_then_n (hK3 _ _ ?_)
  refine c_seq (fun K8 hK8 => ?_)
  refine c_region ?_
  refine tp rfl (lv_move rfl) ?_
  refine tp rfl (lv_len Try.underlying50 rfl rfl) ?_
  refine tp rfl (lv_move rfl) ?_
  refine tp rfl (lv_nilCheck rfl) ?_
  refine tp rfl (lv_fieldAddr (o' := 1) Try.underlying52 rfl Try.sizeOf50 rfl rfl) ?_
  refine tp rfl (lv_load Try.isAgg50 rfl (gives_blk (.tail _ (.head _)) rfl)) ?_
  refine tp rfl (lv_len Try.underlying50 rfl rfl) ?_
  refine tp rfl (lv_lss rfl rfl rfl) ?_
  refine tp rfl (lv_assign rfl) ?_
  refine t_done ?_
  refine q_then_n (hK8 _ _ ?_)
  refine c_seq (fun K9 hK9 => ?_)
  refine c_region ?_
  refine tp rfl (lv_move rfl) ?_
  refine tp rfl (lv_move rfl) ?_
  refine tp rfl (lv_nilCheck rfl) ?_
  refine tp rfl (lv_fieldAddr (o' := 1) Try.underlying52 rfl Try.sizeOf50 rfl rfl) ?_
  refine t_f1 ?_
  refine ts (sv_blk Try.sizeOf50 rfl rfl rfl (Nat.le_of_ble_eq_true rfl) rfl) ?_
  refine t_done ?_
  refine q_then_n (hK9 _ _ ?_)
  refine c_seq (fun K10 hK10 => ?_)
  refine c_region ?_
  refine tp rfl (lv_move rfl) ?_
  refine tp rfl (lv_assign rfl) ?_
  refine t_done ?_
  refine q_then_n (hK10 _ _ ?_)
  refine c_ret ?_
  refine t_f1 ?_
  refine t_shutPV hok hle ?_
  refine t_f1 ?_
  refine t_drop ?_
  refine q_ret rfl rfl ?_
  have e : es.take k = es := List.take_of_length_le (by omega)
  rw [e]
  exact ⟨rfl, rfl⟩

set_option maxHeartbeats 4000000 in
theorem rat_ok {R : List HP} {p : Nat} {N : Int} {es : List (Int × Int)} (x : Int) (hes : es.length ≤ 65536) :
    Ok Try.prog 22 [(.pointer (some ⟨p, 0, none⟩)), (.int .i64 x)] ((RowP 52 55 p N es) :: R)
      (fun v M => v = .tuple #[.int .i64 (keyT x es), .bool (fndT x es).isSome] ∧ M = RowP 52 55 p N es :: R) := by
 refine ok_of (N := 34) Try.func22 rfl rfl rfl (fun W => ?_)
 refine t_openP (fun bs1 cp2 hok3 hle4 => ?_)
 refine c_seq (fun K1 hK1 => ?_)
 refine c_region ?_
 refine tp rfl (lv_assign rfl) ?_
 refine tp rfl (lv_assign rfl) ?_
 refine t_done ?_
 refine q_then_n (hK1 _ _ ?_)
 refine c_seq (fun K2 hK2 => ?_)
 refine c_seq (fun K3 hK3 => ?_)
 refine c_region ?_
 refine tp rfl (lv_assign rfl) ?_
 refine t_done ?_
 refine q_then_n (hK3 _ _ ?_)
 refine c_block ?_
 refine c_loop (γ := (Nat)) (fun (k : Nat) => k ≤ es.length ∧ (∀ j, j < k → ¬ (es.getD j (0, 0)).1 = x)) (fun (k : Nat) => [(0, (.pointer (some ⟨p, 0, none⟩))), (1, (.int .i64 x)), (6, (.int .i64 ((k : Nat) : Int)))]) (fun (k : Nat) => (Blk p [(.int .i64 N), (.slice bs1 es.length cp2)] 52) :: (SlT 55 2 (.slice bs1 es.length cp2) es.length (pairs es)) :: R) (fun (k : Nat) => es.length - k) (0) ⟨by omega, fun j hj => by omega⟩ ⟨rfl, rfl, rfl, trivial⟩ (fun _ h => h) ?_
 rintro k K4 hF hK4
 try dsimp only at hF hK4 ⊢
 obtain ⟨hk, hall⟩ := hF
 refine c_seq (fun K5 hK5 => ?_)
 refine c_seq (fun K6 hK6 => ?_)
 refine c_region ?_
 refine tp rfl (lv_move rfl) ?_
 refine tp rfl (lv_move rfl) ?_
 refine tp rfl (lv_nilCheck rfl) ?_
 refine tp rfl (lv_fieldAddr (o' := 1) Try.underlying52 rfl Try.sizeOf50 rfl rfl) ?_
 refine tp rfl (lv_load Try.isAgg50 rfl (gives_blk (.head _) rfl)) ?_
 refine tp rfl (lv_len Try.underlying50 rfl rfl) ?_
 by_cases h5 : ((k : Nat) : Int) < ((es.length : Nat) : Int)
 · -- yes
  refine tp rfl (lv_lss rfl rfl (decide_eq_true h5)) ?_
  refine t_done ?_
  refine q_then_n (hK6 _ _ ?_)
  refine c_true rfl ?_
  refine c_skip ?_
  refine q_then_n (hK5 _ _ ?_)
  refine c_seq (fun K7 hK7 => ?_)
  refine c_block ?_
  refine c_seq (fun K8 hK8 => ?_)
  refine c_region ?_
  refine tp rfl (lv_move rfl) ?_
  refine tp rfl (lv_nilCheck rfl) ?_
  refine tp rfl (lv_fieldAddr (o' := 1) Try.underlying52 rfl Try.sizeOf50 rfl rfl) ?_
  refine tp rfl (lv_load Try.isAgg50 rfl (gives_blk (.head _) rfl)) ?_
  refine tp rfl (lv_move rfl) ?_
  refine tp rfl (lv_indexAddr (k' := k * 2) Try.underlying50 Try.sizeOf55 rfl rfl hok3 (by omega) (by omega) (by omega)) ?_
  refine tp rfl (lv_fieldAddr_ad (o' := k * 2) Try.underlying55 rfl Try.sizeOf3 rfl rfl) ?_
  refine tp rfl (lv_load Try.isAgg3 rfl (gives_slt (.tail _ (.head _)) (pairs_get0 (by omega)))) ?_
  refine tp rfl (lv_move rfl) ?_
  by_cases h6 : (((es).getD k (0, 0)).1) = x
  · -- yes
   refine tp rfl (lv_eql rfl rfl (beq_iff_eq.2 h6)) ?_
   refine t_done ?_
   refine q_then_n (hK8 _ _ ?_)
   refine c_true rfl ?_
   refine c_seq (fun K9 hK9 => ?_)
   refine c_region ?_
   refine tp rfl (lv_move rfl) ?_
   refine tp rfl (lv_nilCheck rfl) ?_
   refine tp rfl (lv_fieldAddr (o' := 1) Try.underlying52 rfl Try.sizeOf50 rfl rfl) ?_
   refine tp rfl (lv_load Try.isAgg50 rfl (gives_blk (.head _) rfl)) ?_
   refine tp rfl (lv_move rfl) ?_
   refine tp rfl (lv_indexAddr (k' := k * 2) Try.underlying50 Try.sizeOf55 rfl rfl hok3 (by omega) (by omega) (by omega)) ?_
   refine tp rfl (lv_fieldAddr_ad (o' := k * 2 + 1) Try.underlying55 rfl Try.sizeOf3 rfl rfl) ?_
   refine tp rfl (lv_load Try.isAgg3 rfl (gives_slt (.tail _ (.head _)) (pairs_get1 (by omega)))) ?_
   refine tp rfl (lv_assign rfl) ?_
   refine tp rfl (lv_assign rfl) ?_
   refine t_done ?_
   refine q_then_n (hK9 _ _ ?_)
   refine c_ret ?_
   refine q_in_r ?_
   refine q_then_r ?_
   refine q_then_r ?_
   refine q_in_r ?_
   refine q_then_r ?_
   refine t_f1 ?_
   refine t_f1 ?_
   refine t_shutP hok3 hle4 ?_
   refine q_ret2 rfl rfl rfl ?_
   have hf := fndT_at (k := k) (by omega) hall (by assumption)
   exact ⟨by unfold keyT; rw [hf]; rfl, rfl⟩
  · -- no
   refine tp rfl (lv_eql rfl rfl (beq_eq_false_iff_ne.2 h6)) ?_
   refine t_done ?_
   refine q_then_n (hK8 _ _ ?_)
   refine c_false rfl ?_
   refine c_skip ?_
   refine q_in_n ?_
   refine q_then_n (hK7 _ _ ?_)
   refine c_region ?_
   refine tp rfl (lv_move rfl) ?_
   refine tp rfl (lv_add (c := ((k + 1 : Nat) : Int)) rfl rfl (wr_i64_succ (by omega))) ?_
   refine tp rfl (lv_assign rfl) ?_
   refine t_done ?_
   refine q_then_n ?_
   exact t_weak (by exact ⟨rfl, rfl, rfl, trivial⟩) ((hK4 (k + 1) ⟨by omega, fun j hj => by by_cases hjk : j = k; (subst hjk; assumption); exact hall j (by omega)⟩ (by omega)))
 · -- no
  refine tp rfl (lv_lss rfl rfl (decide_eq_false h5)) ?_
  refine t_done ?_
  refine q_then_n (hK6 _ _ ?_)
  refine c_false rfl ?_
  refine c_exit ?_
  refine q_then_x ?_
  refine q_then_x ?_
  refine q_in_x ?_
  refine q_then_n (hK2 _ _ ?_)
  refine c_seq (fun K7 hK7 => ?_)
  refine c_region ?_
  refine tp rfl (lv_assign rfl) ?_
  refine tp rfl (lv_assign rfl) ?_
  refine t_done ?_
  refine q_then_n (hK7 _ _ ?_)
  refine c_ret ?_
  refine t_f1 ?_
  refine t_f1 ?_
  refine t_shutP hok3 hle4 ?_
  refine q_ret2 rfl rfl rfl ?_
  have hf := fndT_none (x := x) (es := es) (fun j hj => hall j (by omega))
  exact ⟨by unfold keyT; rw [hf]; rfl, rfl⟩

theorem due_at {es : List (Int × Int)} {d : Nat} {t : Int} (hd : d ≤ es.length) (hall : ∀ j, j < d → (es.getD j (0, 0)).2 ≤ t) (h : d < es.length → ¬ (es.getD d (0, 0)).2 ≤ t) :
    (es.takeWhile fun e => decide (e.2 ≤ t)) = es.take d ∧ (es.dropWhile fun e => decide (e.2 ≤ t)) = es.drop d := by
  induction es generalizing d with
  | nil => obtain rfl : d = 0 := by simpa using hd
           exact ⟨rfl, rfl⟩
  | cons a es ih =>
    cases d with
    | zero =>
      have := h (by simp)
      rw [List.takeWhile_cons_of_neg (by simpa [List.getD] using this), List.dropWhile_cons_of_neg (by simpa [List.getD] using this)]; exact ⟨rfl, rfl⟩
    | succ d =>
      have h0 := hall 0 (by omega)
      obtain ⟨i1, i2⟩ := ih (d := d) (by simpa using hd) (fun j hj => by simpa [List.getD] using hall (j + 1) (by omega)) (fun hl => by simpa [List.getD] using h (by simpa using hl))
      rw [List.takeWhile_cons_of_pos (by simpa [List.getD] using h0), List.dropWhile_cons_of_pos (by simpa [List.getD] using h0), i1, i2]; exact ⟨rfl, rfl⟩

theorem drop_zero' {es : List (Int × Int)} {d : Nat} : (es.drop d).getD 0 (0, 0) = es.getD d (0, 0) := by simp [List.getD]
theorem tk_next {es : List (Int × Int)} {d : Nat} (hd : d < es.length) : (es.take (d + 1)).map Prod.fst = (es.take d).map Prod.fst ++ [(es.getD d (0, 0)).1] := by
  rw [take_succ_getD hd (0, 0), List.map_append]; rfl
theorem tk_len (es : List (Int × Int)) (d : Nat) : ((es.take d).map Prod.fst).length ≤ es.length := by rw [List.length_map, List.length_take]; omega

set_option maxHeartbeats 4000000 in
theorem rdue_ok {R : List HP} {p : Nat} {N : Int} {es : List (Int × Int)} (x : Int) (hes : es.length ≤ 65536) :
    Ok Try.prog 20 [(.pointer (some ⟨p, 0, none⟩)), (.int .i64 x)] ((RowP 52 55 p N es) :: R)
      (OutSl 3 1 ((es.takeWhile fun e => decide (e.2 ≤ x)).map Prod.fst).length (ints .i64 ((es.takeWhile fun e => decide (e.2 ≤ x)).map Prod.fst)) (RowP 52 55 p N (es.dropWhile fun e => decide (e.2 ≤ x)) :: R)) := by
 refine ok_of (N := 43) Try.func20 rfl rfl rfl (fun W => ?_)
 refine t_openP (fun bs1 cp2 hok3 hle4 => ?_)
 refine c_seq (fun K1 hK1 => ?_)
 refine c_region ?_
 refine tp rfl (lv_assign rfl) ?_
 refine t_done ?_
 refine q_then_n (hK1 _ _ ?_)
 refine c_seq (fun K2 hK2 => ?_)
 refine c_region ?_
 refine tm rfl (mv_buildSlice (cs := []) Try.underlying30 Try.sizeOf3 Try.zeroValue3 (by decide) rfl rfl rfl rfl) ?_
 rintro _ _ ⟨bs5, cp6, hok7, hle8, rfl, rfl⟩
 refine tp rfl (lv_assign rfl) ?_
 refine t_done ?_
 refine q_then_n (hK2 _ _ ?_)
 refine c_seq (fun K3 hK3 => ?_)
 refine c_block ?_
 refine t_f2 ?_
 refine t_f2 ?_
 refine t_shutP hok3 hle4 ?_
 refine c_loop (γ := (Nat) × (Option Addr) × (Nat)) (fun (d, bt, ct) => d ≤ es.length ∧ (∀ j, j < d → (es.getD j (0, 0)).2 ≤ x) ∧ SlOk bt ((es.take d).map Prod.fst).length ∧ ((es.take d).map Prod.fst).length ≤ ct) (fun (d, bt, ct) => [(0, (.pointer (some ⟨p, 0, none⟩))), (1, (.int .i64 x)), (4, (.slice none 0 0)), (5, (.slice bt (((es.take d).map Prod.fst).length) ct))]) (fun (d, bt, ct) => (RowP 52 55 p N (es.drop d)) :: (SlV 3 1 (.slice bt (((es.take d).map Prod.fst).length) ct) (((es.take d).map Prod.fst).length) (ints .i64 ((es.take d).map Prod.fst))) :: R) (fun (d, bt, ct) => es.length - d) (0, bs5, cp6) ⟨by omega, fun j hj => by omega, hok7, hle8⟩ ⟨rfl, rfl, rfl, rfl, trivial⟩ (fun _ h => h) ?_
 rintro ⟨d, bt, ct⟩ K4 hF hK4
 try dsimp only at hF hK4 ⊢
 obtain ⟨hd, hall, hok, hle⟩ := hF
 have htl := tk_len es d
 have hdl : (es.drop d).length = es.length - d := List.length_drop
 have hd0 := drop_zero' (es := es) (d := d)
 refine c_seq (fun K5 hK5 => ?_)
 refine c_seq (fun K6 hK6 => ?_)
 refine t_openP (fun bs9 cp10 hok11 hle12 => ?_)
 refine c_region ?_
 by_cases hc13 : (((es.drop d).length : Nat) : Int) > 0 ∧ (((es.drop d).getD 0 (0, 0)).2) ≤ x
 · -- both
  have hc13a := hc13.1
  have hc13b := hc13.2
  refine tp rfl (lv_move rfl) ?_
  refine tp rfl (lv_nilCheck rfl) ?_
  refine tp rfl (lv_fieldAddr (o' := 1) Try.underlying52 rfl Try.sizeOf50 rfl rfl) ?_
  refine tp rfl (lv_load Try.isAgg50 rfl (gives_blk (.head _) rfl)) ?_
  refine tp rfl (lv_len Try.underlying50 rfl rfl) ?_
  refine tp rfl (lv_gtr rfl rfl (decide_eq_true hc13.1)) ?_
  refine tp rfl (lv_move rfl) ?_
  refine t_guard rfl rfl ?_
  refine tp rfl (lv_move rfl) ?_
  refine t_guard rfl rfl ?_
  refine tp rfl (lv_nilCheck rfl) ?_
  refine t_guard rfl rfl ?_
  refine tp rfl (lv_fieldAddr (o' := 1) Try.underlying52 rfl Try.sizeOf50 rfl rfl) ?_
  refine t_guard rfl rfl ?_
  refine tp rfl (lv_load Try.isAgg50 rfl (gives_blk (.head _) rfl)) ?_
  refine t_guard rfl rfl ?_
  refine tp rfl (lv_indexAddr (k' := 0) Try.underlying50 Try.sizeOf55 rfl rfl hok11 (by omega) (by omega) (by omega)) ?_
  refine t_guard rfl rfl ?_
  refine tp rfl (lv_fieldAddr_ad (o' := 0 + 1) Try.underlying55 rfl Try.sizeOf3 rfl rfl) ?_
  refine t_guard rfl rfl ?_
  refine tp rfl (lv_load Try.isAgg3 rfl (gives_slt (.tail _ (.head _)) (pairs_get1 (k := 0) (by omega)))) ?_
  refine t_guard rfl rfl ?_
  refine tp rfl (lv_move rfl) ?_
  refine t_guard rfl rfl ?_
  refine tp rfl (lv_leq rfl rfl (decide_eq_true hc13.2)) ?_
  refine tp rfl (lv_pick_t rfl rfl) ?_
  refine t_done ?_
  refine q_then_n (hK6 _ _ ?_)
  refine c_true rfl ?_
  refine c_skip ?_
  refine q_then_n (hK5 _ _ ?_)
  refine c_block ?_
  refine c_seq (fun K7 hK7 => ?_)
  refine c_region ?_
  refine tp rfl (lv_move rfl) ?_
  refine tp rfl (lv_move rfl) ?_
  refine tp rfl (lv_nilCheck rfl) ?_
  refine tp rfl (lv_fieldAddr (o' := 1) Try.underlying52 rfl Try.sizeOf50 rfl rfl) ?_
  refine tp rfl (lv_load Try.isAgg50 rfl (gives_blk (.head _) rfl)) ?_
  refine tp rfl (lv_indexAddr (k' := 0) Try.underlying50 Try.sizeOf55 rfl rfl hok11 (by omega) (by omega) (by omega)) ?_
  refine tp rfl (lv_fieldAddr_ad (o' := 0) Try.underlying55 rfl Try.sizeOf3 rfl rfl) ?_
  refine tp rfl (lv_load Try.isAgg3 rfl (gives_slt (.tail _ (.head _)) (pairs_get0 (k := 0) (by omega)))) ?_
  refine tm rfl (mv_buildSlice (cs := [(.int .i64 (((es.drop d).getD 0 (0, 0)).1))]) Try.underlying30 Try.sizeOf3 Try.zeroValue3 (by decide) rfl rfl rfl rfl) ?_
  rintro _ _ ⟨bs14, cp15, hok16, hle17, rfl, rfl⟩
  refine t_f3 ?_
  refine tm rfl (mv_append (i := Try.t3) Try.underlying30 Try.type3 rfl rfl rfl (by decide) rfl rfl hok16 (by first | (simp; done) | (simp; omega)) (rd_sl (.tail _ (.head _))) (by simp [Value.oneCell']) (by rw [show Try.t3.bytes = 8 from rfl]; omega)) ?_
  rintro _ _ ⟨bs18, cp19, hok20, hle21, rfl, rfl⟩
  rw [show ints .i64 ((es.take d).map Prod.fst) ++ [(.int .i64 (((es.drop d).getD 0 (0, 0)).1))] = ints .i64 (((es.take d).map Prod.fst) ++ [((es.drop d).getD 0 (0, 0)).1]) from ints_snoc _ _ _]
  rw [show (((es.take d).map Prod.fst).length) + 1 = ((es.take d).map Prod.fst ++ [((es.drop d).getD 0 (0, 0)).1]).length from by simp] at hok20 hle21 ⊢
  refine tp rfl (lv_assign rfl) ?_
  refine t_done ?_
  refine q_then_n (hK7 _ _ ?_)
  refine c_region ?_
  refine tp rfl (lv_move rfl) ?_
  refine tp rfl (lv_move rfl) ?_
  refine tp rfl (lv_nilCheck rfl) ?_
  refine tp rfl (lv_fieldAddr (o' := 1) Try.underlying52 rfl Try.sizeOf50 rfl rfl) ?_
  refine tp rfl (lv_load Try.isAgg50 rfl (gives_blk (.tail _ (.tail _ (.head _))) rfl)) ?_
  refine tp rfl (lv_slice (l := 1) (h := (es.drop d).length) (m := cp10) (v := (.slice (sbase bs9 1 cp10 2) (((es.drop d).length) - 1) (cp10 - 1))) Try.underlying50 Try.sizeOf55 rfl rfl rfl rfl (.inr ⟨rfl, rfl⟩) (.inr ⟨rfl, rfl⟩) (.inl ⟨_, _, rfl, (by omega), (by omega), (by omega)⟩) (by simp) rfl) ?_
  refine t_f3 ?_
  refine t_sat (fun _ h => slt_tail (l := 1) (n' := ((es.drop d).length) - 1) (c' := cp10 - 1) (by omega) (by omega) (by omega) (by omega) h) ?_
  rw [show (pairs (es.drop d)).drop (1 * 2) = pairs ((es.drop d).drop 1) from pairs_drop _ _]
  refine t_learn (fun _ h => slt_facts h) (fun hbx => ?_)
  obtain ⟨hok22, hle23⟩ := hbx
  refine tp rfl (lv_nilCheck rfl) ?_
  refine tp rfl (lv_fieldAddr (o' := 1) Try.underlying52 rfl Try.sizeOf50 rfl rfl) ?_
  refine t_f3 ?_
  refine ts (sv_blk Try.sizeOf50 rfl rfl rfl (Nat.le_of_ble_eq_true rfl) rfl) ?_
  refine t_done ?_
  refine q_in_n ?_
  refine q_then_n ?_
  have hdr : (es.drop d).drop 1 = es.drop (d + 1) := by rw [List.drop_drop]
  have hln : ((es.drop d).length) - 1 = (es.drop (d + 1)).length := by simp only [List.length_drop]; omega
  rw [hln] at hok22 hle23 ⊢
  rw [hdr]
  refine t_f1 ?_
  refine t_f1 ?_
  refine t_shutP hok22 hle23 ?_
  refine t_f2 ?_
  refine t_drop ?_
  rw [drop_zero', ← tk_next (show d < es.length by omega)] at hok20 hle21 ⊢
  exact t_weak (by exact ⟨rfl, rfl, rfl, rfl, trivial⟩) ((hK4 (d + 1, bs18, cp19) ⟨by dsimp only; omega, fun j hj => by dsimp only at hj; by_cases hjd : j = d; (subst hjd; rw [← hd0]; assumption); exact hall j (by omega), hok20, hle21⟩ (by dsimp only; omega)))
 · -- not both
  refine t_cut0 (E' := [(0, (.pointer (some ⟨p, 0, none⟩))), (1, (.int .i64 x)), (4, (.slice none 0 0)), (5, (.slice bt (((es.take d).map Prod.fst).length) ct)), (23, (.bool false))]) ?_ (fun KK hKK => ?_)
  ·
   refine q_then_n (hK6 _ _ ?_)
   refine c_false rfl ?_
   refine c_exit ?_
   refine q_then_x ?_
   refine q_then_x ?_
   refine q_in_x ?_
   refine q_then_n (hK3 _ _ ?_)
   refine c_seq (fun K7 hK7 => ?_)
   refine c_region ?_
   refine tp rfl (lv_move rfl) ?_
   refine tp rfl (lv_assign rfl) ?_
   refine t_done ?_
   refine q_then_n (hK7 _ _ ?_)
   refine c_ret ?_
   refine t_f1 ?_
   refine t_f1 ?_
   refine t_shutP hok11 hle12 ?_
   refine t_f1 ?_
   refine q_ret rfl rfl ?_
   have hdd := due_at (t := x) (es := es) (d := d) hd hall (fun hl hh => by rw [← hd0] at hh; first | omega | exact absurd hh ‹_›)
   rw [hdd.1, hdd.2]
   exact ⟨_, _, hok, hle, rfl, rfl⟩
  · -- which
   by_cases hc13A : (((es.drop d).length : Nat) : Int) > 0
   ·
    have hc13B : ¬ ((((es.drop d).getD 0 (0, 0)).2) ≤ x) := fun hh => hc13 ⟨hc13A, hh⟩
    refine tp rfl (lv_move rfl) ?_
    refine tp rfl (lv_nilCheck rfl) ?_
    refine tp rfl (lv_fieldAddr (o' := 1) Try.underlying52 rfl Try.sizeOf50 rfl rfl) ?_
    refine tp rfl (lv_load Try.isAgg50 rfl (gives_blk (.head _) rfl)) ?_
    refine tp rfl (lv_len Try.underlying50 rfl rfl) ?_
    refine tp rfl (lv_gtr rfl rfl (decide_eq_true hc13A)) ?_
    refine tp rfl (lv_move rfl) ?_
    refine t_guard rfl rfl ?_
    refine tp rfl (lv_move rfl) ?_
    refine t_guard rfl rfl ?_
    refine tp rfl (lv_nilCheck rfl) ?_
    refine t_guard rfl rfl ?_
    refine tp rfl (lv_fieldAddr (o' := 1) Try.underlying52 rfl Try.sizeOf50 rfl rfl) ?_
    refine t_guard rfl rfl ?_
    refine tp rfl (lv_load Try.isAgg50 rfl (gives_blk (.head _) rfl)) ?_
    refine t_guard rfl rfl ?_
    refine tp rfl (lv_indexAddr (k' := 0) Try.underlying50 Try.sizeOf55 rfl rfl hok11 (by omega) (by omega) (by omega)) ?_
    refine t_guard rfl rfl ?_
    refine tp rfl (lv_fieldAddr_ad (o' := 0 + 1) Try.underlying55 rfl Try.sizeOf3 rfl rfl) ?_
    refine t_guard rfl rfl ?_
    refine tp rfl (lv_load Try.isAgg3 rfl (gives_slt (.tail _ (.head _)) (pairs_get1 (k := 0) (by omega)))) ?_
    refine t_guard rfl rfl ?_
    refine tp rfl (lv_move rfl) ?_
    refine t_guard rfl rfl ?_
    refine tp rfl (lv_leq rfl rfl (decide_eq_false hc13B)) ?_
    refine tp rfl (lv_pick_t rfl rfl) ?_
    exact t_done (t_weak (by exact ⟨rfl, rfl, rfl, rfl, rfl, trivial⟩) hKK)
   ·
    refine tp rfl (lv_move rfl) ?_
    refine tp rfl (lv_nilCheck rfl) ?_
    refine tp rfl (lv_fieldAddr (o' := 1) Try.underlying52 rfl Try.sizeOf50 rfl rfl) ?_
    refine tp rfl (lv_load Try.isAgg50 rfl (gives_blk (.head _) rfl)) ?_
    refine tp rfl (lv_len Try.underlying50 rfl rfl) ?_
    refine tp rfl (lv_gtr rfl rfl (decide_eq_false hc13A)) ?_
    refine tp rfl (lv_move rfl) ?_
    refine t_skip rfl rfl rfl ?_
    refine t_skip rfl rfl rfl ?_
    refine t_skip rfl rfl rfl ?_
    refine t_skip rfl rfl rfl ?_
    refine t_skip rfl rfl rfl ?_
    refine t_skip rfl rfl rfl ?_
    refine t_skip rfl rfl rfl ?_
    refine t_skip rfl rfl rfl ?_
    refine t_skip rfl rfl rfl ?_
    refine tp rfl (lv_pick_f rfl rfl) ?_
    exact t_done (t_weak (by exact ⟨rfl, rfl, rfl, rfl, rfl, trivial⟩) hKK)

def pairQ (e : Int × Int) : List Value := [.int .i64 e.1, .int .i64 e.2]
theorem pairQ_len (e : Int × Int) : (pairQ e).length = 2 := rfl
theorem pairQ_one (e : Int × Int) : ∀ u ∈ pairQ e, u.oneCell' = true := by intro u hu; simp [pairQ] at hu; rcases hu with rfl | rfl <;> rfl

set_option maxHeartbeats 4000000 in
theorem rset_yes {R : List HP} {p : Nat} {N : Int} {es : List (Int × Int)} (x t : Int) (hes : es.length ≤ 65536) (hr : 0 ≤ x ∧ x < min N 65536) :
    Ok Try.prog 18 [(.pointer (some ⟨p, 0, none⟩)), (.int .i64 x), (.int .i64 t)] ((RowP 52 55 p N es) :: R)
      (fun v M => v = .int .i64 0 ∧ M = RowP 52 55 p N (insT (x, t) (noT x es)) :: R) := by
 refine ok_of (N := 90) Try.func18 rfl rfl rfl (fun W => ?_)
 refine t_openP (fun bs1 cp2 hok3 hle4 => ?_)
 refine c_seq (fun K1 hK1 => ?_)
 refine c_region ?_
 refine tp rfl (lv_assign rfl) ?_
 refine t_done ?_
 refine q_then_n (hK1 _ _ ?_)
 refine c_seq (fun K2 hK2 => ?_)
 refine c_seq (fun K3 hK3 => ?_)
 refine c_region ?_
 refine tp rfl (lv_move rfl) ?_
 refine tp rfl (lv_lss rfl rfl (decide_eq_false (by omega))) ?_
 refine tp rfl (lv_move rfl) ?_
 refine t_guard rfl rfl ?_
 refine tp rfl (lv_move rfl) ?_
 refine t_guard rfl rfl ?_
 refine tp rfl (lv_move rfl) ?_
 refine t_guard rfl rfl ?_
 refine tp rfl (lv_nilCheck rfl) ?_
 refine t_guard rfl rfl ?_
 refine tp rfl (lv_fieldAddr (o' := 0) Try.underlying52 rfl Try.sizeOf3 rfl rfl) ?_
 refine t_guard rfl rfl ?_
 refine tp rfl (lv_load Try.isAgg3 rfl (gives_blk (.head _) rfl)) ?_
 refine t_guard rfl rfl ?_
 refine tp rfl (lv_min (c := min N 65536) rfl rfl rfl) ?_
 refine t_guard rfl rfl ?_
 refine tp rfl (lv_geq rfl rfl (decide_eq_false (by omega))) ?_
 refine tp rfl (lv_pick_f rfl rfl) ?_
 refine t_done ?_
 refine q_then_n (hK3 _ _ ?_)
 refine c_false rfl ?_
 refine c_skip ?_
 refine q_then_n (hK2 _ _ ?_)
 refine c_seq (fun K4 hK4 => ?_)
 refine c_region ?_
 refine t_f1 ?_
 refine t_f1 ?_
 refine t_shutP hok3 hle4 ?_
 refine tp rfl (lv_move rfl) ?_
 refine tp rfl (lv_move rfl) ?_
 refine tc rfl (en_fn Try.call19 rfl) (rstop_ok x hes) ?_
 rintro _ _ ⟨rfl, rfl⟩
 refine t_done ?_
 refine q_then_n (hK4 _ _ ?_)
 refine c_seq (fun K5 hK5 => ?_)
 refine c_region ?_
 refine tp rfl (lv_assign rfl) ?_
 refine t_done ?_
 refine q_then_n (hK5 _ _ ?_)
 have hEl := noT_len x es
 obtain ⟨E, hE⟩ : ∃ x9, noT x es = x9 := ⟨_, rfl⟩
 rw [hE] at hEl ⊢
 refine t_openP (fun bs5 cp6 hok7 hle8 => ?_)
 refine c_seq (fun K6 hK6 => ?_)
 have hM6 : ∀ (k : Nat), k ≤ E.length ∧ (∀ j, j < k → LtT (E.getD j (0, 0)) (x, t)) ∧ (k < E.length → ¬ LtT (E.getD k (0, 0)) (x, t)) → Tri K6 W 90 [(0, (.pointer (some ⟨p, 0, none⟩))), (1, (.int .i64 x)), (2, (.int .i64 t)), (6, (.int .i64 0)), (7, (.int .i64 ((k : Nat) : Int))), (18, (.bool false))] ((Blk p [(.int .i64 N), (.slice bs5 E.length cp6)] 52) :: (SlT 55 2 (.slice bs5 E.length cp6) E.length (pairs E)) :: R) := by
  rintro k hF
  obtain ⟨hk, hlt, hge⟩ := hF
  refine hK6 _ _ ?_
  refine c_seq (fun K7 hK7 => ?_)
  refine c_draw (γ := Option Addr × Nat × Option Addr × Nat × Option Addr × Nat × Option Addr × Nat × Option Addr × Nat) (n := 24) Try.mixed rfl rfl (fun (bs9, cp10, bs13, cp14, bs17, cp18, bs21, cp22, bs25, cp26) S => (S 1 = true → SlOk bs9 0) ∧ (S 1 = true → 0 ≤ cp10) ∧ (S 8 = true → SlOk bs13 k) ∧ (S 8 = true → k ≤ cp14) ∧ (S 12 = true → SlOk bs17 1) ∧ (S 12 = true → 1 ≤ cp18) ∧ (S 13 = true → SlOk bs21 (k + 1)) ∧ (S 13 = true → k + 1 ≤ cp22) ∧ (S 20 = true → SlOk bs25 ((k + 1) + (E.length - k))) ∧ (S 20 = true → (k + 1) + (E.length - k) ≤ cp26)) (fun (bs9, cp10, bs13, cp14, bs17, cp18, bs21, cp22, bs25, cp26) => [(0, 67, (.pointer (some ⟨p, 0, none⟩))), (1, 68, (.slice bs9 0 cp10)), (2, 69, (.pointer (some ⟨p, 0, none⟩))), (3, 70, (.pointer (some ⟨p, 0, none⟩))), (4, 71, (.pointer (some ⟨p, 1, none⟩))), (5, 72, (.slice bs5 E.length cp6)), (6, 73, (.int .i64 ((k : Nat) : Int))), (7, 74, (.slice bs5 k cp6)), (8, 75, (.slice bs13 k cp14)), (9, 76, (.int .i64 x)), (10, 77, (.int .i64 t)), (11, 78, (.agg #[(.int .i64 x), (.int .i64 t)])), (12, 79, (.slice bs17 1 cp18)), (13, 80, (.slice bs21 (k + 1) cp22)), (14, 81, (.pointer (some ⟨p, 0, none⟩))), (15, 82, (.pointer (some ⟨p, 0, none⟩))), (16, 83, (.pointer (some ⟨p, 1, none⟩))), (17, 84, (.slice bs5 E.length cp6)), (18, 85, (.int .i64 ((k : Nat) : Int))), (19, 86, (.slice (sbase bs5 k cp6 2) (E.length - k) (cp6 - k))), (20, 87, (.slice bs25 ((k + 1) + (E.length - k)) cp26)), (21, 88, (.pointer (some ⟨p, 0, none⟩))), (22, 89, (.pointer (some ⟨p, 1, none⟩)))]) (fun (bs9, cp10, bs13, cp14, bs17, cp18, bs21, cp22, bs25, cp26) S => (bif S 23 then (Blk p [(.int .i64 N), (.slice bs25 ((k + 1) + (E.length - k)) cp26)] 52) else (Blk p [(.int .i64 N), (.slice bs5 E.length cp6)] 52)) :: (SlT 55 2 (.slice bs5 E.length cp6) E.length (recs pairQ E)) :: (bif S 20 then (SlV 55 2 (.slice bs25 ((k + 1) + (E.length - k)) cp26) ((k + 1) + (E.length - k)) (recs pairQ (((E.take k) ++ [(x, t)]) ++ (E.drop k)))) else (bif S 13 then (SlV 55 2 (.slice bs21 (k + 1) cp22) (k + 1) (recs pairQ ((E.take k) ++ [(x, t)]))) else (bif S 8 then (SlV 55 2 (.slice bs13 k cp14) k (recs pairQ (E.take k))) else (bif S 1 then (SlV 55 2 (.slice bs9 0 cp10) 0 []) else Emp)))) :: (bif S 12 then (SlV 55 2 (.slice bs17 1 cp18) 1 [(.int .i64 x), (.int .i64 t)]) else Emp) :: R) (none, 0, none, 0, none, 0, none, 0, none, 0) (by simp [Nat.ble]) (fun _ h => sat_emps [_, _] 2 h) (fun _ _ h => h) ?_ ?_
  · -- steps
   refine ⟨?_, ?_, ?_, ?_, ?_, ?_, ?_, ?_, ?_, ?_, ?_, ?_, ?_, ?_, ?_, ?_, ?_, ?_, ?_, ?_, ?_, ?_, ?_, ?_, trivial⟩
   · -- 0
    rintro ⟨bs9, cp10, bs13, cp14, bs17, cp18, bs21, cp22, bs25, cp26⟩ S hF hS D hp K hK
    try dsimp only at hF ⊢
    obtain ⟨hf0, hf1, hf2, hf3, hf4, hf5, hf6, hf7, hf8, hf9⟩ := hF
    refine d_need (small := [(0, (.pointer (some ⟨p, 0, none⟩)))]) ⟨look_b rfl rfl, trivial⟩ ?_
    refine tp rfl (lv_move rfl) ?_
    exact d_closes ⟨look_b rfl rfl, trivial⟩ 0 rfl rfl rfl hS (AgreeR.refl _) (t_sat (fun _ h => h) (hK (bs9, cp10, bs13, cp14, bs17, cp18, bs21, cp22, bs25, cp26) ⟨hf0, hf1, hf2, hf3, hf4, hf5, hf6, hf7, hf8, hf9⟩))
   · -- 1
    rintro ⟨bs9, cp10, bs13, cp14, bs17, cp18, bs21, cp22, bs25, cp26⟩ S hF hS D hp K hK
    try dsimp only at hF ⊢
    obtain ⟨hf0, hf1, hf2, hf3, hf4, hf5, hf6, hf7, hf8, hf9⟩ := hF
    refine d_need (small := []) trivial ?_
    refine tm rfl (mv_buildSlice (cs := []) Try.underlying50 Try.sizeOf55 Try.zeroValue55 (by decide) rfl rfl rfl rfl) ?_
    rintro _ _ ⟨bs9, cp10, hok11, hle12, rfl, rfl⟩
    refine t_wF (A := (SlV 55 2 (.slice bs13 k cp14) k (recs pairQ (E.take k)))) (nf hS D (k := 8) (i := 1) rfl) ?_
    refine t_wF (A := (SlV 55 2 (.slice bs21 (k + 1) cp22) (k + 1) (recs pairQ ((E.take k) ++ [(x, t)])))) (nf (nf hS D (k := 8) (i := 1) rfl) D (k := 13) (i := 8) rfl) ?_
    refine t_wF (A := (SlV 55 2 (.slice bs25 ((k + 1) + (E.length - k)) cp26) ((k + 1) + (E.length - k)) (recs pairQ (((E.take k) ++ [(x, t)]) ++ (E.drop k))))) (nf (nf (nf hS D (k := 8) (i := 1) rfl) D (k := 13) (i := 8) rfl) D (k := 20) (i := 13) rfl) ?_
    refine t_sat (fun _ h => sat_put [_, _] h) ?_
    exact d_closes trivial 1 rfl rfl rfl hS (by exact ⟨.inl rfl, .inr ⟨rfl, rfl, hS⟩, .inl rfl, .inl rfl, .inl rfl, .inl rfl, .inl rfl, .inl rfl, .inl rfl, .inl rfl, .inl rfl, .inl rfl, .inl rfl, .inl rfl, .inl rfl, .inl rfl, .inl rfl, .inl rfl, .inl rfl, .inl rfl, .inl rfl, .inl rfl, .inl rfl, trivial⟩) (t_sat (fun _ h => h) (hK (bs9, cp10, bs13, cp14, bs17, cp18, bs21, cp22, bs25, cp26) ⟨(fun _ => hok11), (fun _ => hle12), hf2, hf3, hf4, hf5, hf6, hf7, hf8, hf9⟩))
   · -- 2
    rintro ⟨bs9, cp10, bs13, cp14, bs17, cp18, bs21, cp22, bs25, cp26⟩ S hF hS D hp K hK
    try dsimp only at hF ⊢
    obtain ⟨hf0, hf1, hf2, hf3, hf4, hf5, hf6, hf7, hf8, hf9⟩ := hF
    refine d_need (small := [(0, (.pointer (some ⟨p, 0, none⟩)))]) ⟨look_b rfl rfl, trivial⟩ ?_
    refine tp rfl (lv_move rfl) ?_
    exact d_closes ⟨look_b rfl rfl, trivial⟩ 2 rfl rfl rfl hS (AgreeR.refl _) (t_sat (fun _ h => h) (hK (bs9, cp10, bs13, cp14, bs17, cp18, bs21, cp22, bs25, cp26) ⟨hf0, hf1, hf2, hf3, hf4, hf5, hf6, hf7, hf8, hf9⟩))
   · -- 3
    rintro ⟨bs9, cp10, bs13, cp14, bs17, cp18, bs21, cp22, bs25, cp26⟩ S hF hS D hp K hK
    try dsimp only at hF ⊢
    obtain ⟨hf0, hf1, hf2, hf3, hf4, hf5, hf6, hf7, hf8, hf9⟩ := hF
    have s2 := hp 2 rfl
    refine d_need (small := [(69, (.pointer (some ⟨p, 0, none⟩)))]) ⟨look_row rfl 2 rfl s2, trivial⟩ ?_
    refine tp rfl (lv_nilCheck rfl) ?_
    exact d_closes ⟨look_row rfl 2 rfl s2, trivial⟩ 3 rfl rfl rfl hS (AgreeR.refl _) (t_sat (fun _ h => h) (hK (bs9, cp10, bs13, cp14, bs17, cp18, bs21, cp22, bs25, cp26) ⟨hf0, hf1, hf2, hf3, hf4, hf5, hf6, hf7, hf8, hf9⟩))
   · -- 4
    rintro ⟨bs9, cp10, bs13, cp14, bs17, cp18, bs21, cp22, bs25, cp26⟩ S hF hS D hp K hK
    try dsimp only at hF ⊢
    obtain ⟨hf0, hf1, hf2, hf3, hf4, hf5, hf6, hf7, hf8, hf9⟩ := hF
    have s3 := hp 3 rfl
    refine d_need (small := [(70, (.pointer (some ⟨p, 0, none⟩)))]) ⟨look_row rfl 3 rfl s3, trivial⟩ ?_
    refine tp rfl (lv_fieldAddr (o' := 1) Try.underlying52 rfl Try.sizeOf50 rfl rfl) ?_
    exact d_closes ⟨look_row rfl 3 rfl s3, trivial⟩ 4 rfl rfl rfl hS (AgreeR.refl _) (t_sat (fun _ h => h) (hK (bs9, cp10, bs13, cp14, bs17, cp18, bs21, cp22, bs25, cp26) ⟨hf0, hf1, hf2, hf3, hf4, hf5, hf6, hf7, hf8, hf9⟩))
   · -- 5
    rintro ⟨bs9, cp10, bs13, cp14, bs17, cp18, bs21, cp22, bs25, cp26⟩ S hF hS D hp K hK
    try dsimp only at hF ⊢
    obtain ⟨hf0, hf1, hf2, hf3, hf4, hf5, hf6, hf7, hf8, hf9⟩ := hF
    have s4 := hp 4 rfl
    refine d_need (small := [(71, (.pointer (some ⟨p, 1, none⟩)))]) ⟨look_row rfl 4 rfl s4, trivial⟩ ?_
    refine tp rfl (lv_load Try.isAgg50 rfl (gives_blk (mem_cF (nf hS D (k := 23) (i := 5) rfl) (.head _)) rfl)) ?_
    exact d_closes ⟨look_row rfl 4 rfl s4, trivial⟩ 5 rfl rfl rfl hS (AgreeR.refl _) (t_sat (fun _ h => h) (hK (bs9, cp10, bs13, cp14, bs17, cp18, bs21, cp22, bs25, cp26) ⟨hf0, hf1, hf2, hf3, hf4, hf5, hf6, hf7, hf8, hf9⟩))
   · -- 6
    rintro ⟨bs9, cp10, bs13, cp14, bs17, cp18, bs21, cp22, bs25, cp26⟩ S hF hS D hp K hK
    try dsimp only at hF ⊢
    obtain ⟨hf0, hf1, hf2, hf3, hf4, hf5, hf6, hf7, hf8, hf9⟩ := hF
    refine d_need (small := [(7, (.int .i64 ((k : Nat) : Int)))]) ⟨look_b rfl rfl, trivial⟩ ?_
    refine tp rfl (lv_move rfl) ?_
    exact d_closes ⟨look_b rfl rfl, trivial⟩ 6 rfl rfl rfl hS (AgreeR.refl _) (t_sat (fun _ h => h) (hK (bs9, cp10, bs13, cp14, bs17, cp18, bs21, cp22, bs25, cp26) ⟨hf0, hf1, hf2, hf3, hf4, hf5, hf6, hf7, hf8, hf9⟩))
   · -- 7
    rintro ⟨bs9, cp10, bs13, cp14, bs17, cp18, bs21, cp22, bs25, cp26⟩ S hF hS D hp K hK
    try dsimp only at hF ⊢
    obtain ⟨hf0, hf1, hf2, hf3, hf4, hf5, hf6, hf7, hf8, hf9⟩ := hF
    have s5 := hp 5 rfl
    have s6 := hp 6 rfl
    refine d_need (small := [(72, (.slice bs5 E.length cp6)), (73, (.int .i64 ((k : Nat) : Int)))]) ⟨look_row rfl 5 rfl s5, look_row rfl 6 rfl s6, trivial⟩ ?_
    refine tp rfl (lv_slice (l := 0) (h := k) (m := cp6) (v := (.slice bs5 k cp6)) Try.underlying50 Try.sizeOf55 rfl rfl rfl rfl (.inr ⟨rfl, rfl⟩) (.inl ⟨_, _, rfl, (by omega), (by omega), (by omega)⟩) (.inr ⟨rfl, rfl⟩) (by simp) (by rw [sbase_zero]; rfl)) ?_
    exact d_closes ⟨look_row rfl 5 rfl s5, look_row rfl 6 rfl s6, trivial⟩ 7 rfl rfl rfl hS (AgreeR.refl _) (t_sat (fun _ h => h) (hK (bs9, cp10, bs13, cp14, bs17, cp18, bs21, cp22, bs25, cp26) ⟨hf0, hf1, hf2, hf3, hf4, hf5, hf6, hf7, hf8, hf9⟩))
   · -- 8
    rintro ⟨bs9, cp10, bs13, cp14, bs17, cp18, bs21, cp22, bs25, cp26⟩ S hF hS D hp K hK
    try dsimp only at hF ⊢
    obtain ⟨hf0, hf1, hf2, hf3, hf4, hf5, hf6, hf7, hf8, hf9⟩ := hF
    have s1 := hp 1 rfl
    have hok11 := hf0 s1
    have hle12 := hf1 s1
    have s7 := hp 7 rfl
    refine d_need (small := [(68, (.slice bs9 0 cp10)), (74, (.slice bs5 k cp6))]) ⟨look_row rfl 1 rfl s1, look_row rfl 7 rfl s7, trivial⟩ ?_
    refine t_f2 ?_
    refine t_cF (nf (nf hS D (k := 13) (i := 8) rfl) D (k := 20) (i := 13) rfl) ?_
    refine t_cF (nf hS D (k := 13) (i := 8) rfl) ?_
    refine t_cF hS ?_
    refine t_cT s1 ?_
    refine tm rfl (mv_append (i := Try.t55) Try.underlying50 Try.type55 rfl rfl rfl (by decide) rfl rfl (fun hz => hok7 (by omega)) (by first | exact recs_len pairQ_len _ | (rw [recs_len pairQ_len]; congr 1; first | (simp; done) | (simp; omega))) (rd_tk_recs pairQ_len k (rd_slt (.tail _ (.tail _ (.head _))))) (recs_one pairQ_one) (by rw [show Try.t55.bytes = 16 from rfl]; omega)) ?_
    rintro _ _ ⟨bs13, cp14, hok15, hle16, rfl, rfl⟩
    simp only [Nat.zero_add] at hok15 hle16 ⊢
    rw [List.nil_append]
    refine t_wF (A := (SlV 55 2 (.slice bs21 (k + 1) cp22) (k + 1) (recs pairQ ((E.take k) ++ [(x, t)])))) (nf hS D (k := 13) (i := 8) rfl) ?_
    refine t_wF (A := (SlV 55 2 (.slice bs25 ((k + 1) + (E.length - k)) cp26) ((k + 1) + (E.length - k)) (recs pairQ (((E.take k) ++ [(x, t)]) ++ (E.drop k))))) (nf (nf hS D (k := 13) (i := 8) rfl) D (k := 20) (i := 13) rfl) ?_
    refine t_f2 ?_
    refine t_f2 ?_
    exact d_closes ⟨look_row rfl 1 rfl s1, look_row rfl 7 rfl s7, trivial⟩ 8 rfl rfl rfl hS (by exact ⟨.inl rfl, .inl rfl, .inl rfl, .inl rfl, .inl rfl, .inl rfl, .inl rfl, .inl rfl, .inr ⟨rfl, rfl, hS⟩, .inl rfl, .inl rfl, .inl rfl, .inl rfl, .inl rfl, .inl rfl, .inl rfl, .inl rfl, .inl rfl, .inl rfl, .inl rfl, .inl rfl, .inl rfl, .inl rfl, trivial⟩) (t_sat (fun _ h => h) (hK (bs9, cp10, bs13, cp14, bs17, cp18, bs21, cp22, bs25, cp26) ⟨hf0, hf1, (fun _ => hok15), (fun _ => hle16), hf4, hf5, hf6, hf7, hf8, hf9⟩))
   · -- 9
    rintro ⟨bs9, cp10, bs13, cp14, bs17, cp18, bs21, cp22, bs25, cp26⟩ S hF hS D hp K hK
    try dsimp only at hF ⊢
    obtain ⟨hf0, hf1, hf2, hf3, hf4, hf5, hf6, hf7, hf8, hf9⟩ := hF
    refine d_need (small := [(1, (.int .i64 x))]) ⟨look_b rfl rfl, trivial⟩ ?_
    refine tp rfl (lv_move rfl) ?_
    exact d_closes ⟨look_b rfl rfl, trivial⟩ 9 rfl rfl rfl hS (AgreeR.refl _) (t_sat (fun _ h => h) (hK (bs9, cp10, bs13, cp14, bs17, cp18, bs21, cp22, bs25, cp26) ⟨hf0, hf1, hf2, hf3, hf4, hf5, hf6, hf7, hf8, hf9⟩))
   · -- 10
    rintro ⟨bs9, cp10, bs13, cp14, bs17, cp18, bs21, cp22, bs25, cp26⟩ S hF hS D hp K hK
    try dsimp only at hF ⊢
    obtain ⟨hf0, hf1, hf2, hf3, hf4, hf5, hf6, hf7, hf8, hf9⟩ := hF
    refine d_need (small := [(2, (.int .i64 t))]) ⟨look_b rfl rfl, trivial⟩ ?_
    refine tp rfl (lv_move rfl) ?_
    exact d_closes ⟨look_b rfl rfl, trivial⟩ 10 rfl rfl rfl hS (AgreeR.refl _) (t_sat (fun _ h => h) (hK (bs9, cp10, bs13, cp14, bs17, cp18, bs21, cp22, bs25, cp26) ⟨hf0, hf1, hf2, hf3, hf4, hf5, hf6, hf7, hf8, hf9⟩))
   · -- 11
    rintro ⟨bs9, cp10, bs13, cp14, bs17, cp18, bs21, cp22, bs25, cp26⟩ S hF hS D hp K hK
    try dsimp only at hF ⊢
    obtain ⟨hf0, hf1, hf2, hf3, hf4, hf5, hf6, hf7, hf8, hf9⟩ := hF
    have s9 := hp 9 rfl
    have s10 := hp 10 rfl
    refine d_need (small := [(76, (.int .i64 x)), (77, (.int .i64 t))]) ⟨look_row rfl 9 rfl s9, look_row rfl 10 rfl s10, trivial⟩ ?_
    refine tp rfl (lv_build (cs := [(.int .i64 x), (.int .i64 t)]) (pl := [(0, 1), (1, 1)]) Try.underlying55 Try.zeroValue55 (fun _ => by simp) rfl rfl) ?_
    exact d_closes ⟨look_row rfl 9 rfl s9, look_row rfl 10 rfl s10, trivial⟩ 11 rfl rfl rfl hS (AgreeR.refl _) (t_sat (fun _ h => h) (hK (bs9, cp10, bs13, cp14, bs17, cp18, bs21, cp22, bs25, cp26) ⟨hf0, hf1, hf2, hf3, hf4, hf5, hf6, hf7, hf8, hf9⟩))
   · -- 12
    rintro ⟨bs9, cp10, bs13, cp14, bs17, cp18, bs21, cp22, bs25, cp26⟩ S hF hS D hp K hK
    try dsimp only at hF ⊢
    obtain ⟨hf0, hf1, hf2, hf3, hf4, hf5, hf6, hf7, hf8, hf9⟩ := hF
    have s11 := hp 11 rfl
    refine d_need (small := [(78, (.agg #[(.int .i64 x), (.int .i64 t)]))]) ⟨look_row rfl 11 rfl s11, trivial⟩ ?_
    refine tm rfl (mv_buildSlice (cs := [(.int .i64 x), (.int .i64 t)]) Try.underlying50 Try.sizeOf55 Try.zeroValue55 (by decide) rfl rfl rfl rfl) ?_
    rintro _ _ ⟨bs17, cp18, hok19, hle20, rfl, rfl⟩
    refine t_sat (fun _ h => sat_put [_, _, _] h) ?_
    exact d_closes ⟨look_row rfl 11 rfl s11, trivial⟩ 12 rfl rfl rfl hS (by exact ⟨.inl rfl, .inl rfl, .inl rfl, .inl rfl, .inl rfl, .inl rfl, .inl rfl, .inl rfl, .inl rfl, .inl rfl, .inl rfl, .inl rfl, .inr ⟨rfl, rfl, hS⟩, .inl rfl, .inl rfl, .inl rfl, .inl rfl, .inl rfl, .inl rfl, .inl rfl, .inl rfl, .inl rfl, .inl rfl, trivial⟩) (t_sat (fun _ h => h) (hK (bs9, cp10, bs13, cp14, bs17, cp18, bs21, cp22, bs25, cp26) ⟨hf0, hf1, hf2, hf3, (fun _ => hok19), (fun _ => hle20), hf6, hf7, hf8, hf9⟩))
   · -- 13
    rintro ⟨bs9, cp10, bs13, cp14, bs17, cp18, bs21, cp22, bs25, cp26⟩ S hF hS D hp K hK
    try dsimp only at hF ⊢
    obtain ⟨hf0, hf1, hf2, hf3, hf4, hf5, hf6, hf7, hf8, hf9⟩ := hF
    have s8 := hp 8 rfl
    have s1 := D 8 1 rfl s8
    have hok11 := hf0 s1
    have hle12 := hf1 s1
    have hok15 := hf2 s8
    have hle16 := hf3 s8
    have s12 := hp 12 rfl
    have hok19 := hf4 s12
    have hle20 := hf5 s12
    refine d_need (small := [(75, (.slice bs13 k cp14)), (79, (.slice bs17 1 cp18))]) ⟨look_row rfl 8 rfl s8, look_row rfl 12 rfl s12, trivial⟩ ?_
    refine t_f2 ?_
    refine t_cF (nf hS D (k := 20) (i := 13) rfl) ?_
    refine t_cF hS ?_
    refine t_cT s8 ?_
    refine t_f3 ?_
    refine t_cT s12 ?_
    refine t_f1 ?_
    refine tm rfl (mv_append (i := Try.t55) Try.underlying50 Try.type55 rfl rfl rfl (by decide) rfl rfl hok19 (by first | (simp; done) | (simp; omega)) (rd_sl (.tail _ (.head _))) (by simp [Value.oneCell']) (by rw [show Try.t55.bytes = 16 from rfl]; omega)) ?_
    rintro _ _ ⟨bs21, cp22, hok23, hle24, rfl, rfl⟩
    rw [show recs pairQ (E.take k) ++ [(.int .i64 x), (.int .i64 t)] = recs pairQ ((E.take k) ++ [(x, t)]) from recs_snoc pairQ (E.take k) (x, t)]
    refine t_f1 ?_
    refine t_wT (B := Emp) s12 ?_
    refine t_f1 ?_
    refine t_wF (A := (SlV 55 2 (.slice bs25 ((k + 1) + (E.length - k)) cp26) ((k + 1) + (E.length - k)) (recs pairQ (((E.take k) ++ [(x, t)]) ++ (E.drop k))))) (nf hS D (k := 20) (i := 13) rfl) ?_
    refine t_f1 ?_
    refine t_f1 ?_
    refine t_f3 ?_
    refine t_f3 ?_
    exact d_closes ⟨look_row rfl 8 rfl s8, look_row rfl 12 rfl s12, trivial⟩ 13 rfl rfl rfl hS (by exact ⟨.inl rfl, .inl rfl, .inl rfl, .inl rfl, .inl rfl, .inl rfl, .inl rfl, .inl rfl, .inl rfl, .inl rfl, .inl rfl, .inl rfl, .inl rfl, .inr ⟨rfl, rfl, hS⟩, .inl rfl, .inl rfl, .inl rfl, .inl rfl, .inl rfl, .inl rfl, .inl rfl, .inl rfl, .inl rfl, trivial⟩) (t_sat (fun _ h => h) (hK (bs9, cp10, bs13, cp14, bs17, cp18, bs21, cp22, bs25, cp26) ⟨hf0, hf1, hf2, hf3, hf4, hf5, (fun _ => hok23), (fun _ => hle24), hf8, hf9⟩))
   · -- 14
    rintro ⟨bs9, cp10, bs13, cp14, bs17, cp18, bs21, cp22, bs25, cp26⟩ S hF hS D hp K hK
    try dsimp only at hF ⊢
    obtain ⟨hf0, hf1, hf2, hf3, hf4, hf5, hf6, hf7, hf8, hf9⟩ := hF
    refine d_need (small := [(0, (.pointer (some ⟨p, 0, none⟩)))]) ⟨look_b rfl rfl, trivial⟩ ?_
    refine tp rfl (lv_move rfl) ?_
    exact d_closes ⟨look_b rfl rfl, trivial⟩ 14 rfl rfl rfl hS (AgreeR.refl _) (t_sat (fun _ h => h) (hK (bs9, cp10, bs13, cp14, bs17, cp18, bs21, cp22, bs25, cp26) ⟨hf0, hf1, hf2, hf3, hf4, hf5, hf6, hf7, hf8, hf9⟩))
   · -- 15
    rintro ⟨bs9, cp10, bs13, cp14, bs17, cp18, bs21, cp22, bs25, cp26⟩ S hF hS D hp K hK
    try dsimp only at hF ⊢
    obtain ⟨hf0, hf1, hf2, hf3, hf4, hf5, hf6, hf7, hf8, hf9⟩ := hF
    have s14 := hp 14 rfl
    refine d_need (small := [(81, (.pointer (some ⟨p, 0, none⟩)))]) ⟨look_row rfl 14 rfl s14, trivial⟩ ?_
    refine tp rfl (lv_nilCheck rfl) ?_
    exact d_closes ⟨look_row rfl 14 rfl s14, trivial⟩ 15 rfl rfl rfl hS (AgreeR.refl _) (t_sat (fun _ h => h) (hK (bs9, cp10, bs13, cp14, bs17, cp18, bs21, cp22, bs25, cp26) ⟨hf0, hf1, hf2, hf3, hf4, hf5, hf6, hf7, hf8, hf9⟩))
   · -- 16
    rintro ⟨bs9, cp10, bs13, cp14, bs17, cp18, bs21, cp22, bs25, cp26⟩ S hF hS D hp K hK
    try dsimp only at hF ⊢
    obtain ⟨hf0, hf1, hf2, hf3, hf4, hf5, hf6, hf7, hf8, hf9⟩ := hF
    have s15 := hp 15 rfl
    refine d_need (small := [(82, (.pointer (some ⟨p, 0, none⟩)))]) ⟨look_row rfl 15 rfl s15, trivial⟩ ?_
    refine tp rfl (lv_fieldAddr (o' := 1) Try.underlying52 rfl Try.sizeOf50 rfl rfl) ?_
    exact d_closes ⟨look_row rfl 15 rfl s15, trivial⟩ 16 rfl rfl rfl hS (AgreeR.refl _) (t_sat (fun _ h => h) (hK (bs9, cp10, bs13, cp14, bs17, cp18, bs21, cp22, bs25, cp26) ⟨hf0, hf1, hf2, hf3, hf4, hf5, hf6, hf7, hf8, hf9⟩))
   · -- 17
    rintro ⟨bs9, cp10, bs13, cp14, bs17, cp18, bs21, cp22, bs25, cp26⟩ S hF hS D hp K hK
    try dsimp only at hF ⊢
    obtain ⟨hf0, hf1, hf2, hf3, hf4, hf5, hf6, hf7, hf8, hf9⟩ := hF
    have s16 := hp 16 rfl
    refine d_need (small := [(83, (.pointer (some ⟨p, 1, none⟩)))]) ⟨look_row rfl 16 rfl s16, trivial⟩ ?_
    refine tp rfl (lv_load Try.isAgg50 rfl (gives_blk (mem_cF (nf hS D (k := 23) (i := 17) rfl) (.head _)) rfl)) ?_
    exact d_closes ⟨look_row rfl 16 rfl s16, trivial⟩ 17 rfl rfl rfl hS (AgreeR.refl _) (t_sat (fun _ h => h) (hK (bs9, cp10, bs13, cp14, bs17, cp18, bs21, cp22, bs25, cp26) ⟨hf0, hf1, hf2, hf3, hf4, hf5, hf6, hf7, hf8, hf9⟩))
   · -- 18
    rintro ⟨bs9, cp10, bs13, cp14, bs17, cp18, bs21, cp22, bs25, cp26⟩ S hF hS D hp K hK
    try dsimp only at hF ⊢
    obtain ⟨hf0, hf1, hf2, hf3, hf4, hf5, hf6, hf7, hf8, hf9⟩ := hF
    refine d_need (small := [(7, (.int .i64 ((k : Nat) : Int)))]) ⟨look_b rfl rfl, trivial⟩ ?_
    refine tp rfl (lv_move rfl) ?_
    exact d_closes ⟨look_b rfl rfl, trivial⟩ 18 rfl rfl rfl hS (AgreeR.refl _) (t_sat (fun _ h => h) (hK (bs9, cp10, bs13, cp14, bs17, cp18, bs21, cp22, bs25, cp26) ⟨hf0, hf1, hf2, hf3, hf4, hf5, hf6, hf7, hf8, hf9⟩))
   · -- 19
    rintro ⟨bs9, cp10, bs13, cp14, bs17, cp18, bs21, cp22, bs25, cp26⟩ S hF hS D hp K hK
    try dsimp only at hF ⊢
    obtain ⟨hf0, hf1, hf2, hf3, hf4, hf5, hf6, hf7, hf8, hf9⟩ := hF
    have s17 := hp 17 rfl
    have s18 := hp 18 rfl
    refine d_need (small := [(84, (.slice bs5 E.length cp6)), (85, (.int .i64 ((k : Nat) : Int)))]) ⟨look_row rfl 17 rfl s17, look_row rfl 18 rfl s18, trivial⟩ ?_
    refine tp rfl (lv_slice (l := k) (h := E.length) (m := cp6) (v := (.slice (sbase bs5 k cp6 2) (E.length - k) (cp6 - k))) Try.underlying50 Try.sizeOf55 rfl rfl rfl rfl (.inr ⟨rfl, rfl⟩) (.inr ⟨rfl, rfl⟩) (.inl ⟨_, _, rfl, (by omega), (by omega), (by omega)⟩) (by simp) rfl) ?_
    exact d_closes ⟨look_row rfl 17 rfl s17, look_row rfl 18 rfl s18, trivial⟩ 19 rfl rfl rfl hS (AgreeR.refl _) (t_sat (fun _ h => h) (hK (bs9, cp10, bs13, cp14, bs17, cp18, bs21, cp22, bs25, cp26) ⟨hf0, hf1, hf2, hf3, hf4, hf5, hf6, hf7, hf8, hf9⟩))
   · -- 20
    rintro ⟨bs9, cp10, bs13, cp14, bs17, cp18, bs21, cp22, bs25, cp26⟩ S hF hS D hp K hK
    try dsimp only at hF ⊢
    obtain ⟨hf0, hf1, hf2, hf3, hf4, hf5, hf6, hf7, hf8, hf9⟩ := hF
    have s13 := hp 13 rfl
    have s8 := D 13 8 rfl s13
    have s1 := D 8 1 rfl s8
    have hok11 := hf0 s1
    have hle12 := hf1 s1
    have hok15 := hf2 s8
    have hle16 := hf3 s8
    have s12 := D 13 12 rfl s13
    have hok19 := hf4 s12
    have hle20 := hf5 s12
    have hok23 := hf6 s13
    have hle24 := hf7 s13
    have s19 := hp 19 rfl
    refine d_need (small := [(80, (.slice bs21 (k + 1) cp22)), (86, (.slice (sbase bs5 k cp6 2) (E.length - k) (cp6 - k)))]) ⟨look_row rfl 13 rfl s13, look_row rfl 19 rfl s19, trivial⟩ ?_
    refine t_cF (nf hS D (k := 23) (i := 20) rfl) ?_
    refine t_f2 ?_
    refine t_cF hS ?_
    refine t_cT s13 ?_
    refine tm rfl (mv_append (i := Try.t55) Try.underlying50 Try.type55 rfl rfl rfl (by decide) rfl rfl (fun hz => slok_sbase hok7 (by omega) hz) (by first | exact recs_len pairQ_len _ | (rw [recs_len pairQ_len]; congr 1; first | (simp; done) | (simp; omega))) (rd_sb_recs (l := k) (m := cp6) pairQ_len (rd_slt (.tail _ (.tail _ (.head _)))) hok7 rfl hle8) (recs_one pairQ_one) (by rw [show Try.t55.bytes = 16 from rfl]; omega)) ?_
    rintro _ _ ⟨bs25, cp26, hok27, hle28, rfl, rfl⟩
    rw [← recs_append]
    refine t_f1 ?_
    refine t_wF (A := (Blk p [(.int .i64 N), (.slice bs25 ((k + 1) + (E.length - k)) cp26)] 52)) (nf hS D (k := 23) (i := 20) rfl) ?_
    refine t_f1 ?_
    refine t_f2 ?_
    refine t_f2 ?_
    exact d_closes ⟨look_row rfl 13 rfl s13, look_row rfl 19 rfl s19, trivial⟩ 20 rfl rfl rfl hS (by exact ⟨.inl rfl, .inl rfl, .inl rfl, .inl rfl, .inl rfl, .inl rfl, .inl rfl, .inl rfl, .inl rfl, .inl rfl, .inl rfl, .inl rfl, .inl rfl, .inl rfl, .inl rfl, .inl rfl, .inl rfl, .inl rfl, .inl rfl, .inl rfl, .inr ⟨rfl, rfl, hS⟩, .inl rfl, .inl rfl, trivial⟩) (t_sat (fun _ h => h) (hK (bs9, cp10, bs13, cp14, bs17, cp18, bs21, cp22, bs25, cp26) ⟨hf0, hf1, hf2, hf3, hf4, hf5, hf6, hf7, (fun _ => hok27), (fun _ => hle28)⟩))
   · -- 21
    rintro ⟨bs9, cp10, bs13, cp14, bs17, cp18, bs21, cp22, bs25, cp26⟩ S hF hS D hp K hK
    try dsimp only at hF ⊢
    obtain ⟨hf0, hf1, hf2, hf3, hf4, hf5, hf6, hf7, hf8, hf9⟩ := hF
    have s0 := hp 0 rfl
    refine d_need (small := [(67, (.pointer (some ⟨p, 0, none⟩)))]) ⟨look_row rfl 0 rfl s0, trivial⟩ ?_
    refine tp rfl (lv_nilCheck rfl) ?_
    exact d_closes ⟨look_row rfl 0 rfl s0, trivial⟩ 21 rfl rfl rfl hS (AgreeR.refl _) (t_sat (fun _ h => h) (hK (bs9, cp10, bs13, cp14, bs17, cp18, bs21, cp22, bs25, cp26) ⟨hf0, hf1, hf2, hf3, hf4, hf5, hf6, hf7, hf8, hf9⟩))
   · -- 22
    rintro ⟨bs9, cp10, bs13, cp14, bs17, cp18, bs21, cp22, bs25, cp26⟩ S hF hS D hp K hK
    try dsimp only at hF ⊢
    obtain ⟨hf0, hf1, hf2, hf3, hf4, hf5, hf6, hf7, hf8, hf9⟩ := hF
    have s21 := hp 21 rfl
    refine d_need (small := [(88, (.pointer (some ⟨p, 0, none⟩)))]) ⟨look_row rfl 21 rfl s21, trivial⟩ ?_
    refine tp rfl (lv_fieldAddr (o' := 1) Try.underlying52 rfl Try.sizeOf50 rfl rfl) ?_
    exact d_closes ⟨look_row rfl 21 rfl s21, trivial⟩ 22 rfl rfl rfl hS (AgreeR.refl _) (t_sat (fun _ h => h) (hK (bs9, cp10, bs13, cp14, bs17, cp18, bs21, cp22, bs25, cp26) ⟨hf0, hf1, hf2, hf3, hf4, hf5, hf6, hf7, hf8, hf9⟩))
   · -- 23
    rintro ⟨bs9, cp10, bs13, cp14, bs17, cp18, bs21, cp22, bs25, cp26⟩ S hF hS D hp K hK
    try dsimp only at hF ⊢
    obtain ⟨hf0, hf1, hf2, hf3, hf4, hf5, hf6, hf7, hf8, hf9⟩ := hF
    have s1 := hp 1 rfl
    have hok11 := hf0 s1
    have hle12 := hf1 s1
    have s8 := hp 8 rfl
    have hok15 := hf2 s8
    have hle16 := hf3 s8
    have s12 := hp 12 rfl
    have hok19 := hf4 s12
    have hle20 := hf5 s12
    have s13 := hp 13 rfl
    have hok23 := hf6 s13
    have hle24 := hf7 s13
    have s20 := hp 20 rfl
    have hok27 := hf8 s20
    have hle28 := hf9 s20
    have s22 := hp 22 rfl
    refine d_need (small := [(87, (.slice bs25 ((k + 1) + (E.length - k)) cp26)), (89, (.pointer (some ⟨p, 1, none⟩)))]) ⟨look_row rfl 20 rfl s20, look_row rfl 22 rfl s22, trivial⟩ ?_
    refine t_cF hS ?_
    refine ts (sv_blk Try.sizeOf50 rfl rfl rfl (Nat.le_of_ble_eq_true rfl) rfl) ?_
    exact d_closes0 ⟨look_row rfl 20 rfl s20, look_row rfl 22 rfl s22, trivial⟩ rfl (t_sat (fun _ h => h) (hK (bs9, cp10, bs13, cp14, bs17, cp18, bs21, cp22, bs25, cp26) ⟨hf0, hf1, hf2, hf3, hf4, hf5, hf6, hf7, hf8, hf9⟩))
  · -- behind
   rintro ⟨bs9, cp10, bs13, cp14, bs17, cp18, bs21, cp22, bs25, cp26⟩ hF
   try dsimp only at hF ⊢
   obtain ⟨hf0, hf1, hf2, hf3, hf4, hf5, hf6, hf7, hf8, hf9⟩ := hF
   have hok11 := hf0 rfl
   have hle12 := hf1 rfl
   have hok15 := hf2 rfl
   have hle16 := hf3 rfl
   have hok19 := hf4 rfl
   have hle20 := hf5 rfl
   have hok23 := hf6 rfl
   have hle24 := hf7 rfl
   have hok27 := hf8 rfl
   have hle28 := hf9 rfl
   refine t_weak (E' := [(0, (.pointer (some ⟨p, 0, none⟩))), (1, (.int .i64 x)), (2, (.int .i64 t)), (6, (.int .i64 0)), (7, (.int .i64 ((k : Nat) : Int))), (18, (.bool false))]) ⟨rfl, rfl, rfl, rfl, rfl, rfl, trivial⟩ ?_
   refine q_then_n (hK7 _ _ ?_)
   refine c_seq (fun K8 hK8 => ?_)
   refine c_region ?_
   refine tp rfl (lv_assign rfl) ?_
   refine t_done ?_
   refine q_then_n (hK8 _ _ ?_)
   refine c_ret ?_
   have hins := insT_at (n := (x, t)) hk hlt hge
   have hnn : (k + 1) + (E.length - k) = (insT (x, t) E).length := by rw [hins]; simp; omega
   rw [hnn] at hok27 hle28 ⊢
   rw [show recs pairQ (((E.take k) ++ [(x, t)]) ++ (E.drop k)) = pairs (insT (x, t) E) from by rw [hins, List.append_assoc]; rfl]
   refine t_f2 ?_
   refine t_shutPV hok27 hle28 ?_
   refine t_f1 ?_
   refine t_drop ?_
   refine t_f1 ?_
   refine t_drop ?_
   refine q_ret rfl rfl ?_
   exact ⟨rfl, rfl⟩
 refine c_block ?_
 refine c_loop (γ := (Nat)) (fun (m : Nat) => m ≤ E.length ∧ (∀ j, j < m → LtT (E.getD j (0, 0)) (x, t))) (fun (m : Nat) => [(0, (.pointer (some ⟨p, 0, none⟩))), (1, (.int .i64 x)), (2, (.int .i64 t)), (6, (.int .i64 0)), (7, (.int .i64 ((m : Nat) : Int))), (18, (.bool false))]) (fun (m : Nat) => (Blk p [(.int .i64 N), (.slice bs5 E.length cp6)] 52) :: (SlT 55 2 (.slice bs5 E.length cp6) E.length (pairs E)) :: R) (fun (m : Nat) => E.length - m) (0) ⟨by omega, fun j hj => by omega⟩ ⟨rfl, rfl, rfl, rfl, rfl, rfl, trivial⟩ (fun _ h => h) ?_
 rintro m K7 hF hK7
 try dsimp only at hF hK7 ⊢
 obtain ⟨hm, hall⟩ := hF
 refine c_seq (fun K8 hK8 => ?_)
 refine c_seq (fun K9 hK9 => ?_)
 refine c_region ?_
 refine tp rfl (lv_move rfl) ?_
 refine tp rfl (lv_move rfl) ?_
 refine tp rfl (lv_nilCheck rfl) ?_
 refine tp rfl (lv_fieldAddr (o' := 1) Try.underlying52 rfl Try.sizeOf50 rfl rfl) ?_
 refine tp rfl (lv_load Try.isAgg50 rfl (gives_blk (.head _) rfl)) ?_
 refine tp rfl (lv_len Try.underlying50 rfl rfl) ?_
 by_cases h29 : ((m : Nat) : Int) < ((E.length : Nat) : Int)
 · -- yes
  refine tp rfl (lv_lss rfl rfl (decide_eq_true h29)) ?_
  refine tp rfl (lv_move rfl) ?_
  refine t_guard rfl rfl ?_
  refine tp rfl (lv_move rfl) ?_
  refine t_guard rfl rfl ?_
  refine tp rfl (lv_nilCheck rfl) ?_
  refine t_guard rfl rfl ?_
  refine tp rfl (lv_fieldAddr (o' := 1) Try.underlying52 rfl Try.sizeOf50 rfl rfl) ?_
  refine t_guard rfl rfl ?_
  refine tp rfl (lv_load Try.isAgg50 rfl (gives_blk (.head _) rfl)) ?_
  refine t_guard rfl rfl ?_
  refine tp rfl (lv_move rfl) ?_
  refine t_guard rfl rfl ?_
  refine tp rfl (lv_indexAddr (k' := m * 2) Try.underlying50 Try.sizeOf55 rfl rfl hok7 (by omega) (by omega) (by omega)) ?_
  refine t_guard rfl rfl ?_
  refine tp rfl (lv_fieldAddr_ad (o' := m * 2 + 1) Try.underlying55 rfl Try.sizeOf3 rfl rfl) ?_
  refine t_guard rfl rfl ?_
  refine tp rfl (lv_load Try.isAgg3 rfl (gives_slt (.tail _ (.head _)) (pairs_get1 (by omega)))) ?_
  refine t_guard rfl rfl ?_
  refine tp rfl (lv_move rfl) ?_
  refine t_guard rfl rfl ?_
  by_cases h30 : (((E).getD m (0, 0)).2) < t
  · -- yes
   refine tp rfl (lv_lss rfl rfl (decide_eq_true h30)) ?_
   refine t_guard rfl rfl ?_
   refine tp rfl (lv_move rfl) ?_
   refine t_skip rfl rfl rfl ?_
   refine t_skip rfl rfl rfl ?_
   refine t_skip rfl rfl rfl ?_
   refine t_skip rfl rfl rfl ?_
   refine t_skip rfl rfl rfl ?_
   refine t_skip rfl rfl rfl ?_
   refine t_skip rfl rfl rfl ?_
   refine t_skip rfl rfl rfl ?_
   refine t_skip rfl rfl rfl ?_
   refine t_skip rfl rfl rfl ?_
   refine t_skip rfl rfl rfl ?_
   refine t_skipu rfl rfl rfl ?_
   refine t_skipu rfl rfl rfl ?_
   refine t_skipu rfl rfl rfl ?_
   refine t_skipu rfl rfl rfl ?_
   refine t_skipu rfl rfl rfl ?_
   refine t_skipu rfl rfl rfl ?_
   refine t_skipu rfl rfl rfl ?_
   refine t_skipu rfl rfl rfl ?_
   refine t_skipu rfl rfl rfl ?_
   refine t_skipu rfl rfl rfl ?_
   refine t_skip rfl rfl rfl ?_
   refine t_guard rfl rfl ?_
   refine tp rfl (lv_pick_t rfl rfl) ?_
   refine tp rfl (lv_pick_t rfl rfl) ?_
   refine t_done ?_
   refine q_then_n (hK9 _ _ ?_)
   refine c_true rfl ?_
   refine c_skip ?_
   refine q_then_n (hK8 _ _ ?_)
   refine c_block ?_
   refine c_region ?_
   refine tp rfl (lv_move rfl) ?_
   refine tp rfl (lv_add (c := ((m + 1 : Nat) : Int)) rfl rfl (wr_i64_succ (by omega))) ?_
   refine tp rfl (lv_assign rfl) ?_
   refine t_done ?_
   refine q_in_n ?_
   refine q_then_n ?_
   exact t_weak (by exact ⟨rfl, rfl, rfl, rfl, rfl, rfl, trivial⟩) ((hK7 (m + 1) ⟨by omega, fun j hj => by by_cases hjm : j = m; (subst hjm; unfold LtT; dsimp only; omega); exact hall j (by omega)⟩ (by omega)))
  · -- no
   refine tp rfl (lv_lss rfl rfl (decide_eq_false h30)) ?_
   refine t_guard rfl rfl ?_
   refine tp rfl (lv_move rfl) ?_
   refine t_guard rfl rfl ?_
   refine tp rfl (lv_move rfl) ?_
   refine t_guard rfl rfl ?_
   refine tp rfl (lv_nilCheck rfl) ?_
   refine t_guard rfl rfl ?_
   refine tp rfl (lv_fieldAddr (o' := 1) Try.underlying52 rfl Try.sizeOf50 rfl rfl) ?_
   refine t_guard rfl rfl ?_
   refine tp rfl (lv_load Try.isAgg50 rfl (gives_blk (.head _) rfl)) ?_
   refine t_guard rfl rfl ?_
   refine tp rfl (lv_move rfl) ?_
   refine t_guard rfl rfl ?_
   refine tp rfl (lv_indexAddr (k' := m * 2) Try.underlying50 Try.sizeOf55 rfl rfl hok7 (by omega) (by omega) (by omega)) ?_
   refine t_guard rfl rfl ?_
   refine tp rfl (lv_fieldAddr_ad (o' := m * 2 + 1) Try.underlying55 rfl Try.sizeOf3 rfl rfl) ?_
   refine t_guard rfl rfl ?_
   refine tp rfl (lv_load Try.isAgg3 rfl (gives_slt (.tail _ (.head _)) (pairs_get1 (by omega)))) ?_
   refine t_guard rfl rfl ?_
   refine tp rfl (lv_move rfl) ?_
   refine t_guard rfl rfl ?_
   by_cases h31 : (((E).getD m (0, 0)).2) = t
   · -- yes
    refine tp rfl (lv_eql rfl rfl (beq_iff_eq.2 h31)) ?_
    refine t_guard rfl rfl ?_
    refine tp rfl (lv_move rfl) ?_
    refine t_guard rfl rfl ?_
    refine tp rfl (lv_move rfl) ?_
    refine t_guard rfl rfl ?_
    refine tp rfl (lv_nilCheck rfl) ?_
    refine t_guard rfl rfl ?_
    refine tp rfl (lv_fieldAddr (o' := 1) Try.underlying52 rfl Try.sizeOf50 rfl rfl) ?_
    refine t_guard rfl rfl ?_
    refine tp rfl (lv_load Try.isAgg50 rfl (gives_blk (.head _) rfl)) ?_
    refine t_guard rfl rfl ?_
    refine tp rfl (lv_move rfl) ?_
    refine t_guard rfl rfl ?_
    refine tp rfl (lv_indexAddr (k' := m * 2) Try.underlying50 Try.sizeOf55 rfl rfl hok7 (by omega) (by omega) (by omega)) ?_
    refine t_guard rfl rfl ?_
    refine tp rfl (lv_fieldAddr_ad (o' := m * 2) Try.underlying55 rfl Try.sizeOf3 rfl rfl) ?_
    refine t_guard rfl rfl ?_
    refine tp rfl (lv_load Try.isAgg3 rfl (gives_slt (.tail _ (.head _)) (pairs_get0 (by omega)))) ?_
    refine t_guard rfl rfl ?_
    refine tp rfl (lv_move rfl) ?_
    refine t_guard rfl rfl ?_
    by_cases h32 : (((E).getD m (0, 0)).1) < x
    · -- yes
     refine tp rfl (lv_lss rfl rfl (decide_eq_true h32)) ?_
     refine t_guard rfl rfl ?_
     refine tp rfl (lv_pick_t rfl rfl) ?_
     refine t_guard rfl rfl ?_
     refine tp rfl (lv_pick_f rfl rfl) ?_
     refine tp rfl (lv_pick_t rfl rfl) ?_
     refine t_done ?_
     refine q_then_n (hK9 _ _ ?_)
     refine c_true rfl ?_
     refine c_skip ?_
     refine q_then_n (hK8 _ _ ?_)
     refine c_block ?_
     refine c_region ?_
     refine tp rfl (lv_move rfl) ?_
     refine tp rfl (lv_add (c := ((m + 1 : Nat) : Int)) rfl rfl (wr_i64_succ (by omega))) ?_
     refine tp rfl (lv_assign rfl) ?_
     refine t_done ?_
     refine q_in_n ?_
     refine q_then_n ?_
     exact t_weak (by exact ⟨rfl, rfl, rfl, rfl, rfl, rfl, trivial⟩) ((hK7 (m + 1) ⟨by omega, fun j hj => by by_cases hjm : j = m; (subst hjm; unfold LtT; dsimp only; omega); exact hall j (by omega)⟩ (by omega)))
    · -- no
     refine tp rfl (lv_lss rfl rfl (decide_eq_false h32)) ?_
     refine t_guard rfl rfl ?_
     refine tp rfl (lv_pick_t rfl rfl) ?_
     refine t_guard rfl rfl ?_
     refine tp rfl (lv_pick_f rfl rfl) ?_
     refine tp rfl (lv_pick_t rfl rfl) ?_
     refine t_done ?_
     refine q_then_n (hK9 _ _ ?_)
     refine c_false rfl ?_
     refine c_exit ?_
     refine q_then_x ?_
     refine q_then_x ?_
     refine q_in_x ?_
     refine q_then_n ?_
     exact t_weak (by exact ⟨rfl, rfl, rfl, rfl, rfl, rfl, trivial⟩) (hM6 m ⟨by omega, hall, fun h1 h2 => by unfold LtT at h2; dsimp only at h2; omega⟩)
   · -- no
    refine tp rfl (lv_eql rfl rfl (beq_eq_false_iff_ne.2 h31)) ?_
    refine t_guard rfl rfl ?_
    refine tp rfl (lv_move rfl) ?_
    refine t_skip rfl rfl rfl ?_
    refine t_skip rfl rfl rfl ?_
    refine t_skip rfl rfl rfl ?_
    refine t_skip rfl rfl rfl ?_
    refine t_skip rfl rfl rfl ?_
    refine t_skip rfl rfl rfl ?_
    refine t_skip rfl rfl rfl ?_
    refine t_skip rfl rfl rfl ?_
    refine t_skip rfl rfl rfl ?_
    refine t_skip rfl rfl rfl ?_
    refine t_guard rfl rfl ?_
    refine tp rfl (lv_pick_f rfl rfl) ?_
    refine t_guard rfl rfl ?_
    refine tp rfl (lv_pick_f rfl rfl) ?_
    refine tp rfl (lv_pick_t rfl rfl) ?_
    refine t_done ?_
    refine q_then_n (hK9 _ _ ?_)
    refine c_false rfl ?_
    refine c_exit ?_
    refine q_then_x ?_
    refine q_then_x ?_
    refine q_in_x ?_
    refine q_then_n ?_
    exact t_weak (by exact ⟨rfl, rfl, rfl, rfl, rfl, rfl, trivial⟩) (hM6 m ⟨by omega, hall, fun h1 h2 => by unfold LtT at h2; dsimp only at h2; omega⟩)
 · -- no
  refine tp rfl (lv_lss rfl rfl (decide_eq_false h29)) ?_
  refine tp rfl (lv_move rfl) ?_
  refine t_skip rfl rfl rfl ?_
  refine t_skip rfl rfl rfl ?_
  refine t_skip rfl rfl rfl ?_
  refine t_skip rfl rfl rfl ?_
  refine t_skip rfl rfl rfl ?_
  refine t_skip rfl rfl rfl ?_
  refine t_skip rfl rfl rfl ?_
  refine t_skip rfl rfl rfl ?_
  refine t_skip rfl rfl rfl ?_
  refine t_skip rfl rfl rfl ?_
  refine t_skip rfl rfl rfl ?_
  refine t_skipu rfl rfl rfl ?_
  refine t_skipu rfl rfl rfl ?_
  refine t_skipu rfl rfl rfl ?_
  refine t_skipu rfl rfl rfl ?_
  refine t_skipu rfl rfl rfl ?_
  refine t_skipu rfl rfl rfl ?_
  refine t_skipu rfl rfl rfl ?_
  refine t_skipu rfl rfl rfl ?_
  refine t_skipu rfl rfl rfl ?_
  refine t_skipu rfl rfl rfl ?_
  refine t_skipu rfl rfl rfl ?_
  refine t_skipu rfl rfl rfl ?_
  refine t_skipu rfl rfl rfl ?_
  refine t_skipu rfl rfl rfl ?_
  refine t_skipu rfl rfl rfl ?_
  refine t_skipu rfl rfl rfl ?_
  refine t_skipu rfl rfl rfl ?_
  refine t_skipu rfl rfl rfl ?_
  refine t_skipu rfl rfl rfl ?_
  refine t_skipu rfl rfl rfl ?_
  refine t_skipu rfl rfl rfl ?_
  refine t_skipu rfl rfl rfl ?_
  refine t_skip rfl rfl rfl ?_
  refine tp rfl (lv_pick_f rfl rfl) ?_
  refine t_done ?_
  refine q_then_n (hK9 _ _ ?_)
  refine c_false rfl ?_
  refine c_exit ?_
  refine q_then_x ?_
  refine q_then_x ?_
  refine q_in_x ?_
  refine q_then_n ?_
  exact t_weak (by exact ⟨rfl, rfl, rfl, rfl, rfl, rfl, trivial⟩) (hM6 m ⟨by omega, hall, fun h1 h2 => by unfold LtT at h2; dsimp only at h2; omega⟩)

theorem rset_no {R : List HP} {p : Nat} {N : Int} {es : List (Int × Int)} (x t : Int) (hes : es.length ≤ 65536) (hr : ¬ (0 ≤ x ∧ x < min N 65536)) :
    Ok Try.prog 18 [(.pointer (some ⟨p, 0, none⟩)), (.int .i64 x), (.int .i64 t)] ((RowP 52 55 p N es) :: R)
      (fun v M => v = .int .i64 1 ∧ M = RowP 52 55 p N es :: R) := by
 refine ok_of (N := 90) Try.func18 rfl rfl rfl (fun W => ?_)
 refine t_openP (fun bs1 cp2 hok3 hle4 => ?_)
 refine c_seq (fun K1 hK1 => ?_)
 refine c_region ?_
 refine tp rfl (lv_assign rfl) ?_
 refine t_done ?_
 refine q_then_n (hK1 _ _ ?_)
 refine c_seq (fun K2 hK2 => ?_)
 refine c_seq (fun K3 hK3 => ?_)
 refine c_region ?_
 refine tp rfl (lv_move rfl) ?_
 by_cases h5 : x < 0
 · -- yes
  refine tp rfl (lv_lss rfl rfl (decide_eq_true h5)) ?_
  refine tp rfl (lv_move rfl) ?_
  refine t_skip rfl rfl rfl ?_
  refine t_skip rfl rfl rfl ?_
  refine t_skip rfl rfl rfl ?_
  refine t_skip rfl rfl rfl ?_
  refine t_skip rfl rfl rfl ?_
  refine t_skip rfl rfl rfl ?_
  refine t_skip rfl rfl rfl ?_
  refine tp rfl (lv_pick_t rfl rfl) ?_
  refine t_done ?_
  refine q_then_n (hK3 _ _ ?_)
  refine c_true rfl ?_
  refine c_seq (fun K4 hK4 => ?_)
  refine c_region ?_
  refine tp rfl (lv_assign rfl) ?_
  refine t_done ?_
  refine q_then_n (hK4 _ _ ?_)
  refine c_ret ?_
  refine q_then_r ?_
  refine t_f1 ?_
  refine t_f1 ?_
  refine t_shutP hok3 hle4 ?_
  refine q_ret rfl rfl ?_
  exact ⟨rfl, rfl⟩
 · -- no
  refine tp rfl (lv_lss rfl rfl (decide_eq_false h5)) ?_
  refine tp rfl (lv_move rfl) ?_
  refine t_guard rfl rfl ?_
  refine tp rfl (lv_move rfl) ?_
  refine t_guard rfl rfl ?_
  refine tp rfl (lv_move rfl) ?_
  refine t_guard rfl rfl ?_
  refine tp rfl (lv_nilCheck rfl) ?_
  refine t_guard rfl rfl ?_
  refine tp rfl (lv_fieldAddr (o' := 0) Try.underlying52 rfl Try.sizeOf3 rfl rfl) ?_
  refine t_guard rfl rfl ?_
  refine tp rfl (lv_load Try.isAgg3 rfl (gives_blk (.head _) rfl)) ?_
  refine t_guard rfl rfl ?_
  refine tp rfl (lv_min (c := min N 65536) rfl rfl rfl) ?_
  refine t_guard rfl rfl ?_
  by_cases h6 : x ≥ (min N 65536)
  · -- yes
   refine tp rfl (lv_geq rfl rfl (decide_eq_true h6)) ?_
   refine tp rfl (lv_pick_f rfl rfl) ?_
   refine t_done ?_
   refine q_then_n (hK3 _ _ ?_)
   refine c_true rfl ?_
   refine c_seq (fun K4 hK4 => ?_)
   refine c_region ?_
   refine tp rfl (lv_assign rfl) ?_
   refine t_done ?_
   refine q_then_n (hK4 _ _ ?_)
   refine c_ret ?_
   refine q_then_r ?_
   refine t_f1 ?_
   refine t_f1 ?_
   refine t_shutP hok3 hle4 ?_
   refine q_ret rfl rfl ?_
   exact ⟨rfl, rfl⟩
  · -- no
   refine tp rfl (lv_geq rfl rfl (decide_eq_false h6)) ?_
   exfalso; omega
end Go.Proofs.Ytombnfgkgcjihaa
