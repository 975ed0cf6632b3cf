/- The document's row: contracts, on. -/
import Derived.Test.YthhmdcbhgnoemaaRa
set_option maxRecDepth 100000
set_option linter.unusedVariables false
set_option linter.unusedSimpArgs false
namespace Go.Proofs.Ythhmdcbhgnoemaa
open Go Go.Proofs Sp
theorem rstate_ok {R : List HP} {p : Nat} {A Q : Int} {bl : Option Addr} {cl : Nat} {s : AS} (h : AOk (max A 1) (max Q 0) s) (x : Int) (okl : SlOk bl (rowOf s).length) (hl : (rowOf s).length ≤ 100000) :
    Ok Try.prog 19 [(.pointer (some ⟨p, 0, none⟩)), (.int .i64 x)] ((Blk p [(.int .i64 A), (.int .i64 Q), (.slice bl ((rowOf s).length) cl)] 29) :: (SlV 3 1 (.slice bl ((rowOf s).length) cl) ((rowOf s).length) (ints .i64 (rowOf s))) :: R)
      (fun v M => v = .tuple #[.int .i64 (stV s x), .bool (there s x)] ∧ M = Blk p [.int .i64 A, .int .i64 Q, .slice bl (rowOf s).length cl] 29 :: SlV 3 1 (.slice bl (rowOf s).length cl) (rowOf s).length (ints .i64 (rowOf s)) :: R) := by
  refine ok_of (N := 20) Try.func19 rfl rfl rfl (fun W => ?_)
  refine c_seq (fun K1 hK1 => ?_)
  refine c_region ?_
  refine tp rfl (lv_assign rfl) ?_
  refine tp rfl (lv_assign rfl) ?_
  refine t_done ?_
  refine q_then_n (hK1 _ _ ?_)
  refine c_seq (fun K2 hK2 => ?_)
  refine c_region ?_
  refine tp rfl (lv_move rfl) ?_
  refine tp rfl (lv_move rfl) ?_
  refine t_f1 ?_
  refine t_f1 ?_
  refine tc rfl (en_fn Try.call23 rfl) (rfind_ok (A := A) (Q := Q) (l := rowOf s) x okl (by omega)) ?_
  rintro _ _ ⟨rfl, rfl⟩
  refine tp rfl (lv_assign rfl) ?_
  refine t_done ?_
  refine q_then_n (hK2 _ _ ?_)
  refine c_seq (fun K3 hK3 => ?_)
  refine c_seq (fun K4 hK4 => ?_)
  rcases ht : there s x with _ | _
  · -- false
    have ha : inA s x = false := by have := ht; simp only [there, Bool.or_eq_false_iff] at this; exact this.1
    have hi : idxF (fun y => decide (x = y)) (rowOf s) = -1 := idx_out (fun hm => by rw [mem_rowOf.1 hm] at ht; cases ht)
    refine c_region ?_
    refine tp rfl (lv_move rfl) ?_
    refine tp rfl (lv_lss rfl rfl (decide_eq_true (by omega))) ?_
    refine tp rfl (lv_move rfl) ?_
    refine t_skip rfl rfl rfl ?_
    refine t_skip rfl rfl rfl ?_
    refine t_skip rfl rfl rfl ?_
    refine t_skip rfl rfl rfl ?_
    refine tp rfl (lv_pick_t rfl rfl) ?_
    refine t_done ?_
    refine q_then_n (hK4 _ _ ?_)
    refine c_true rfl ?_
    refine c_seq (fun K5 hK5 => ?_)
    refine c_region ?_
    refine tp rfl (lv_move rfl) ?_
    refine tp rfl (lv_geq rfl rfl (decide_eq_false (by omega))) ?_
    refine tp rfl (lv_assign rfl) ?_
    refine tp rfl (lv_assign rfl) ?_
    refine t_done ?_
    refine q_then_n (hK5 _ _ ?_)
    refine c_ret ?_
    refine q_then_r ?_
    refine q_ret2 rfl rfl rfl ?_
    exact ⟨by simp only [stV, ha, ht] <;> rfl, rfl⟩
  · -- true
    have hi := (idx_in (mem_rowOf.2 ht)).1
    have hact := find_active ht h.nodup
    rcases ha : inA s x with _ | _
    · -- false
      rw [ha] at hact
      refine c_region ?_
      refine tp rfl (lv_move rfl) ?_
      refine tp rfl (lv_lss rfl rfl (decide_eq_false (by omega))) ?_
      refine tp rfl (lv_move rfl) ?_
      refine t_guard rfl rfl ?_
      refine tp rfl (lv_move rfl) ?_
      refine t_guard rfl rfl ?_
      refine tp rfl (lv_move rfl) ?_
      refine t_guard rfl rfl ?_
      refine t_f1 ?_
      refine t_f1 ?_
      refine tc rfl (en_fn Try.call20 rfl) (rsplit_ok (A := A) (Q := Q) (l := rowOf s) (by omega)) ?_
      rintro _ _ ⟨rfl, rfl⟩
      rw [show min (((rowOf s).length : Nat) : Int) (max A 1) = ((s.a.length : Nat) : Int) from (split_len h)]
      refine t_guard rfl rfl ?_
      refine tp rfl (lv_geq rfl rfl (decide_eq_true (of_decide_eq_true hact))) ?_
      refine tp rfl (lv_pick_f rfl rfl) ?_
      refine t_done ?_
      refine q_then_n (hK4 _ _ ?_)
      refine c_true rfl ?_
      refine c_seq (fun K5 hK5 => ?_)
      refine c_region ?_
      refine tp rfl (lv_move rfl) ?_
      refine tp rfl (lv_geq rfl rfl (decide_eq_true (by omega))) ?_
      refine tp rfl (lv_assign rfl) ?_
      refine tp rfl (lv_assign rfl) ?_
      refine t_done ?_
      refine q_then_n (hK5 _ _ ?_)
      refine c_ret ?_
      refine q_then_r ?_
      refine q_ret2 rfl rfl rfl ?_
      exact ⟨by simp only [stV, ha, ht] <;> rfl, rfl⟩
    · -- true
      rw [ha] at hact
      refine c_region ?_
      refine tp rfl (lv_move rfl) ?_
      refine tp rfl (lv_lss rfl rfl (decide_eq_false (by omega))) ?_
      refine tp rfl (lv_move rfl) ?_
      refine t_guard rfl rfl ?_
      refine tp rfl (lv_move rfl) ?_
      refine t_guard rfl rfl ?_
      refine tp rfl (lv_move rfl) ?_
      refine t_guard rfl rfl ?_
      refine t_f1 ?_
      refine t_f1 ?_
      refine tc rfl (en_fn Try.call20 rfl) (rsplit_ok (A := A) (Q := Q) (l := rowOf s) (by omega)) ?_
      rintro _ _ ⟨rfl, rfl⟩
      rw [show min (((rowOf s).length : Nat) : Int) (max A 1) = ((s.a.length : Nat) : Int) from (split_len h)]
      refine t_guard rfl rfl ?_
      refine tp rfl (lv_geq rfl rfl (decide_eq_false (of_decide_eq_false hact))) ?_
      refine tp rfl (lv_pick_f rfl rfl) ?_
      refine t_done ?_
      refine q_then_n (hK4 _ _ ?_)
      refine c_false rfl ?_
      refine c_skip ?_
      refine q_then_n (hK3 _ _ ?_)
      refine c_seq (fun K5 hK5 => ?_)
      refine c_region ?_
      refine tp rfl (lv_assign rfl) ?_
      refine tp rfl (lv_assign rfl) ?_
      refine t_done ?_
      refine q_then_n (hK5 _ _ ?_)
      refine c_ret ?_
      refine q_ret2 rfl rfl rfl ?_
      exact ⟨by simp only [stV, ha, ht] <;> rfl, rfl⟩
end Go.Proofs.Ythhmdcbhgnoemaa
