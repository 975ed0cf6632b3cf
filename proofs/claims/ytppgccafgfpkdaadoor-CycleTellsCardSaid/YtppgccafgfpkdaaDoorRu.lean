/- Circles: the document's, a contract. -/
import Derived.Test.YtppgccafgfpkdaaDoorRs
set_option maxRecDepth 100000
set_option linter.unusedVariables false
set_option linter.unusedSimpArgs false
namespace Go.Proofs.YtppgccafgfpkdaaDoor
open Go Go.Proofs Sp
set_option maxHeartbeats 8000000 in
theorem ron_ok {R : List HP} {p N cl : Nat} {bl : Option Addr} {es : Es} (okl : SlOk bl es.length) (hE : es.length ≤ 1000) (hg : GOk N es) :
    Ok Tryd.prog 20 [(.pointer (some ⟨p, 0, none⟩))] ((Blk p [(.int .i64 ((N : Nat) : Int)), (.slice bl es.length cl)] 52) :: (SlV 54 2 (.slice bl es.length cl) es.length (pairs es)) :: R)
      (OutSl 3 1 (onL N es).length (ints .i64 (onL N es)) (Blk p [.int .i64 ((N : Nat) : Int), .slice bl es.length cl] 52 :: SlV 54 2 (.slice bl es.length cl) es.length (pairs es) :: R)) := by
  have hsm := hg.small
  refine ok_of (N := 44) Tryd.func20 rfl rfl rfl (fun W => ?_)
  refine c_seq (fun K1 hK1 => ?_)
  refine c_region ?_
  refine tp rfl (lv_assign rfl) ?_
  refine t_done ?_
  refine q_then_n (hK1 _ _ ?_)
  refine c_seq (fun K2 hK2 => ?_)
  refine c_region ?_
  refine tm rfl (mv_buildSlice (cs := []) Tryd.underlying33 Tryd.sizeOf3 Tryd.zeroValue3 (by decide) rfl rfl rfl rfl) ?_
  rintro _ _ ⟨bs1, cp2, hok3, hle4, rfl, rfl⟩
  refine tp rfl (lv_assign rfl) ?_
  refine t_done ?_
  refine q_then_n (hK2 _ _ ?_)
  refine c_seq (fun K3 hK3 => ?_)
  refine c_seq (fun K4 hK4 => ?_)
  refine c_region ?_
  refine tp rfl (lv_assign rfl) ?_
  refine t_done ?_
  refine q_then_n (hK4 _ _ ?_)
  refine c_block ?_
  refine c_loop (γ := (Nat) × (Option Addr) × (Nat)) (fun (x, bt, ct) => x ≤ N ∧ SlOk bt (onK N es x).length ∧ (onK N es x).length ≤ ct) (fun (x, bt, ct) => [(0, (.pointer (some ⟨p, 0, none⟩))), (2, (.slice none 0 0)), (3, (.slice bt ((onK N es x).length) ct)), (4, (.int .i64 ((x : Nat) : Int)))]) (fun (x, bt, ct) => (SlV 3 1 (.slice bt ((onK N es x).length) ct) ((onK N es x).length) (ints .i64 (onK N es x))) :: (Blk p [(.int .i64 ((N : Nat) : Int)), (.slice bl es.length cl)] 52) :: (SlV 54 2 (.slice bl es.length cl) es.length (pairs es)) :: R) (fun (x, bt, ct) => N - x) (0, bs1, cp2) ⟨by omega, hok3, hle4⟩ ⟨rfl, rfl, rfl, rfl, trivial⟩ (fun _ h => h) ?_
  rintro ⟨x, bt, ct⟩ K5 hF hK5
  try dsimp only at hF hK5 ⊢
  obtain ⟨hx, hok, hle⟩ := hF
  have hol := onK_len N es x
  have houl := hg.outs_le ((x : Nat) : Int)
  refine c_seq (fun K6 hK6 => ?_)
  refine c_seq (fun K7 hK7 => ?_)
  refine c_region ?_
  refine tp rfl (lv_move rfl) ?_
  refine tp rfl (lv_move rfl) ?_
  refine tp rfl (lv_nilCheck rfl) ?_
  refine tp rfl (lv_fieldAddr (o' := 0) Tryd.underlying52 rfl Tryd.sizeOf3 rfl rfl) ?_
  refine tp rfl (lv_load Tryd.isAgg3 rfl (gives_blk (.tail _ (.head _)) rfl)) ?_
  by_cases h5 : ((x : Nat) : Int) < ((N : Nat) : Int)
  · -- yes
    refine tp rfl (lv_lss rfl rfl (decide_eq_true h5)) ?_
    refine t_done ?_
    refine q_then_n (hK7 _ _ ?_)
    refine c_true rfl ?_
    refine c_skip ?_
    refine q_then_n (hK6 _ _ ?_)
    refine c_seq (fun K8 hK8 => ?_)
    refine c_block ?_
    refine c_seq (fun K9 hK9 => ?_)
    refine c_region ?_
    refine tp rfl (lv_move rfl) ?_
    refine tp rfl (lv_move rfl) ?_
    refine t_f2 ?_
    refine t_f2 ?_
    refine tc rfl (en_fn Tryd.call35 rfl) (rout_ok (N := N) (es := es) ((x : Nat) : Int) okl hE) ?_
    rintro _ _ ⟨bs6, cp7, hok8, hle9, rfl, rfl⟩
    refine tp rfl (lv_assign rfl) ?_
    refine t_done ?_
    refine q_then_n (hK9 _ _ ?_)
    refine c_seq (fun K10 hK10 => ?_)
    refine c_region ?_
    refine tp rfl (lv_assign rfl) ?_
    refine t_done ?_
    refine q_then_n (hK10 _ _ ?_)
    refine c_seq (fun K11 hK11 => ?_)
    refine c_seq (fun K12 hK12 => ?_)
    refine c_region ?_
    refine tp rfl (lv_assign rfl) ?_
    refine t_done ?_
    refine q_then_n (hK12 _ _ ?_)
    refine c_block ?_
    refine c_loop (γ := (Nat)) (fun (j : Nat) => j ≤ (outs es ((x : Nat) : Int)).length) (fun (j : Nat) => [(0, (.pointer (some ⟨p, 0, none⟩))), (2, (.slice none 0 0)), (3, (.slice bt ((onK N es x).length) ct)), (4, (.int .i64 ((x : Nat) : Int))), (5, (.slice bs6 ((outs es ((x : Nat) : Int)).length) cp7)), (6, (.bool (((outs es ((x : Nat) : Int)).take j).any fun b => reachB N es b ((x : Nat) : Int)))), (7, (.int .i64 ((j : Nat) : Int))), (15, (.bool true))]) (fun (j : Nat) => (SlV 3 1 (.slice bs6 ((outs es ((x : Nat) : Int)).length) cp7) ((outs es ((x : Nat) : Int)).length) (ints .i64 (outs es ((x : Nat) : Int)))) :: (Blk p [(.int .i64 ((N : Nat) : Int)), (.slice bl es.length cl)] 52) :: (SlV 54 2 (.slice bl es.length cl) es.length (pairs es)) :: (SlV 3 1 (.slice bt ((onK N es x).length) ct) ((onK N es x).length) (ints .i64 (onK N es x))) :: R) (fun (j : Nat) => (outs es ((x : Nat) : Int)).length - j) (0) (by omega) ⟨rfl, rfl, rfl, rfl, rfl, (congrArg (fun b => some (Value.bool b)) (show false = (((outs es ((x : Nat) : Int)).take 0).any fun b => reachB N es b ((x : Nat) : Int)) from by simp)), rfl, rfl, trivial⟩ (fun _ h => h) ?_
    rintro j K13 hF hK13
    try dsimp only at hF hK13 ⊢
    refine c_seq (fun K14 hK14 => ?_)
    refine c_seq (fun K15 hK15 => ?_)
    refine c_region ?_
    refine tp rfl (lv_move rfl) ?_
    refine tp rfl (lv_move rfl) ?_
    refine tp rfl (lv_len Tryd.underlying33 rfl rfl) ?_
    by_cases h10 : ((j : Nat) : Int) < (((outs es ((x : Nat) : Int)).length : Nat) : Int)
    · -- yes
      refine tp rfl (lv_lss rfl rfl (decide_eq_true h10)) ?_
      refine t_done ?_
      refine q_then_n (hK15 _ _ ?_)
      refine c_true rfl ?_
      refine c_skip ?_
      refine q_then_n (hK14 _ _ ?_)
      refine c_seq (fun K16 hK16 => ?_)
      refine c_block ?_
      refine c_seq (fun K17 hK17 => ?_)
      refine c_region ?_
      refine tp rfl (lv_move rfl) ?_
      refine tp rfl (lv_move rfl) ?_
      refine tp rfl (lv_move rfl) ?_
      refine tp rfl (lv_indexAddr (k' := j) Tryd.underlying33 Tryd.sizeOf3 rfl rfl hok8 (by omega) (by omega) (by omega)) ?_
      refine tp rfl (lv_load Tryd.isAgg3 rfl (gives_sl (.head _) (ints_get (by omega)))) ?_
      refine tp rfl (lv_move rfl) ?_
      refine t_f2 ?_
      refine t_f2 ?_
      refine tc rfl (en_fn Tryd.call38 rfl) (rreaches_ok (N := N) (es := es) ((outs es ((x : Nat) : Int)).getD j 0) ((x : Nat) : Int) okl hE hg) ?_
      rintro _ _ ⟨rfl, rfl⟩
      refine tp rfl (lv_assign rfl) ?_
      refine t_done ?_
      refine q_then_n (hK17 _ _ ?_)
      refine c_region ?_
      refine tp rfl (lv_move rfl) ?_
      refine tp rfl (lv_move rfl) ?_
      rcases hb11 : ((outs es ((x : Nat) : Int)).take j).any fun b => reachB N es b ((x : Nat) : Int) with _ | _
      · -- false
        refine t_guard rfl rfl ?_
        refine tp rfl (lv_move rfl) ?_
        refine tp rfl (lv_pick_f rfl rfl) ?_
        refine tp rfl (lv_assign rfl) ?_
        refine t_done ?_
        refine q_in_n ?_
        refine q_then_n (hK16 _ _ ?_)
        refine c_region ?_
        refine tp rfl (lv_move rfl) ?_
        refine tp rfl (lv_add (c := ((j + 1 : Nat) : Int)) rfl rfl (wr_i64_succ (by omega))) ?_
        refine tp rfl (lv_assign rfl) ?_
        refine t_done ?_
        refine q_then_n ?_
        refine t_f1 ?_
        refine t_f1 ?_
        refine t_f2 ?_
        exact t_weak (by exact ⟨rfl, rfl, rfl, rfl, rfl, (congrArg (fun b => some (Value.bool b)) (show reachB N es ((outs es ((x : Nat) : Int)).getD j 0) ((x : Nat) : Int) = (((outs es ((x : Nat) : Int)).take (j + 1)).any fun b => reachB N es b ((x : Nat) : Int)) from by rw [take_succ_getD (by omega) 0, List.any_append, hb11]; simp)), rfl, rfl, trivial⟩) ((hK13 (j + 1) (by omega) (by omega)))
      · -- true
        refine t_skip rfl rfl rfl ?_
        refine tp rfl (lv_pick_t rfl rfl) ?_
        refine tp rfl (lv_assign rfl) ?_
        refine t_done ?_
        refine q_in_n ?_
        refine q_then_n (hK16 _ _ ?_)
        refine c_region ?_
        refine tp rfl (lv_move rfl) ?_
        refine tp rfl (lv_add (c := ((j + 1 : Nat) : Int)) rfl rfl (wr_i64_succ (by omega))) ?_
        refine tp rfl (lv_assign rfl) ?_
        refine t_done ?_
        refine q_then_n ?_
        refine t_f1 ?_
        refine t_f1 ?_
        refine t_f2 ?_
        exact t_weak (by exact ⟨rfl, rfl, rfl, rfl, rfl, (congrArg (fun b => some (Value.bool b)) (show true = (((outs es ((x : Nat) : Int)).take (j + 1)).any fun b => reachB N es b ((x : Nat) : Int)) from by rw [take_succ_getD (by omega) 0, List.any_append, hb11]; simp)), rfl, rfl, trivial⟩) ((hK13 (j + 1) (by omega) (by omega)))
    · -- no
      refine tp rfl (lv_lss rfl rfl (decide_eq_false h10)) ?_
      refine t_done ?_
      refine q_then_n (hK15 _ _ ?_)
      refine c_false rfl ?_
      refine c_exit ?_
      refine q_then_x ?_
      refine q_then_x ?_
      refine q_in_x ?_
      refine q_then_n (hK11 _ _ ?_)
      refine c_seq (fun K16 hK16 => ?_)
      refine c_region ?_
      refine tp rfl (lv_move rfl) ?_
      refine t_done ?_
      refine q_then_n (hK16 _ _ ?_)
      refine c_split rfl (fun c12 => ?_) (fun c12 => ?_)
      · -- true
        refine c_region ?_
        refine tp rfl (lv_move rfl) ?_
        refine tp rfl (lv_move rfl) ?_
        refine tm rfl (mv_buildSlice (cs := [(.int .i64 ((x : Nat) : Int))]) Tryd.underlying33 Tryd.sizeOf3 Tryd.zeroValue3 (by decide) rfl rfl rfl rfl) ?_
        rintro _ _ ⟨bs13, cp14, hok15, hle16, rfl, rfl⟩
        refine t_f4 ?_
        refine tm rfl (mv_append (i := Tryd.t3) Tryd.underlying33 Tryd.type3 rfl rfl rfl (by decide) rfl rfl hok15 (by first | (simp; done) | (simp; omega)) (rd_sl (.tail _ (.head _))) (by simp [Value.oneCell']) (by rw [show Tryd.t3.bytes = 8 from rfl]; omega)) ?_
        rintro _ _ ⟨bs17, cp18, hok19, hle20, rfl, rfl⟩
        rw [show ints .i64 (onK N es x) ++ [(.int .i64 ((x : Nat) : Int))] = ints .i64 ((onK N es x) ++ [((x : Nat) : Int)]) from ints_snoc _ _ _]
        rw [show ((onK N es x).length) + 1 = (onK N es x ++ [((x : Nat) : Int)]).length from by simp] at hok19 hle20 ⊢
        refine tp rfl (lv_assign rfl) ?_
        refine t_done ?_
        refine q_in_n ?_
        refine q_then_n (hK8 _ _ ?_)
        refine c_region ?_
        refine tp rfl (lv_move rfl) ?_
        refine tp rfl (lv_add (c := ((x + 1 : Nat) : Int)) rfl rfl (wr_i64_succ (by omega))) ?_
        refine tp rfl (lv_assign rfl) ?_
        refine t_done ?_
        refine q_then_n ?_
        refine t_f1 ?_
        refine t_drop ?_
        refine t_f1 ?_
        refine t_drop ?_
        have hon : onB N es ((x : Nat) : Int) = true := by rw [show (outs es ((x : Nat) : Int)).take j = outs es ((x : Nat) : Int) from List.take_of_length_le (by omega)] at *; exact c12
        rw [← onK_yes hon] at hok19 hle20 ⊢
        exact t_weak (by exact ⟨rfl, rfl, rfl, rfl, trivial⟩) ((hK5 (x + 1, bs17, cp18) ⟨by omega, hok19, hle20⟩ (by dsimp only; omega)))
      · -- false
        refine c_skip ?_
        refine q_in_n ?_
        refine q_then_n (hK8 _ _ ?_)
        refine c_region ?_
        refine tp rfl (lv_move rfl) ?_
        refine tp rfl (lv_add (c := ((x + 1 : Nat) : Int)) rfl rfl (wr_i64_succ (by omega))) ?_
        refine tp rfl (lv_assign rfl) ?_
        refine t_done ?_
        refine q_then_n ?_
        refine t_drop ?_
        refine t_f1 ?_
        refine t_f1 ?_
        refine t_f2 ?_
        have hon : onB N es ((x : Nat) : Int) = false := by rw [show (outs es ((x : Nat) : Int)).take j = outs es ((x : Nat) : Int) from List.take_of_length_le (by omega)] at *; exact c12
        rw [← onK_no hon] at hok hle ⊢
        exact t_weak (by exact ⟨rfl, rfl, rfl, rfl, trivial⟩) ((hK5 (x + 1, bt, ct) ⟨by omega, hok, hle⟩ (by dsimp only; omega)))
  · -- no
    refine tp rfl (lv_lss rfl rfl (decide_eq_false h5)) ?_
    refine t_done ?_
    refine q_then_n (hK7 _ _ ?_)
    refine c_false rfl ?_
    refine c_exit ?_
    refine q_then_x ?_
    refine q_then_x ?_
    refine q_in_x ?_
    refine q_then_n (hK3 _ _ ?_)
    refine c_seq (fun K8 hK8 => ?_)
    refine c_region ?_
    refine tp rfl (lv_move rfl) ?_
    refine tp rfl (lv_assign rfl) ?_
    refine t_done ?_
    refine q_then_n (hK8 _ _ ?_)
    refine c_ret ?_
    refine q_ret rfl rfl ?_
    have e : x = N := by omega
    subst e
    rw [show onK x es x = onL x es from rfl] at hok hle ⊢
    exact ⟨bt, ct, hok, hle, rfl, rfl⟩
end Go.Proofs.YtppgccafgfpkdaaDoor
