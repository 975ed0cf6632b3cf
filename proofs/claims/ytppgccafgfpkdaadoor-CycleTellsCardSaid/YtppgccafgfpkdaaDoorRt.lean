/- The path: the document's, a contract. -/
import Derived.Test.YtppgccafgfpkdaaDoorRs
set_option maxRecDepth 100000
set_option linter.unusedVariables false
set_option linter.unusedSimpArgs false
namespace Go.Proofs.YtppgccafgfpkdaaDoor
open Go Go.Proofs Sp
set_option maxHeartbeats 8000000 in
theorem rpath_ok {R : List HP} {p N cl : Nat} {bl : Option Addr} {es : Es} (a to : Int) (okl : SlOk bl es.length) (hE : es.length ≤ 1000) (hg : GOk N es) :
    Ok Tryd.prog 17 [(.pointer (some ⟨p, 0, none⟩)), (.int .i64 a), (.int .i64 to)] ((Blk p [(.int .i64 ((N : Nat) : Int)), (.slice bl es.length cl)] 52) :: (SlV 54 2 (.slice bl es.length cl) es.length (pairs es)) :: R)
      (OutSl 3 1 (pathL N es a to).length (ints .i64 (pathL N es a to)) (Blk p [.int .i64 ((N : Nat) : Int), .slice bl es.length cl] 52 :: SlV 54 2 (.slice bl es.length cl) es.length (pairs es) :: R)) := by
  have hsm := hg.small
  refine ok_of (N := 63) Tryd.func17 rfl rfl rfl (fun W => ?_)
  refine c_seq (fun K1 hK1 => ?_)
  refine c_region ?_
  refine tp rfl (lv_assign rfl) ?_
  refine t_done ?_
  refine q_then_n (hK1 _ _ ?_)
  refine c_seq (fun K2 hK2 => ?_)
  refine c_region ?_
  refine tp rfl (lv_move rfl) ?_
  refine tp rfl (lv_move rfl) ?_
  refine tp rfl (lv_move rfl) ?_
  refine t_f1 ?_
  refine t_f1 ?_
  refine tc rfl (en_fn Tryd.call34 rfl) (rfar_ok (N := N) (es := es) a to okl hE hg) ?_
  rintro _ _ ⟨rfl, rfl⟩
  refine tp rfl (lv_assign rfl) ?_
  refine t_done ?_
  refine q_then_n (hK2 _ _ ?_)
  refine c_seq (fun K3 hK3 => ?_)
  refine c_region ?_
  refine tm rfl (mv_buildSlice (cs := []) Tryd.underlying33 Tryd.sizeOf3 Tryd.zeroValue3 (by decide) rfl rfl rfl rfl) ?_
  rintro _ _ ⟨bs1, cp2, hok3, hle4, rfl, rfl⟩
  refine tp rfl (lv_assign rfl) ?_
  refine t_done ?_
  refine q_then_n (hK3 _ _ ?_)
  refine c_seq (fun K4 hK4 => ?_)
  refine c_seq (fun K5 hK5 => ?_)
  refine c_region ?_
  refine tp rfl (lv_move rfl) ?_
  by_cases h5 : (farV N es a to) < 0
  · -- yes
    refine tp rfl (lv_lss rfl rfl (decide_eq_true h5)) ?_
    refine t_done ?_
    refine q_then_n (hK5 _ _ ?_)
    refine c_true rfl ?_
    refine c_seq (fun K6 hK6 => ?_)
    refine c_region ?_
    refine tp rfl (lv_move rfl) ?_
    refine tp rfl (lv_assign rfl) ?_
    refine t_done ?_
    refine q_then_n (hK6 _ _ ?_)
    refine c_ret ?_
    refine q_then_r ?_
    refine q_ret rfl rfl ?_
    rw [show pathL N es a to = [] from if_neg (by rintro ⟨q1, q2, q3⟩; have := farV_yes (es := es) (valid_iff.1 q1) (valid_iff.1 q2); omega)]
    exact ⟨_, _, hok3, hle4, rfl, rfl⟩
  · -- no
    refine tp rfl (lv_lss rfl rfl (decide_eq_false h5)) ?_
    refine t_done ?_
    refine q_then_n (hK5 _ _ ?_)
    refine c_false rfl ?_
    refine c_skip ?_
    refine q_then_n (hK4 _ _ ?_)
    refine c_seq (fun K6 hK6 => ?_)
    refine c_region ?_
    have hva : valid N a = true ∧ valid N to = true := Classical.byContradiction fun hh => by have := farV_no (es := es) hh; omega
    have ha := valid_iff.1 hva.1
    have ht := valid_iff.1 hva.2
    have hfv := farV_yes (es := es) ha ht
    obtain ⟨d, hd⟩ : ∃ d : Nat, farF es to a = (d : Int) := ⟨(farF es to a).toNat, by omega⟩
    have hdl : d < 64 := by have := farF_lt hg ha ht; omega
    rw [show farV N es a to = ((d - 0 : Nat) : Int) from by omega]
    refine tp rfl (lv_move rfl) ?_
    refine tp rfl (lv_move rfl) ?_
    refine tm rfl (mv_buildSlice (cs := [(.int .i64 a)]) Tryd.underlying33 Tryd.sizeOf3 Tryd.zeroValue3 (by decide) rfl rfl rfl rfl) ?_
    rintro _ _ ⟨bs6, cp7, hok8, hle9, rfl, rfl⟩
    refine t_f1 ?_
    refine tm rfl (mv_append (i := Tryd.t3) Tryd.underlying33 Tryd.type3 rfl rfl rfl (by decide) rfl rfl hok8 (by first | (simp; done) | (simp; omega)) (rd_sl (.tail _ (.head _))) (by simp [Value.oneCell']) (by rw [show Tryd.t3.bytes = 8 from rfl]; omega)) ?_
    rintro _ _ ⟨bs10, cp11, hok12, hle13, rfl, rfl⟩
    simp only [Nat.zero_add] at hok12 hle13 ⊢
    refine tp rfl (lv_assign rfl) ?_
    refine t_done ?_
    refine q_then_n (hK6 _ _ ?_)
    refine c_seq (fun K7 hK7 => ?_)
    refine c_seq (fun K8 hK8 => ?_)
    refine c_region ?_
    refine tp rfl (lv_move rfl) ?_
    refine tp rfl (lv_assign rfl) ?_
    refine t_done ?_
    refine q_then_n (hK8 _ _ ?_)
    refine c_block ?_
    rw [show [Value.int .i64 a] = ints .i64 (pathN es to 0 a) from rfl]
    refine t_f1 ?_
    refine t_drop ?_
    refine c_loop (γ := (Nat) × (Option Addr) × (Nat)) (fun (k, bt, ct) => k ≤ d ∧ SlOk bt (k + 1) ∧ k + 1 ≤ ct) (fun (k, bt, ct) => [(0, (.pointer (some ⟨p, 0, none⟩))), (1, (.int .i64 a)), (2, (.int .i64 to)), (6, (.slice none 0 0)), (7, (.int .i64 ((d - k : Nat) : Int))), (8, (.slice bt (k + 1) ct)), (9, (.int .i64 (atN es to k a))), (19, (.bool false))]) (fun (k, bt, ct) => (SlV 3 1 (.slice bt (k + 1) ct) (k + 1) (ints .i64 (pathN es to k a))) :: (Blk p [(.int .i64 ((N : Nat) : Int)), (.slice bl es.length cl)] 52) :: (SlV 54 2 (.slice bl es.length cl) es.length (pairs es)) :: R) (fun (k, bt, ct) => d - k) (0, bs10, cp11) ⟨by omega, hok12, hle13⟩ ⟨rfl, rfl, rfl, rfl, rfl, rfl, rfl, rfl, trivial⟩ (fun _ h => h) ?_
    rintro ⟨k, bt, ct⟩ K9 hF hK9
    try dsimp only at hF hK9 ⊢
    obtain ⟨hk, hok, hle⟩ := hF
    have hat := hg.atN hd ha k hk
    have hfk := atN_far hd k hk
    have hnx : atN es to (k + 1) a = nxtF es to (atN es to k a) := rfl
    have hpn := pathN_snocs es to k a
    have hplen := pathN_len es to k a
    have houl := hg.outs_le (atN es to k a)
    refine c_seq (fun K10 hK10 => ?_)
    refine c_seq (fun K11 hK11 => ?_)
    refine c_region ?_
    refine tp rfl (lv_move rfl) ?_
    by_cases h14 : ((d - k : Nat) : Int) > 0
    · -- yes
      refine tp rfl (lv_gtr rfl rfl (decide_eq_true h14)) ?_
      refine t_done ?_
      refine q_then_n (hK11 _ _ ?_)
      refine c_true rfl ?_
      refine c_skip ?_
      refine q_then_n (hK10 _ _ ?_)
      refine c_seq (fun K12 hK12 => ?_)
      refine c_block ?_
      refine c_seq (fun K13 hK13 => ?_)
      refine c_region ?_
      have hkd : k < d := by omega
      refine tp rfl (lv_move rfl) ?_
      refine tp rfl (lv_move rfl) ?_
      refine t_f2 ?_
      refine t_f2 ?_
      refine tc rfl (en_fn Tryd.call35 rfl) (rout_ok (N := N) (es := es) (atN es to k a) okl hE) ?_
      rintro _ _ ⟨bs15, cp16, hok17, hle18, rfl, rfl⟩
      refine tp rfl (lv_assign rfl) ?_
      refine t_done ?_
      refine q_then_n (hK13 _ _ ?_)
      refine c_seq (fun K14 hK14 => ?_)
      refine c_region ?_
      refine tp rfl (lv_assign rfl) ?_
      refine t_done ?_
      refine q_then_n (hK14 _ _ ?_)
      refine c_seq (fun K15 hK15 => ?_)
      refine c_seq (fun K16 hK16 => ?_)
      refine c_region ?_
      refine tp rfl (lv_assign rfl) ?_
      refine t_done ?_
      refine q_then_n (hK16 _ _ ?_)
      refine c_block ?_
      refine c_loop (γ := (Nat) × (Int)) (fun (j, v) => j ≤ (outs es (atN es to k a)).length ∧ NxI (fun x => farF es to x == farF es to (atN es to k a) - 1) (outs es (atN es to k a)) j v) (fun (j, v) => [(0, (.pointer (some ⟨p, 0, none⟩))), (1, (.int .i64 a)), (2, (.int .i64 to)), (6, (.slice none 0 0)), (7, (.int .i64 ((d - k : Nat) : Int))), (8, (.slice bt (k + 1) ct)), (9, (.int .i64 (atN es to k a))), (10, (.slice bs15 ((outs es (atN es to k a)).length) cp16)), (11, (.int .i64 v)), (12, (.int .i64 ((j : Nat) : Int))), (19, (.bool false)), (27, (.bool true))]) (fun (j, v) => (SlV 3 1 (.slice bs15 ((outs es (atN es to k a)).length) cp16) ((outs es (atN es to k a)).length) (ints .i64 (outs es (atN es to k a)))) :: (Blk p [(.int .i64 ((N : Nat) : Int)), (.slice bl es.length cl)] 52) :: (SlV 54 2 (.slice bl es.length cl) es.length (pairs es)) :: (SlV 3 1 (.slice bt (k + 1) ct) (k + 1) (ints .i64 (pathN es to k a))) :: R) (fun (j, v) => (outs es (atN es to k a)).length - j) (0, (-1)) ⟨by omega, NxI.zero _ _⟩ ⟨rfl, rfl, rfl, rfl, rfl, rfl, rfl, rfl, rfl, rfl, rfl, rfl, trivial⟩ (fun _ h => h) ?_
      rintro ⟨j, v⟩ K17 hF hK17
      try dsimp only at hF hK17 ⊢
      obtain ⟨hj, hnx2⟩ := hF
      have hob : j < (outs es (atN es to k a)).length → _ := fun h => hg.outs_inn (a := atN es to k a) (getD_mem0 h)
      have hfo : j < (outs es (atN es to k a)).length → (farV N es ((outs es (atN es to k a)).getD j 0) to == (((d - k : Nat) : Int) - 1)) = (farF es to ((outs es (atN es to k a)).getD j 0) == farF es to (atN es to k a) - 1) := fun h => by rw [farV_yes (hob h) ht, hfk]
      refine c_seq (fun K18 hK18 => ?_)
      refine c_seq (fun K19 hK19 => ?_)
      refine c_region ?_
      refine tp rfl (lv_move rfl) ?_
      refine tp rfl (lv_move rfl) ?_
      refine tp rfl (lv_len Tryd.underlying33 rfl rfl) ?_
      by_cases h19 : ((j : Nat) : Int) < (((outs es (atN es to k a)).length : Nat) : Int)
      · -- yes
        refine tp rfl (lv_lss rfl rfl (decide_eq_true h19)) ?_
        refine t_done ?_
        refine q_then_n (hK19 _ _ ?_)
        refine c_true rfl ?_
        refine c_skip ?_
        refine q_then_n (hK18 _ _ ?_)
        refine c_seq (fun K20 hK20 => ?_)
        refine c_block ?_
        refine c_seq (fun K21 hK21 => ?_)
        refine c_region ?_
        by_cases hc20 : v < 0 ∧ (farV N es ((outs es (atN es to k a)).getD j 0) to) = (((d - k : Nat) : Int) - 1)
        · -- both
         have hc20a := hc20.1
         have hc20b := hc20.2
         refine tp rfl (lv_move rfl) ?_
         refine tp rfl (lv_lss rfl rfl (decide_eq_true hc20.1)) ?_
         refine tp rfl (lv_move rfl) ?_
         refine t_guard rfl rfl ?_
         refine tp rfl (lv_move rfl) ?_
         refine t_guard rfl rfl ?_
         refine tp rfl (lv_move rfl) ?_
         refine t_guard rfl rfl ?_
         refine tp rfl (lv_move rfl) ?_
         refine t_guard rfl rfl ?_
         refine tp rfl (lv_indexAddr (k' := j) Tryd.underlying33 Tryd.sizeOf3 rfl rfl hok17 (by omega) (by omega) (by omega)) ?_
         refine t_guard rfl rfl ?_
         refine tp rfl (lv_load Tryd.isAgg3 rfl (gives_sl (.head _) (ints_get (by omega)))) ?_
         refine t_guard rfl rfl ?_
         refine tp rfl (lv_move rfl) ?_
         refine t_guard rfl rfl ?_
         refine t_f2 ?_
         refine t_f2 ?_
         refine tc rfl (en_fn Tryd.call34 rfl) (rfar_ok (N := N) (es := es) ((outs es (atN es to k a)).getD j 0) to okl hE hg) ?_
         rintro _ _ ⟨rfl, rfl⟩
         refine t_guard rfl rfl ?_
         refine tp rfl (lv_move rfl) ?_
         refine t_guard rfl rfl ?_
         refine tp rfl (lv_sub (c := ((d - k : Nat) : Int) - 1) rfl rfl (wr_i64 (by omega) (by omega))) ?_
         refine t_guard rfl rfl ?_
         refine tp rfl (lv_eql rfl rfl (beq_iff_eq.2 hc20.2)) ?_
         refine tp rfl (lv_pick_t rfl rfl) ?_
         refine t_done ?_
         refine q_then_n (hK21 _ _ ?_)
         refine c_true rfl ?_
         refine c_region ?_
         refine tp rfl (lv_move rfl) ?_
         refine tp rfl (lv_move rfl) ?_
         refine tp rfl (lv_indexAddr (k' := j) Tryd.underlying33 Tryd.sizeOf3 rfl rfl hok17 (by omega) (by omega) (by omega)) ?_
         refine tp rfl (lv_load Tryd.isAgg3 rfl (gives_sl (.tail _ (.tail _ (.head _))) (ints_get (by omega)))) ?_
         refine tp rfl (lv_assign rfl) ?_
         refine t_done ?_
         refine q_in_n ?_
         refine q_then_n (hK20 _ _ ?_)
         refine c_region ?_
         refine tp rfl (lv_move rfl) ?_
         refine tp rfl (lv_add (c := ((j + 1 : Nat) : Int)) rfl rfl (wr_i64_succ (by omega))) ?_
         refine tp rfl (lv_assign rfl) ?_
         refine t_done ?_
         refine q_then_n ?_
         refine t_f1 ?_
         refine t_f1 ?_
         refine t_f2 ?_
         exact t_weak (by exact ⟨rfl, rfl, rfl, rfl, rfl, rfl, rfl, rfl, rfl, rfl, rfl, rfl, trivial⟩) ((hK17 (j + 1, (outs es (atN es to k a)).getD j 0) ⟨by omega, hnx2.new (fun x hx => (hg.outs_inn hx).1) (by omega) (by assumption) (by rw [← hfo (by omega)]; exact beq_iff_eq.2 (by assumption))⟩ (by dsimp only; omega)))
        · -- not both
         refine t_cut0 (E' := [(0, (.pointer (some ⟨p, 0, none⟩))), (1, (.int .i64 a)), (2, (.int .i64 to)), (6, (.slice none 0 0)), (7, (.int .i64 ((d - k : Nat) : Int))), (8, (.slice bt (k + 1) ct)), (9, (.int .i64 (atN es to k a))), (10, (.slice bs15 ((outs es (atN es to k a)).length) cp16)), (11, (.int .i64 v)), (12, (.int .i64 ((j : Nat) : Int))), (19, (.bool false)), (27, (.bool true)), (36, (.bool true)), (52, (.bool false))]) ?_ (fun KK hKK => ?_)
         ·
          refine q_then_n (hK21 _ _ ?_)
          refine c_false rfl ?_
          refine c_skip ?_
          refine q_in_n ?_
          refine q_then_n (hK20 _ _ ?_)
          refine c_region ?_
          refine tp rfl (lv_move rfl) ?_
          refine tp rfl (lv_add (c := ((j + 1 : Nat) : Int)) rfl rfl (wr_i64_succ (by omega))) ?_
          refine tp rfl (lv_assign rfl) ?_
          refine t_done ?_
          refine q_then_n ?_
          exact t_weak (by exact ⟨rfl, rfl, rfl, rfl, rfl, rfl, rfl, rfl, rfl, rfl, rfl, rfl, trivial⟩) ((hK17 (j + 1, v) ⟨by omega, hnx2.skip (fun hh => absurd (And.intro hh.1 (beq_iff_eq.1 ((hfo (by omega)).trans hh.2))) (by assumption))⟩ (by dsimp only; omega)))
         · -- which
          by_cases hc20A : v < 0
          ·
           have hc20B : ¬ ((farV N es ((outs es (atN es to k a)).getD j 0) to) = (((d - k : Nat) : Int) - 1)) := fun hh => hc20 ⟨hc20A, hh⟩
           refine tp rfl (lv_move rfl) ?_
           refine tp rfl (lv_lss rfl rfl (decide_eq_true hc20A)) ?_
           refine tp rfl (lv_move rfl) ?_
           refine t_guard rfl rfl ?_
           refine tp rfl (lv_move rfl) ?_
           refine t_guard rfl rfl ?_
           refine tp rfl (lv_move rfl) ?_
           refine t_guard rfl rfl ?_
           refine tp rfl (lv_move rfl) ?_
           refine t_guard rfl rfl ?_
           refine tp rfl (lv_indexAddr (k' := j) Tryd.underlying33 Tryd.sizeOf3 rfl rfl hok17 (by omega) (by omega) (by omega)) ?_
           refine t_guard rfl rfl ?_
           refine tp rfl (lv_load Tryd.isAgg3 rfl (gives_sl (.head _) (ints_get (by omega)))) ?_
           refine t_guard rfl rfl ?_
           refine tp rfl (lv_move rfl) ?_
           refine t_guard rfl rfl ?_
           refine t_f2 ?_
           refine t_f2 ?_
           refine tc rfl (en_fn Tryd.call34 rfl) (rfar_ok (N := N) (es := es) ((outs es (atN es to k a)).getD j 0) to okl hE hg) ?_
           rintro _ _ ⟨rfl, rfl⟩
           refine t_guard rfl rfl ?_
           refine tp rfl (lv_move rfl) ?_
           refine t_guard rfl rfl ?_
           refine tp rfl (lv_sub (c := ((d - k : Nat) : Int) - 1) rfl rfl (wr_i64 (by omega) (by omega))) ?_
           refine t_guard rfl rfl ?_
           refine tp rfl (lv_eql rfl rfl (beq_eq_false_iff_ne.2 hc20B)) ?_
           refine tp rfl (lv_pick_t rfl rfl) ?_
           refine t_f1 ?_
           refine t_f1 ?_
           refine t_f2 ?_
           exact t_done (t_weak (by exact ⟨rfl, rfl, rfl, rfl, rfl, rfl, rfl, rfl, rfl, rfl, rfl, rfl, rfl, rfl, trivial⟩) hKK)
          ·
           refine tp rfl (lv_move rfl) ?_
           refine tp rfl (lv_lss rfl rfl (decide_eq_false hc20A)) ?_
           refine tp rfl (lv_move rfl) ?_
           refine t_skip rfl rfl rfl ?_
           refine t_skip rfl rfl rfl ?_
           refine t_skip rfl rfl rfl ?_
           refine t_skip rfl rfl rfl ?_
           refine t_skip rfl rfl rfl ?_
           refine t_skip rfl rfl rfl ?_
           refine t_skip rfl rfl rfl ?_
           refine t_skip rfl rfl rfl ?_
           refine t_skip rfl rfl rfl ?_
           refine t_skip rfl rfl rfl ?_
           refine tp rfl (lv_pick_f rfl rfl) ?_
           exact t_done (t_weak (by exact ⟨rfl, rfl, rfl, rfl, rfl, rfl, rfl, rfl, rfl, rfl, rfl, rfl, rfl, rfl, trivial⟩) hKK)
      · -- no
        refine tp rfl (lv_lss rfl rfl (decide_eq_false h19)) ?_
        refine t_done ?_
        refine q_then_n (hK19 _ _ ?_)
        refine c_false rfl ?_
        refine c_exit ?_
        refine q_then_x ?_
        refine q_then_x ?_
        refine q_in_x ?_
        refine q_then_n (hK15 _ _ ?_)
        refine c_seq (fun K20 hK20 => ?_)
        refine c_region ?_
        have hvn : v = atN es to (k + 1) a := hnx2.end_ (by omega) (by omega) (nxt_any (d := d - k - 1) (by rw [hfk]; congr 1; omega))
        rw [hvn]
        refine tp rfl (lv_move rfl) ?_
        refine tp rfl (lv_assign rfl) ?_
        refine t_done ?_
        refine q_then_n (hK20 _ _ ?_)
        refine c_region ?_
        refine tp rfl (lv_move rfl) ?_
        refine tp rfl (lv_move rfl) ?_
        refine tm rfl (mv_buildSlice (cs := [(.int .i64 (atN es to (k + 1) a))]) Tryd.underlying33 Tryd.sizeOf3 Tryd.zeroValue3 (by decide) rfl rfl rfl rfl) ?_
        rintro _ _ ⟨bs21, cp22, hok23, hle24, rfl, rfl⟩
        refine t_f4 ?_
        refine tm rfl (mv_append (i := Tryd.t3) Tryd.underlying33 Tryd.type3 rfl rfl rfl (by decide) rfl rfl hok23 (by first | (simp; done) | (simp; omega)) (rd_sl (.tail _ (.head _))) (by simp [Value.oneCell']) (by rw [show Tryd.t3.bytes = 8 from rfl]; omega)) ?_
        rintro _ _ ⟨bs25, cp26, hok27, hle28, rfl, rfl⟩
        rw [show ints .i64 (pathN es to k a) ++ [(.int .i64 (atN es to (k + 1) a))] = ints .i64 ((pathN es to k a) ++ [atN es to (k + 1) a]) from ints_snoc _ _ _]
        refine tp rfl (lv_assign rfl) ?_
        refine t_done ?_
        refine q_in_n ?_
        refine q_then_n (hK12 _ _ ?_)
        refine c_region ?_
        refine tp rfl (lv_move rfl) ?_
        refine tp rfl (lv_sub (c := ((d - (k + 1) : Nat) : Int)) rfl rfl ((wr_i64 (by omega) (by omega)).trans (by omega))) ?_
        refine tp rfl (lv_assign rfl) ?_
        refine t_done ?_
        refine q_then_n ?_
        refine t_f1 ?_
        refine t_drop ?_
        refine t_f1 ?_
        refine t_drop ?_
        rw [← hpn]
        exact t_weak (by exact ⟨rfl, rfl, rfl, rfl, rfl, rfl, rfl, rfl, trivial⟩) ((hK9 (k + 1, bs25, cp26) ⟨by omega, hok27, hle28⟩ (by dsimp only; omega)))
    · -- no
      refine tp rfl (lv_gtr rfl rfl (decide_eq_false h14)) ?_
      refine t_done ?_
      refine q_then_n (hK11 _ _ ?_)
      refine c_false rfl ?_
      refine c_exit ?_
      refine q_then_x ?_
      refine q_then_x ?_
      refine q_in_x ?_
      refine q_then_n (hK7 _ _ ?_)
      refine c_seq (fun K12 hK12 => ?_)
      refine c_region ?_
      refine tp rfl (lv_move rfl) ?_
      refine tp rfl (lv_assign rfl) ?_
      refine t_done ?_
      refine q_then_n (hK12 _ _ ?_)
      refine c_ret ?_
      refine q_ret rfl rfl ?_
      have hkd : k = d := by omega
      subst hkd
      rw [show pathN es to k a = pathL N es a to from by unfold pathL; rw [if_pos ⟨hva.1, hva.2, by omega⟩, hd]; rfl]
      have hpl : (pathL N es a to).length = k + 1 := by unfold pathL; rw [if_pos ⟨hva.1, hva.2, by omega⟩, pathN_len, hd]; rfl
      rw [hpl]
      exact ⟨bt, ct, hok, hle, rfl, rfl⟩
end Go.Proofs.YtppgccafgfpkdaaDoor
