/- Contracts of cycle: On. -/
import Derived.Test.YtppgccafgfpkdaaDoorPa
set_option maxRecDepth 100000
set_option linter.unusedVariables false
set_option linter.unusedSimpArgs false
namespace Go.Proofs.YtppgccafgfpkdaaDoor
open Go Go.Proofs Sp
theorem on1_ok {R : List HP} (x a : Int) {c1 c2 g N : Nat} {E : Es} (h1 : Gives R ⟨c1, 0, none⟩ (.pointer (some ⟨g, 0, none⟩))) (h2 : Gives R ⟨c2, 0, none⟩ (.int .i64 a)) (hT : Tab R) :
    Ok Tryd.prog 37 [(.int .i64 x), (.pointer (some ⟨c1, 0, none⟩)), (.pointer (some ⟨c2, 0, none⟩))] ((GraphO g N E) :: R)
      (fun v M => v = .bool (reachB N E x a) ∧ M = GraphO g N E :: R) := by
  refine ok_of (N := 9) Tryd.func37 rfl rfl rfl (fun W => ?_)
  refine c_seq (fun K1 hK1 => ?_)
  refine c_region ?_
  refine tp rfl (lv_assign rfl) ?_
  refine t_done ?_
  refine q_then_n (hK1 _ _ ?_)
  refine c_seq (fun K2 hK2 => ?_)
  refine c_region ?_
  refine tp rfl (lv_load Tryd.isAgg24 rfl (Gives.cons h1)) ?_
  refine tp rfl (lv_move rfl) ?_
  refine tp rfl (lv_load Tryd.isAgg3 rfl (Gives.cons h2)) ?_
  refine tc rfl (en_fn Tryd.call23 rfl) (reaches_ok (N := N) (es := E) x a hT) ?_
  rintro _ _ ⟨rfl, rfl⟩
  refine tp rfl (lv_assign rfl) ?_
  refine t_done ?_
  refine q_then_n (hK2 _ _ ?_)
  refine c_ret ?_
  refine q_ret rfl rfl ?_
  exact ⟨rfl, rfl⟩

noncomputable def onK (N : Nat) (es : Es) (k : Nat) : List Int := ((List.range k).filter fun a : Nat => onB N es (a : Int)).map fun a : Nat => (a : Int)
theorem onK_yes {N : Nat} {es : Es} {k : Nat} (h : onB N es (k : Int) = true) : onK N es (k + 1) = onK N es k ++ [(k : Int)] := by
  unfold onK; rw [List.range_succ, List.filter_append, List.map_append, List.filter_cons, if_pos h]; rfl
theorem onK_no {N : Nat} {es : Es} {k : Nat} (h : onB N es (k : Int) = false) : onK N es (k + 1) = onK N es k := by
  unfold onK; rw [List.range_succ, List.filter_append, List.map_append, List.filter_cons, if_neg (by rw [h]; decide)]; simp
theorem onK_len (N : Nat) (es : Es) (k : Nat) : (onK N es k).length ≤ k := by
  unfold onK; rw [List.length_map]
  have := List.length_filter_le (fun a : Nat => onB N es (a : Int)) (List.range k)
  simpa using this

set_option maxHeartbeats 4000000 in
theorem on_ok {R : List HP} {g N : Nat} {E : Es} (hT : Tab R) :
    Ok Tryd.prog 19 [(.pointer (some ⟨g, 0, none⟩))] ((GraphO g N E) :: R)
      (OutSl 3 1 ((onL N E).length) (ints .i64 (onL N E)) (GraphO g N E :: R)) := by
  refine ok_of (N := 20) Tryd.func19 rfl rfl rfl (fun W => ?_)
  refine t_learn (fun _ h => gok_of h) (fun hgok => ?_)
  have hsmall := hgok.small
  refine c_seq (fun K1 hK1 => ?_)
  refine c_region ?_
  refine tm rfl (mv_box rfl rfl) ?_
  rintro _ _ ⟨b1, rfl, rfl⟩
  refine tp rfl (lv_assign rfl) ?_
  refine t_done ?_
  refine q_then_n (hK1 _ _ ?_)
  refine c_seq (fun K2 hK2 => ?_)
  refine c_seq (fun K3 hK3 => ?_)
  refine c_region ?_
  refine tp rfl (lv_load Tryd.isAgg24 rfl (gives_blk (.head _) rfl)) ?_
  refine t_f1 ?_
  refine tc rfl (en_fn Tryd.call21 rfl) (n_ok) ?_
  rintro _ _ ⟨rfl, rfl⟩
  refine tp rfl (lv_move rfl) ?_
  refine t_done ?_
  refine q_then_n (hK3 _ _ ?_)
  refine c_block ?_
  refine t_sat (fun _ h => sat_nilsl 3 1 h) ?_
  refine c_loop (γ := (Nat) × (Option Addr) × (Nat)) (fun (k, bt, ct) => k ≤ N ∧ SlOk bt (onK N E k).length ∧ (onK N E k).length ≤ ct) (fun (k, bt, ct) => [(0, (.pointer (some ⟨g, 0, none⟩))), (1, (.pointer (some ⟨b1, 0, none⟩))), (2, (.slice bt ((onK N E k).length) ct)), (5, (.int .i64 ((N : Nat) : Int))), (6, (.int .i64 ((k : Nat) : Int)))]) (fun (k, bt, ct) => (SlV 3 1 (.slice bt ((onK N E k).length) ct) ((onK N E k).length) (ints .i64 (onK N E k))) :: (GraphO g N E) :: (Blk b1 [(.pointer (some ⟨g, 0, none⟩))] 24) :: R) (fun (k, bt, ct) => N - k) (0, none, 0) ⟨by omega, slok_none, Nat.le_refl _⟩ ⟨rfl, rfl, rfl, rfl, rfl, trivial⟩ (fun _ h => h) ?_
  rintro ⟨k, bt, ct⟩ K4 hF hK4
  try dsimp only at hF hK4 ⊢
  obtain ⟨hk, hok, hle⟩ := hF
  have hol := onK_len N E k
  have houl := hgok.outs_le ((k : Nat) : Int)
  refine c_seq (fun K5 hK5 => ?_)
  refine c_region ?_
  by_cases h2 : ((k : Nat) : Int) < ((N : Nat) : Int)
  · -- yes
    refine tp rfl (lv_lss rfl rfl (decide_eq_true h2)) ?_
    refine t_done ?_
    refine q_then_n (hK5 _ _ ?_)
    refine c_seq (fun K6 hK6 => ?_)
    refine c_true rfl ?_
    refine c_skip ?_
    refine q_then_n (hK6 _ _ ?_)
    refine c_seq (fun K7 hK7 => ?_)
    refine c_block ?_
    refine c_seq (fun K8 hK8 => ?_)
    refine c_region ?_
    refine tp rfl (lv_move rfl) ?_
    refine tm rfl (mv_alloc Tryd.zeroValue3 rfl) ?_
    rintro _ _ ⟨b3, rfl, rfl⟩
    refine ts (sv_blk Tryd.sizeOf3 rfl rfl rfl (Nat.le_of_ble_eq_true rfl) rfl) ?_
    refine t_done ?_
    refine q_then_n (hK8 _ _ ?_)
    refine c_seq (fun K9 hK9 => ?_)
    refine c_region ?_
    refine tp rfl (lv_load Tryd.isAgg24 rfl (gives_blk (.tail _ (.tail _ (.tail _ (.head _)))) rfl)) ?_
    refine tp rfl (lv_load Tryd.isAgg3 rfl (gives_blk (.head _) rfl)) ?_
    refine t_f2 ?_
    refine tc rfl (en_fn Tryd.call22 rfl) (out_ok (N := N) (es := E) ((k : Nat) : Int)) ?_
    rintro _ _ ⟨bs4, cp5, hok6, hle7, rfl, rfl⟩
    refine tp rfl (lv_makeFunc rfl) ?_
    refine t_f1 ?_
    refine tc rfl (en_fn Tryd.call36 rfl) (containsFunc_ok (p := fun b => reachB N E b ((k : Nat) : Int)) (outs E ((k : Nat) : Int)) ⟨Tryd.call37, fun x _ => on1_ok x ((k : Nat) : Int) (gives_blk (.tail _ (.tail _ (.tail _ (.head _)))) rfl) (gives_blk (.tail _ (.head _)) rfl) (Tab.cons (Tab.cons (Tab.cons (Tab.cons hT))))⟩ (rd_sl (.tail _ (.head _))) hok6 (by first | omega | (simp; omega) | (simp; done))) ?_
    rintro _ _ ⟨rfl, rfl⟩
    refine t_done ?_
    refine q_then_n (hK9 _ _ ?_)
    refine c_split rfl (fun c8 => ?_) (fun c8 => ?_)
    · -- true
      refine c_region ?_
      refine tp rfl (lv_move rfl) ?_
      refine tp rfl (lv_load Tryd.isAgg3 rfl (gives_blk (.tail _ (.tail _ (.head _))) rfl)) ?_
      refine tm rfl (mv_buildSlice (cs := [(.int .i64 ((k : Nat) : Int))]) Tryd.underlying33 Tryd.sizeOf3 Tryd.zeroValue3 (by decide) rfl rfl rfl rfl) ?_
      rintro _ _ ⟨bs9, cp10, hok11, hle12, rfl, rfl⟩
      refine t_f4 ?_
      refine tm rfl (mv_append (i := Tryd.t3) Tryd.underlying33 Tryd.type3 rfl rfl rfl (by decide) rfl rfl hok11 (by first | (simp; done) | (simp; omega)) (rd_sl (.tail _ (.head _))) (by simp [Value.oneCell']) (by rw [show Tryd.t3.bytes = 8 from rfl]; omega)) ?_
      rintro _ _ ⟨bs13, cp14, hok15, hle16, rfl, rfl⟩
      rw [show ints .i64 (onK N E k) ++ [(.int .i64 ((k : Nat) : Int))] = ints .i64 ((onK N E k) ++ [((k : Nat) : Int)]) from ints_snoc _ _ _]
      rw [show ((onK N E k).length) + 1 = (onK N E k ++ [((k : Nat) : Int)]).length from by simp] at hok15 hle16 ⊢
      refine tp rfl (lv_assign rfl) ?_
      refine t_done ?_
      refine q_in_n ?_
      refine q_then_n (hK7 _ _ ?_)
      refine c_region ?_
      refine tp rfl (lv_add (c := ((k + 1 : Nat) : Int)) rfl rfl (wr_i64_succ (by omega))) ?_
      refine tp rfl (lv_move rfl) ?_
      refine t_done ?_
      refine q_then_n ?_
      refine t_f1 ?_
      refine t_drop ?_
      refine t_f2 ?_
      refine t_drop ?_
      refine t_f2 ?_
      refine t_drop ?_
      rw [← onK_yes (show onB N E ((k : Nat) : Int) = true from c8)] at hok15 hle16 ⊢
      exact t_weak (by exact ⟨rfl, rfl, rfl, rfl, rfl, trivial⟩) ((hK4 (k + 1, bs13, cp14) ⟨by omega, hok15, hle16⟩ (by dsimp only; omega)))
    · -- false
      refine c_skip ?_
      refine q_in_n ?_
      refine q_then_n (hK7 _ _ ?_)
      refine c_region ?_
      refine tp rfl (lv_add (c := ((k + 1 : Nat) : Int)) rfl rfl (wr_i64_succ (by omega))) ?_
      refine tp rfl (lv_move rfl) ?_
      refine t_done ?_
      refine q_then_n ?_
      refine t_f1 ?_
      refine t_drop ?_
      refine t_f1 ?_
      refine t_drop ?_
      refine t_f1 ?_
      rw [← onK_no (show onB N E ((k : Nat) : Int) = false from c8)] at hok hle ⊢
      exact t_weak (by exact ⟨rfl, rfl, rfl, rfl, rfl, trivial⟩) ((hK4 (k + 1, bt, ct) ⟨by omega, hok, hle⟩ (by dsimp only; omega)))
  · -- no
    refine tp rfl (lv_lss rfl rfl (decide_eq_false h2)) ?_
    refine t_done ?_
    refine q_then_n (hK5 _ _ ?_)
    refine c_seq (fun K6 hK6 => ?_)
    refine c_false rfl ?_
    refine c_exit ?_
    refine q_then_x ?_
    refine q_then_x ?_
    refine q_in_x ?_
    refine q_then_n (hK2 _ _ ?_)
    refine c_seq (fun K7 hK7 => ?_)
    refine c_region ?_
    refine tp rfl (lv_move rfl) ?_
    refine tp rfl (lv_assign rfl) ?_
    refine t_done ?_
    refine q_then_n (hK7 _ _ ?_)
    refine c_ret ?_
    refine t_f2 ?_
    refine t_drop ?_
    refine q_ret rfl rfl ?_
    have e : k = N := by omega
    subst e
    rw [show onK k E k = onL k E from rfl] at hok hle ⊢
    exact ⟨bt, ct, hok, hle, rfl, rfl⟩
end Go.Proofs.YtppgccafgfpkdaaDoor
