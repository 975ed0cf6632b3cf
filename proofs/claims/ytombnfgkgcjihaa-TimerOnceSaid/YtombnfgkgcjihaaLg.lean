/- TimerOnce: the law's walk. -/
import Derived.Test.YtombnfgkgcjihaaLa
import Derived.Test.YtombnfgkgcjihaaTm3
set_option maxRecDepth 100000
set_option linter.unusedVariables false
set_option linter.unusedSimpArgs false
namespace Go.Proofs.Ytombnfgkgcjihaa
open Go Go.Proofs Sp
set_option maxHeartbeats 40000000 in
theorem once_law {R : List HP} {btb : Option Addr} {ctb : Nat} (times : List Int) (htb : Rd R btb (ints .u8 times)) (oktb : SlOk btb times.length) (ltb : times.length ≤ 9223372036854775807) (wftb : ∀ x ∈ times, (Lit.int .u8 x).wf = true) {bsb : Option Addr} {csb : Nat} (stop : List Bool) (hsb : Rd R bsb (bools stop)) (oksb : SlOk bsb stop.length) (lsb : stop.length ≤ 9223372036854775807) (sp : Int) :
    Ok Try.prog 3 [(.slice btb times.length ctb), (.slice bsb stop.length csb), (.int .i64 sp)] R
      (fun v M => v = .bool true ∧ M = R) := by
 obtain ⟨n, hn⟩ : ∃ n, n = min times.length 100 := ⟨_, rfl⟩
 have hcm : hclamp ((n : Nat) : Int) = n := by unfold hclamp; omega
 obtain ⟨s0, hs0⟩ : ∃ m : Nat, sp % 65536 % 9 = (m : Int) := ⟨(sp % 65536 % 9).toNat, by omega⟩
 obtain ⟨s, hs⟩ : ∃ s : Nat, s = s0 + 1 := ⟨_, rfl⟩
 have hs2 : 1 ≤ s ∧ s ≤ 9 := by omega
 refine ok_of (N := 187) Try.func3 rfl rfl rfl (fun W => ?_)
 refine c_seq (fun K1 hK1 => ?_)
 refine c_region ?_
 refine tp rfl (lv_assign rfl) ?_
 refine t_done ?_
 refine q_then_n (hK1 _ _ ?_)
 refine c_seq (fun K2 hK2 => ?_)
 refine c_region ?_
 refine tc rfl (en_fn Try.call10 rfl) (shown_ok) ?_
 rintro _ _ ⟨rfl, hMR⟩
 rw [hMR]; clear hMR
 refine tp rfl (lv_assign rfl) ?_
 refine t_done ?_
 refine q_then_n (hK2 _ _ ?_)
 refine c_seq (fun K3 hK3 => ?_)
 refine c_region ?_
 refine tp rfl (lv_move rfl) ?_
 refine tp rfl (lv_len Try.underlying22 rfl rfl) ?_
 refine tp rfl (lv_min (c := ((n : Nat) : Int)) rfl rfl (by omega)) ?_
 refine tp rfl (lv_assign rfl) ?_
 refine t_done ?_
 refine q_then_n (hK3 _ _ ?_)
 refine c_seq (fun K4 hK4 => ?_)
 refine c_region ?_
 refine tp rfl (lv_move rfl) ?_
 refine tp rfl (lv_and (c := sp % 65536) rfl rfl (and_pow 16 (by decide) sp)) ?_
 refine tp rfl (lv_rem (c := ((s0 : Nat) : Int)) rfl rfl (by omega) ((Int.tmod_eq_emod_of_nonneg (by omega)).trans hs0)) ?_
 refine tp rfl (lv_add (c := ((s : Nat) : Int)) rfl rfl ((wr_i64 (by omega) (by omega)).trans (by omega))) ?_
 refine tp rfl (lv_assign rfl) ?_
 refine t_done ?_
 refine q_then_n (hK4 _ _ ?_)
 refine c_seq (fun K5 hK5 => ?_)
 refine c_region ?_
 refine tp rfl (lv_move rfl) ?_
 refine tc rfl (en_fn Try.call11 rfl) (tnew_ok ((n : Nat) : Int)) ?_
 rintro _ _ ⟨p1, q2, rfl, rfl⟩
 rw [show hclamp ((n : Nat) : Int) = n from hcm]
 refine tp rfl (lv_assign rfl) ?_
 refine t_done ?_
 refine q_then_n (hK5 _ _ ?_)
 refine c_seq (fun K6 hK6 => ?_)
 refine c_seq (fun K7 hK7 => ?_)
 refine c_region ?_
 refine tp rfl (lv_move rfl) ?_
 refine tp rfl (lv_eqnil Try.underlying25 rfl rfl) ?_
 refine t_done ?_
 refine q_then_n (hK7 _ _ ?_)
 refine c_false rfl ?_
 refine c_skip ?_
 refine q_then_n (hK6 _ _ ?_)
 refine c_seq (fun K8 hK8 => ?_)
 refine c_region ?_
 refine tp rfl (lv_assign rfl) ?_
 refine t_done ?_
 refine q_then_n (hK8 _ _ ?_)
 refine c_seq (fun K9 hK9 => ?_)
 refine c_seq (fun K10 hK10 => ?_)
 refine c_region ?_
 refine tp rfl (lv_assign rfl) ?_
 refine t_done ?_
 refine q_then_n (hK10 _ _ ?_)
 refine c_block ?_
 rw [show List.replicate (n) none = selI (tmL times) stop n 0 from selI_zero ..]
 refine c_loop (γ := (Nat) × (Int)) (fun (i, left) => i ≤ n ∧ left = ((cntK (selI (tmL times) stop n i) : Nat) : Int)) (fun (i, left) => [(0, (.slice btb times.length ctb)), (1, (.slice bsb stop.length csb)), (2, (.int .i64 ((s : Nat) : Int))), (7, (.bool true)), (8, (.int .i64 ((n : Nat) : Int))), (9, (.pointer (some ⟨p1, 0, none⟩))), (10, (.int .i64 left)), (11, (.int .i64 ((i : Nat) : Int))), (27, (.bool false))]) (fun (i, left) => (Blk p1 [(.pointer (some ⟨q2, 0, none⟩))] 37) :: (HeapO q2 n (selI (tmL times) stop n i)) :: R) (fun (i, left) => n - i) (0, 0) ⟨by omega, by rw [← selI_zero, cnt_rep]; rfl⟩ ⟨rfl, rfl, rfl, rfl, rfl, rfl, rfl, rfl, rfl, trivial⟩ (fun _ h => h) ?_
 rintro ⟨i, left⟩ K11 hF hK11
 try dsimp only at hF hK11 ⊢
 obtain ⟨hi, hlf⟩ := hF
 have hcl0 := cnt_le (selI (tmL times) stop n i)
 rw [selI_len] at hcl0
 refine c_seq (fun K12 hK12 => ?_)
 refine c_seq (fun K13 hK13 => ?_)
 refine c_region ?_
 refine tp rfl (lv_move rfl) ?_
 refine tp rfl (lv_move rfl) ?_
 by_cases h3 : ((i : Nat) : Int) < ((n : Nat) : Int)
 · -- yes
  refine tp rfl (lv_lss rfl rfl (decide_eq_true h3)) ?_
  refine t_done ?_
  refine q_then_n (hK13 _ _ ?_)
  refine c_true rfl ?_
  refine c_skip ?_
  refine q_then_n (hK12 _ _ ?_)
  refine c_seq (fun K14 hK14 => ?_)
  refine c_block ?_
  refine c_seq (fun K15 hK15 => ?_)
  refine c_seq (fun K16 hK16 => ?_)
  refine c_region ?_
  have hwtb : 0 ≤ times.getD i 0 ∧ times.getD i 0 ≤ 255 := by have h9 := wftb (times.getD i 0) (by simp [List.getD, show i < times.length by omega]); simpa [Lit.wf, IntKind.min, IntKind.max, IntKind.signed, IntKind.bits] using h9
  have htm := tmL_get (l := times) (i := i) (by omega)
  have hos := once_set (keys := tmL times) (gone := stop) (n := n) (i := i) (by omega) 1000 ((tmL times).getD i 0)
  refine tp rfl (lv_move rfl) ?_
  refine tp rfl (lv_move rfl) ?_
  refine t_f1 ?_
  refine t_f1 ?_
  refine tc rfl (en_fn Try.call12 rfl) (tset_ok (n := n) (ks := selI (tmL times) stop n i) ((i : Nat) : Int) 1000) ?_
  rintro _ _ ⟨rfl, rfl⟩
  rw [show pushE (remK (selI (tmL times) stop n i) ((i : Nat) : Int)) ((i : Nat) : Int) = 0 from hos.1]
  refine tp rfl (lv_neq (r := false) rfl rfl (by decide)) ?_
  refine tp rfl (lv_move rfl) ?_
  refine t_guard rfl rfl ?_
  refine tp rfl (lv_move rfl) ?_
  refine t_guard rfl rfl ?_
  refine tp rfl (lv_move rfl) ?_
  refine t_guard rfl rfl ?_
  refine tp rfl (lv_move rfl) ?_
  refine t_guard rfl rfl ?_
  refine tp rfl (lv_move rfl) ?_
  refine t_guard rfl rfl ?_
  refine tp rfl (lv_indexAddr (k' := i) Try.underlying22 Try.sizeOf5 rfl rfl oktb (by omega) (by omega) (by omega)) ?_
  refine t_guard rfl rfl ?_
  refine tp rfl (lv_load Try.isAgg5 rfl (Rd.gives (Rd.cons (Rd.cons htb)) (ints_get (by omega)))) ?_
  refine t_guard rfl rfl ?_
  refine tp rfl (lv_convert (c := (times).getD i 0) Try.underlying5 Try.underlying3 rfl (wr_i64 (by omega) (by omega))) ?_
  refine t_guard rfl rfl ?_
  refine tp rfl (lv_rem (c := (tmL times).getD i 0) rfl rfl (by omega) ((Int.tmod_eq_emod_of_nonneg (by omega)).trans htm.symm)) ?_
  refine t_guard rfl rfl ?_
  refine t_f1 ?_
  refine t_f1 ?_
  refine tc rfl (en_fn Try.call12 rfl) (tset_ok (n := n) (ks := pushK (remK (selI (tmL times) stop n i) ((i : Nat) : Int)) ((i : Nat) : Int) 1000) ((i : Nat) : Int) ((tmL times).getD i 0)) ?_
  rintro _ _ ⟨rfl, rfl⟩
  rw [show pushE (remK (pushK (remK (selI (tmL times) stop n i) ((i : Nat) : Int)) ((i : Nat) : Int) 1000) ((i : Nat) : Int)) ((i : Nat) : Int) = 0 from hos.2.1]
  rw [show pushK (remK (pushK (remK (selI (tmL times) stop n i) ((i : Nat) : Int)) ((i : Nat) : Int) 1000) ((i : Nat) : Int)) ((i : Nat) : Int) ((tmL times).getD i 0) = (selI (tmL times) stop n i).set i (some ((tmL times).getD i 0)) from hos.2.2]
  refine t_guard rfl rfl ?_
  refine tp rfl (lv_neq (r := false) rfl rfl (by decide)) ?_
  refine tp rfl (lv_pick_f rfl rfl) ?_
  refine t_done ?_
  refine q_then_n (hK16 _ _ ?_)
  refine c_false rfl ?_
  refine c_skip ?_
  refine q_then_n (hK15 _ _ ?_)
  refine c_seq (fun K17 hK17 => ?_)
  refine c_region ?_
  refine tp rfl (lv_move rfl) ?_
  refine tp rfl (lv_add (c := left + 1) rfl rfl (wr_i64 (by omega) (by omega))) ?_
  refine tp rfl (lv_assign rfl) ?_
  refine t_done ?_
  refine q_then_n (hK17 _ _ ?_)
  refine c_seq (fun K18 hK18 => ?_)
  refine c_region ?_
  refine tp rfl (lv_move rfl) ?_
  refine tp rfl (lv_move rfl) ?_
  refine tp rfl (lv_len Try.underlying23 rfl rfl) ?_
  by_cases h4 : ((i : Nat) : Int) < ((stop.length : Nat) : Int)
  · -- yes
   refine tp rfl (lv_lss rfl rfl (decide_eq_true h4)) ?_
   refine tp rfl (lv_move rfl) ?_
   refine t_guard rfl rfl ?_
   refine tp rfl (lv_move rfl) ?_
   refine t_guard rfl rfl ?_
   refine tp rfl (lv_move rfl) ?_
   refine t_guard rfl rfl ?_
   refine tp rfl (lv_indexAddr (k' := i) Try.underlying23 Try.sizeOf4 rfl rfl oksb (by omega) (by omega) (by omega)) ?_
   refine t_guard rfl rfl ?_
   refine tp rfl (lv_load Try.isAgg4 rfl (Rd.gives (Rd.cons (Rd.cons hsb)) (bools_get (by omega)))) ?_
   refine tp rfl (lv_pick_t rfl rfl) ?_
   refine t_done ?_
   refine q_then_n (hK18 _ _ ?_)
   refine c_split rfl (fun c5 => ?_) (fun c5 => ?_)
   · -- true
    refine c_seq (fun K19 hK19 => ?_)
    refine c_seq (fun K20 hK20 => ?_)
    refine c_region ?_
    have hst : stop.getD i false = true := by assumption
    have hon := once_stop (keys := tmL times) (gone := stop) (n := n) (i := i) (by omega) hst ((tmL times).getD i 0)
    refine tp rfl (lv_move rfl) ?_
    refine tp rfl (lv_move rfl) ?_
    refine t_f1 ?_
    refine t_f1 ?_
    refine tc rfl (en_fn Try.call13 rfl) (tstop_ok (n := n) (ks := (selI (tmL times) stop n i).set i (some ((tmL times).getD i 0))) ((i : Nat) : Int)) ?_
    rintro _ _ ⟨rfl, rfl⟩
    rw [show stopB ((selI (tmL times) stop n i).set i (some ((tmL times).getD i 0))) ((i : Nat) : Int) = true from hon.1]
    rw [show remK ((selI (tmL times) stop n i).set i (some ((tmL times).getD i 0))) ((i : Nat) : Int) = selI (tmL times) stop n (i + 1) from hon.2.1]
    refine tp rfl (lv_not (c := false) rfl rfl) ?_
    refine tp rfl (lv_move rfl) ?_
    refine t_guard rfl rfl ?_
    refine tp rfl (lv_move rfl) ?_
    refine t_guard rfl rfl ?_
    refine tp rfl (lv_move rfl) ?_
    refine t_guard rfl rfl ?_
    refine t_f1 ?_
    refine t_f1 ?_
    refine tc rfl (en_fn Try.call13 rfl) (tstop_ok (n := n) (ks := selI (tmL times) stop n (i + 1)) ((i : Nat) : Int)) ?_
    rintro _ _ ⟨rfl, rfl⟩
    rw [show stopB (selI (tmL times) stop n (i + 1)) ((i : Nat) : Int) = false from hon.2.2.1]
    rw [show remK (selI (tmL times) stop n (i + 1)) ((i : Nat) : Int) = selI (tmL times) stop n (i + 1) from hon.2.2.2]
    refine tp rfl (lv_pick_f rfl rfl) ?_
    refine t_done ?_
    refine q_then_n (hK20 _ _ ?_)
    refine c_false rfl ?_
    refine c_skip ?_
    refine q_then_n (hK19 _ _ ?_)
    refine c_region ?_
    refine tp rfl (lv_move rfl) ?_
    refine tp rfl (lv_sub (c := (left + 1) - 1) rfl rfl (wr_i64 (by omega) (by omega))) ?_
    refine tp rfl (lv_assign rfl) ?_
    refine t_done ?_
    refine q_in_n ?_
    refine q_then_n (hK14 _ _ ?_)
    refine c_region ?_
    refine tp rfl (lv_move rfl) ?_
    refine tp rfl (lv_add (c := ((i + 1 : Nat) : Int)) rfl rfl (wr_i64_succ (by omega))) ?_
    refine tp rfl (lv_assign rfl) ?_
    refine t_done ?_
    refine q_then_n ?_
    exact t_weak (by exact ⟨rfl, rfl, rfl, rfl, rfl, rfl, rfl, rfl, rfl, trivial⟩) ((hK11 (i + 1, (left + 1) - 1) ⟨by omega, by dsimp only; first | (have h9 := hkp.2; omega) | (rw [selI_skip hst]; omega)⟩ (by dsimp only; omega)))
   · -- false
    refine c_skip ?_
    refine q_in_n ?_
    refine q_then_n (hK14 _ _ ?_)
    refine c_region ?_
    refine tp rfl (lv_move rfl) ?_
    refine tp rfl (lv_add (c := ((i + 1 : Nat) : Int)) rfl rfl (wr_i64_succ (by omega))) ?_
    refine tp rfl (lv_assign rfl) ?_
    refine t_done ?_
    refine q_then_n ?_
    have hsf : stop.getD i false = false := by first | assumption | exact getDb_out (by omega)
    have hkp := once_keep (keys := tmL times) (gone := stop) (n := n) (i := i) (by omega) hsf
    rw [hkp.1]
    exact t_weak (by exact ⟨rfl, rfl, rfl, rfl, rfl, rfl, rfl, rfl, rfl, trivial⟩) ((hK11 (i + 1, left + 1) ⟨by omega, by dsimp only; first | (have h9 := hkp.2; omega) | (rw [selI_skip hst]; omega)⟩ (by dsimp only; omega)))
  · -- no
   refine tp rfl (lv_lss rfl rfl (decide_eq_false h4)) ?_
   refine tp rfl (lv_move rfl) ?_
   refine t_skip rfl rfl rfl ?_
   refine t_skip rfl rfl rfl ?_
   refine t_skip rfl rfl rfl ?_
   refine t_skip rfl rfl rfl ?_
   refine tp rfl (lv_pick_f rfl rfl) ?_
   refine t_done ?_
   refine q_then_n (hK18 _ _ ?_)
   refine c_false rfl ?_
   refine c_skip ?_
   refine q_in_n ?_
   refine q_then_n (hK14 _ _ ?_)
   refine c_region ?_
   refine tp rfl (lv_move rfl) ?_
   refine tp rfl (lv_add (c := ((i + 1 : Nat) : Int)) rfl rfl (wr_i64_succ (by omega))) ?_
   refine tp rfl (lv_assign rfl) ?_
   refine t_done ?_
   refine q_then_n ?_
   have hsf : stop.getD i false = false := by first | assumption | exact getDb_out (by omega)
   have hkp := once_keep (keys := tmL times) (gone := stop) (n := n) (i := i) (by omega) hsf
   rw [hkp.1]
   exact t_weak (by exact ⟨rfl, rfl, rfl, rfl, rfl, rfl, rfl, rfl, rfl, trivial⟩) ((hK11 (i + 1, left + 1) ⟨by omega, by dsimp only; first | (have h9 := hkp.2; omega) | (rw [selI_skip hst]; omega)⟩ (by dsimp only; omega)))
 · -- no
  refine tp rfl (lv_lss rfl rfl (decide_eq_false h3)) ?_
  refine t_done ?_
  refine q_then_n (hK13 _ _ ?_)
  refine c_false rfl ?_
  refine c_exit ?_
  refine q_then_x ?_
  refine q_then_x ?_
  refine q_in_x ?_
  refine q_then_n (hK9 _ _ ?_)
  refine c_seq (fun K14 hK14 => ?_)
  refine c_seq (fun K15 hK15 => ?_)
  refine c_region ?_
  rw [show selI (tmL times) stop n i = selI (tmL times) stop n n from by rw [show i = n by omega]]
  have hcl1 := cnt_le (selI (tmL times) stop n n)
  rw [selI_len] at hcl1
  have hlf1 : left = ((cntK (selI (tmL times) stop n n) : Nat) : Int) := by rw [hlf, show i = n by omega]
  refine tp rfl (lv_assign rfl) ?_
  refine t_done ?_
  refine q_then_n (hK15 _ _ ?_)
  refine c_block ?_
  refine c_loop (γ := (Nat) × (Ks) × (Int)) (fun (nw, ks, lf) => nw ≤ 240 ∧ lf = ((cntK ks : Nat) : Int) ∧ cntK ks ≤ n ∧ (∀ (x : Nat) (k : Int), ks.getD x none = some k → x < n ∧ stop.getD x false = false ∧ (tmL times).getD x 0 = k ∧ (nw : Int) - (s : Int) < k)) (fun (nw, ks, lf) => [(0, (.slice btb times.length ctb)), (1, (.slice bsb stop.length csb)), (2, (.int .i64 ((s : Nat) : Int))), (7, (.bool true)), (8, (.int .i64 ((n : Nat) : Int))), (9, (.pointer (some ⟨p1, 0, none⟩))), (10, (.int .i64 lf)), (11, (.int .i64 ((i : Nat) : Int))), (12, (.int .i64 ((nw : Nat) : Int))), (27, (.bool false)), (30, (.bool false))]) (fun (nw, ks, lf) => (Blk p1 [(.pointer (some ⟨q2, 0, none⟩))] 37) :: (HeapO q2 n ks) :: R) (fun (nw, ks, lf) => 240 - nw) (0, selI (tmL times) stop n n, left) ⟨by omega, hlf1, hcl1, fun x k e => by have h8 := selI_at e; have h9 := tmL_get (l := times) (i := x) (by omega); exact ⟨h8.1, h8.2.1, h8.2.2, by omega⟩⟩ ⟨rfl, rfl, rfl, rfl, rfl, rfl, rfl, rfl, rfl, rfl, rfl, trivial⟩ (fun _ h => h) ?_
  rintro ⟨nw, ks, lf⟩ K16 hF hK16
  try dsimp only at hF hK16 ⊢
  obtain ⟨hnw, hlf2, hcn, hinv⟩ := hF
  refine c_seq (fun K17 hK17 => ?_)
  refine c_seq (fun K18 hK18 => ?_)
  refine c_region ?_
  refine tp rfl (lv_move rfl) ?_
  refine tp rfl (lv_move rfl) ?_
  refine tp rfl (lv_add (c := 200 + ((s : Nat) : Int)) rfl rfl (wr_i64 (by omega) (by omega))) ?_
  by_cases h6 : ((nw : Nat) : Int) < (200 + ((s : Nat) : Int))
  · -- yes
   refine tp rfl (lv_lss rfl rfl (decide_eq_true h6)) ?_
   refine t_done ?_
   refine q_then_n (hK18 _ _ ?_)
   refine c_true rfl ?_
   refine c_skip ?_
   refine q_then_n (hK17 _ _ ?_)
   refine c_seq (fun K19 hK19 => ?_)
   refine c_block ?_
   refine c_seq (fun K20 hK20 => ?_)
   refine c_region ?_
   refine tp rfl (lv_move rfl) ?_
   refine tp rfl (lv_move rfl) ?_
   refine t_f1 ?_
   refine t_f1 ?_
   refine tc rfl (en_fn Try.call14 rfl) (tdue_ok (n := n) (ks := ks) ((nw : Nat) : Int)) ?_
   rintro _ _ ⟨bs7, cp8, hok9, hle10, rfl, rfl⟩
   refine tp rfl (lv_assign rfl) ?_
   refine t_done ?_
   refine q_then_n (hK20 _ _ ?_)
   refine c_seq (fun K21 hK21 => ?_)
   refine c_seq (fun K22 hK22 => ?_)
   refine c_region ?_
   have hdc := due_cnt ks ((nw : Nat) : Int)
   have hdo := due_ok ks ((nw : Nat) : Int)
   refine tp rfl (lv_assign rfl) ?_
   refine t_done ?_
   refine q_then_n (hK22 _ _ ?_)
   refine c_block ?_
   refine c_loop (γ := (Nat)) (fun (i2 : Nat) => i2 ≤ (dueL ks ((nw : Nat) : Int)).length) (fun (i2 : Nat) => [(0, (.slice btb times.length ctb)), (1, (.slice bsb stop.length csb)), (2, (.int .i64 ((s : Nat) : Int))), (7, (.bool true)), (8, (.int .i64 ((n : Nat) : Int))), (9, (.pointer (some ⟨p1, 0, none⟩))), (10, (.int .i64 lf)), (11, (.int .i64 ((i : Nat) : Int))), (12, (.int .i64 ((nw : Nat) : Int))), (13, (.slice bs7 ((dueL ks ((nw : Nat) : Int)).length) cp8)), (14, (.int .i64 ((i2 : Nat) : Int))), (27, (.bool false)), (30, (.bool false)), (75, (.bool true))]) (fun (i2 : Nat) => (SlV 3 1 (.slice bs7 ((dueL ks ((nw : Nat) : Int)).length) cp8) ((dueL ks ((nw : Nat) : Int)).length) (ints .i64 (dueL ks ((nw : Nat) : Int)))) :: (Blk p1 [(.pointer (some ⟨q2, 0, none⟩))] 37) :: (HeapO q2 n (duR ks ((nw : Nat) : Int))) :: R) (fun (i2 : Nat) => (dueL ks ((nw : Nat) : Int)).length - i2) (0) (by omega) ⟨rfl, rfl, rfl, rfl, rfl, rfl, rfl, rfl, rfl, rfl, rfl, rfl, rfl, rfl, trivial⟩ (fun _ h => h) ?_
   rintro i2 K23 hF hK23
   try dsimp only at hF hK23 ⊢
   obtain hi2 := hF
   refine c_seq (fun K24 hK24 => ?_)
   refine c_seq (fun K25 hK25 => ?_)
   refine c_region ?_
   refine tp rfl (lv_move rfl) ?_
   refine tp rfl (lv_move rfl) ?_
   refine tp rfl (lv_len Try.underlying30 rfl rfl) ?_
   by_cases h11 : ((i2 : Nat) : Int) < (((dueL ks ((nw : Nat) : Int)).length : Nat) : Int)
   · -- yes
    refine tp rfl (lv_lss rfl rfl (decide_eq_true h11)) ?_
    refine t_done ?_
    refine q_then_n (hK25 _ _ ?_)
    refine c_true rfl ?_
    refine c_skip ?_
    refine q_then_n (hK24 _ _ ?_)
    refine c_seq (fun K26 hK26 => ?_)
    refine c_block ?_
    refine c_seq (fun K27 hK27 => ?_)
    refine c_region ?_
    obtain ⟨x1, k1, hx1, hk1, hle1⟩ := hdo.at_ i2 (by omega)
    obtain ⟨hn1, hg1, hv1, hw1⟩ := hinv _ _ hk1
    obtain ⟨x0, k0, hx0, hk0, hle0⟩ := hdo.at_ (i2 - 1) (by omega)
    obtain ⟨hn0, hg0, hv0, hw0⟩ := hinv _ _ hk0
    have hord : 0 < i2 → (tmL times).getD x0 0 < (tmL times).getD x1 0 ∨ ((tmL times).getD x0 0 = (tmL times).getD x1 0 ∧ x0 < x1) := fun h9 => by rw [hv0, hv1]; exact hdo.ord (i2 - 1) (by omega) x0 x1 k0 k1 hx0 (by rw [show i2 - 1 + 1 = i2 by omega]; exact hx1) hk0 hk1
    have hwx0b : 0 ≤ times.getD x0 0 ∧ times.getD x0 0 ≤ 255 := by have h9 := wftb (times.getD x0 0) (by simp [List.getD, show x0 < times.length by omega]); simpa [Lit.wf, IntKind.min, IntKind.max, IntKind.signed, IntKind.bits] using h9
    have htx0 := tmL_get (l := times) (i := x0) (by omega)
    have hwx1b : 0 ≤ times.getD x1 0 ∧ times.getD x1 0 ≤ 255 := by have h9 := wftb (times.getD x1 0) (by simp [List.getD, show x1 < times.length by omega]); simpa [Lit.wf, IntKind.min, IntKind.max, IntKind.signed, IntKind.bits] using h9
    have htx1 := tmL_get (l := times) (i := x1) (by omega)
    refine tp rfl (lv_move rfl) ?_
    refine tp rfl (lv_move rfl) ?_
    refine tp rfl (lv_move rfl) ?_
    refine tp rfl (lv_indexAddr (k' := i2) Try.underlying30 Try.sizeOf3 rfl rfl hok9 (by omega) (by omega) (by omega)) ?_
    refine tp rfl (lv_load Try.isAgg3 rfl (gives_as (v := .int .i64 ((x1 : Nat) : Int)) (by rw [hx1]) (gives_sl (.head _) (ints_get (by omega))))) ?_
    refine tp rfl (lv_indexAddr (k' := x1) Try.underlying22 Try.sizeOf5 rfl rfl oktb (by omega) (by omega) (by omega)) ?_
    refine tp rfl (lv_load Try.isAgg5 rfl (Rd.gives (Rd.cons (Rd.cons (Rd.cons htb))) (ints_get (by omega)))) ?_
    refine tp rfl (lv_convert (c := (times).getD x1 0) Try.underlying5 Try.underlying3 rfl (wr_i64 (by omega) (by omega))) ?_
    refine tp rfl (lv_rem (c := ((tmL times).getD x1 0)) rfl rfl (by omega) ((Int.tmod_eq_emod_of_nonneg (by omega)).trans htx1.symm)) ?_
    refine tp rfl (lv_assign rfl) ?_
    refine t_done ?_
    refine q_then_n (hK27 _ _ ?_)
    refine c_seq (fun K28 hK28 => ?_)
    by_cases h12 : ((x1 : Nat) : Int) < ((stop.length : Nat) : Int)
    · -- yes
     by_cases h13 : ((i2 : Nat) : Int) > 0
     · -- yes
      by_cases h14 : ((tmL times).getD x0 0) = ((tmL times).getD x1 0)
      · -- yes
       refine c_draw (γ := Unit) (n := 72) Try.mixed rfl rfl (fun _ S => True) (fun _ => [(0, 97, (.int .i64 ((tmL times).getD x1 0))), (1, 98, (.int .i64 ((nw : Nat) : Int))), (2, 99, (.bool false)), (3, 100, (.bool false)), (4, 101, (.int .i64 ((tmL times).getD x1 0))), (5, 102, (.int .i64 ((nw : Nat) : Int))), (6, 103, (.int .i64 ((s : Nat) : Int))), (7, 104, (.int .i64 (((nw : Nat) : Int) - ((s : Nat) : Int)))), (8, 105, (.bool false)), (9, 106, (.bool false)), (10, 107, (.bool false)), (11, 108, (.slice bs7 ((dueL ks ((nw : Nat) : Int)).length) cp8)), (12, 109, (.int .i64 ((i2 : Nat) : Int))), (13, 110, (.pointer (some (ad bs7 i2)))), (14, 111, (.int .i64 ((x1 : Nat) : Int))), (15, 112, (.slice bsb stop.length csb)), (16, 113, (.int .i64 ((stop.length : Nat) : Int))), (17, 114, (.bool true)), (18, 115, (.bool true)), (19, 116, (.slice bsb stop.length csb)), (20, 117, (.slice bs7 ((dueL ks ((nw : Nat) : Int)).length) cp8)), (21, 118, (.int .i64 ((i2 : Nat) : Int))), (22, 119, (.pointer (some (ad bs7 i2)))), (23, 120, (.int .i64 ((x1 : Nat) : Int))), (24, 121, (.pointer (some (ad bsb x1)))), (25, 122, (.bool false)), (26, 123, (.bool false)), (27, 124, (.bool false)), (28, 125, (.bool false)), (29, 126, (.int .i64 ((i2 : Nat) : Int))), (30, 127, (.bool true)), (31, 128, (.bool true)), (32, 129, (.slice btb times.length ctb)), (33, 130, (.slice bs7 ((dueL ks ((nw : Nat) : Int)).length) cp8)), (34, 131, (.int .i64 ((i2 : Nat) : Int))), (35, 132, (.int .i64 ((i2 - 1 : Nat) : Int))), (36, 133, (.pointer (some (ad bs7 (i2 - 1))))), (37, 134, (.int .i64 ((x0 : Nat) : Int))), (38, 135, (.pointer (some (ad btb x0)))), (39, 136, (.int .u8 ((times).getD x0 0))), (40, 137, (.int .i64 ((times).getD x0 0))), (41, 138, (.int .i64 ((tmL times).getD x0 0))), (42, 139, (.int .i64 ((tmL times).getD x1 0))), (43, 140, (.bool false)), (44, 141, (.bool false)), (45, 142, (.slice btb times.length ctb)), (46, 143, (.slice bs7 ((dueL ks ((nw : Nat) : Int)).length) cp8)), (47, 144, (.int .i64 ((i2 : Nat) : Int))), (48, 145, (.int .i64 ((i2 - 1 : Nat) : Int))), (49, 146, (.pointer (some (ad bs7 (i2 - 1))))), (50, 147, (.int .i64 ((x0 : Nat) : Int))), (51, 148, (.pointer (some (ad btb x0)))), (52, 149, (.int .u8 ((times).getD x0 0))), (53, 150, (.int .i64 ((times).getD x0 0))), (54, 151, (.int .i64 ((tmL times).getD x0 0))), (55, 152, (.int .i64 ((tmL times).getD x1 0))), (56, 153, (.bool true)), (57, 154, (.bool true)), (58, 155, (.slice bs7 ((dueL ks ((nw : Nat) : Int)).length) cp8)), (59, 156, (.int .i64 ((i2 : Nat) : Int))), (60, 157, (.int .i64 ((i2 - 1 : Nat) : Int))), (61, 158, (.pointer (some (ad bs7 (i2 - 1))))), (62, 159, (.int .i64 ((x0 : Nat) : Int))), (63, 160, (.slice bs7 ((dueL ks ((nw : Nat) : Int)).length) cp8)), (64, 161, (.int .i64 ((i2 : Nat) : Int))), (65, 162, (.pointer (some (ad bs7 i2)))), (66, 163, (.int .i64 ((x1 : Nat) : Int))), (67, 164, (.bool false)), (68, 165, (.bool false)), (69, 166, (.bool false)), (70, 167, (.bool false)), (71, 168, (.bool false))]) (fun _ S => (SlV 3 1 (.slice bs7 ((dueL ks ((nw : Nat) : Int)).length) cp8) ((dueL ks ((nw : Nat) : Int)).length) (ints .i64 (dueL ks ((nw : Nat) : Int)))) :: (Blk p1 [(.pointer (some ⟨q2, 0, none⟩))] 37) :: (HeapO q2 n (duR ks ((nw : Nat) : Int))) :: R) (()) trivial (fun _ h => h) (fun _ _ h => h) ?_ ?_
       · -- steps
        refine ⟨?_, ?_, ?_, ?_, ?_, ?_, ?_, ?_, ?_, ?_, ?_, ?_, ?_, ?_, ?_, ?_, ?_, ?_, ?_, ?_, ?_, ?_, ?_, ?_, ?_, ?_, ?_, ?_, ?_, ?_, ?_, ?_, ?_, ?_, ?_, ?_, ?_, ?_, ?_, ?_, ?_, ?_, ?_, ?_, ?_, ?_, ?_, ?_, ?_, ?_, ?_, ?_, ?_, ?_, ?_, ?_, ?_, ?_, ?_, ?_, ?_, ?_, ?_, ?_, ?_, ?_, ?_, ?_, ?_, ?_, ?_, ?_, trivial⟩
        · -- 0
         rintro _ S hF hS D hp K hK
         try dsimp only at hF ⊢
         refine d_need (small := [(15, (.int .i64 ((tmL times).getD x1 0)))]) ⟨look_b rfl rfl, trivial⟩ ?_
         refine tp rfl (lv_move rfl) ?_
         exact d_closes ⟨look_b rfl rfl, trivial⟩ 0 rfl rfl rfl hS (AgreeR.refl _) (t_sat (fun _ h => h) (hK () trivial))
        · -- 1
         rintro _ S hF hS D hp K hK
         try dsimp only at hF ⊢
         refine d_need (small := [(12, (.int .i64 ((nw : Nat) : Int)))]) ⟨look_b rfl rfl, trivial⟩ ?_
         refine tp rfl (lv_move rfl) ?_
         exact d_closes ⟨look_b rfl rfl, trivial⟩ 1 rfl rfl rfl hS (AgreeR.refl _) (t_sat (fun _ h => h) (hK () trivial))
        · -- 2
         rintro _ S hF hS D hp K hK
         try dsimp only at hF ⊢
         have s0 := hp 0 rfl
         have s1 := hp 1 rfl
         refine d_need (small := [(97, (.int .i64 ((tmL times).getD x1 0))), (98, (.int .i64 ((nw : Nat) : Int)))]) ⟨look_row rfl 0 rfl s0, look_row rfl 1 rfl s1, trivial⟩ ?_
         refine tp rfl (lv_gtr rfl rfl (decide_eq_false (by omega))) ?_
         exact d_closes ⟨look_row rfl 0 rfl s0, look_row rfl 1 rfl s1, trivial⟩ 2 rfl rfl rfl hS (AgreeR.refl _) (t_sat (fun _ h => h) (hK () trivial))
        · -- 3
         rintro _ S hF hS D hp K hK
         try dsimp only at hF ⊢
         have s2 := hp 2 rfl
         refine d_need (small := [(99, (.bool false))]) ⟨look_row rfl 2 rfl s2, trivial⟩ ?_
         refine tp rfl (lv_move rfl) ?_
         exact d_closes ⟨look_row rfl 2 rfl s2, trivial⟩ 3 rfl rfl rfl hS (AgreeR.refl _) (t_sat (fun _ h => h) (hK () trivial))
        · -- 4
         rintro _ S hF hS D hp K hK
         try dsimp only at hF ⊢
         have s3 := hp 3 rfl
         refine d_need (small := [(15, (.int .i64 ((tmL times).getD x1 0))), (100, (.bool false))]) ⟨look_b rfl rfl, look_row rfl 3 rfl s3, trivial⟩ ?_
         refine t_guard rfl rfl ?_
         refine tp rfl (lv_move rfl) ?_
         exact d_closes ⟨look_b rfl rfl, look_row rfl 3 rfl s3, trivial⟩ 4 rfl rfl rfl hS (AgreeR.refl _) (t_sat (fun _ h => h) (hK () trivial))
        · -- 5
         rintro _ S hF hS D hp K hK
         try dsimp only at hF ⊢
         have s3 := hp 3 rfl
         refine d_need (small := [(12, (.int .i64 ((nw : Nat) : Int))), (100, (.bool false))]) ⟨look_b rfl rfl, look_row rfl 3 rfl s3, trivial⟩ ?_
         refine t_guard rfl rfl ?_
         refine tp rfl (lv_move rfl) ?_
         exact d_closes ⟨look_b rfl rfl, look_row rfl 3 rfl s3, trivial⟩ 5 rfl rfl rfl hS (AgreeR.refl _) (t_sat (fun _ h => h) (hK () trivial))
        · -- 6
         rintro _ S hF hS D hp K hK
         try dsimp only at hF ⊢
         have s3 := hp 3 rfl
         refine d_need (small := [(2, (.int .i64 ((s : Nat) : Int))), (100, (.bool false))]) ⟨look_b rfl rfl, look_row rfl 3 rfl s3, trivial⟩ ?_
         refine t_guard rfl rfl ?_
         refine tp rfl (lv_move rfl) ?_
         exact d_closes ⟨look_b rfl rfl, look_row rfl 3 rfl s3, trivial⟩ 6 rfl rfl rfl hS (AgreeR.refl _) (t_sat (fun _ h => h) (hK () trivial))
        · -- 7
         rintro _ S hF hS D hp K hK
         try dsimp only at hF ⊢
         have s3 := hp 3 rfl
         have s5 := hp 5 rfl
         have s6 := hp 6 rfl
         refine d_need (small := [(100, (.bool false)), (102, (.int .i64 ((nw : Nat) : Int))), (103, (.int .i64 ((s : Nat) : Int)))]) ⟨look_row rfl 3 rfl s3, look_row rfl 5 rfl s5, look_row rfl 6 rfl s6, trivial⟩ ?_
         refine t_guard rfl rfl ?_
         refine tp rfl (lv_sub (c := ((nw : Nat) : Int) - ((s : Nat) : Int)) rfl rfl (wr_i64 (by omega) (by omega))) ?_
         exact d_closes ⟨look_row rfl 3 rfl s3, look_row rfl 5 rfl s5, look_row rfl 6 rfl s6, trivial⟩ 7 rfl rfl rfl hS (AgreeR.refl _) (t_sat (fun _ h => h) (hK () trivial))
        · -- 8
         rintro _ S hF hS D hp K hK
         try dsimp only at hF ⊢
         have s3 := hp 3 rfl
         have s4 := hp 4 rfl
         have s7 := hp 7 rfl
         refine d_need (small := [(100, (.bool false)), (101, (.int .i64 ((tmL times).getD x1 0))), (104, (.int .i64 (((nw : Nat) : Int) - ((s : Nat) : Int))))]) ⟨look_row rfl 3 rfl s3, look_row rfl 4 rfl s4, look_row rfl 7 rfl s7, trivial⟩ ?_
         refine t_guard rfl rfl ?_
         refine tp rfl (lv_leq rfl rfl (decide_eq_false (by omega))) ?_
         exact d_closes ⟨look_row rfl 3 rfl s3, look_row rfl 4 rfl s4, look_row rfl 7 rfl s7, trivial⟩ 8 rfl rfl rfl hS (AgreeR.refl _) (t_sat (fun _ h => h) (hK () trivial))
        · -- 9
         rintro _ S hF hS D hp K hK
         try dsimp only at hF ⊢
         have s3 := hp 3 rfl
         have s8 := hp 8 rfl
         refine d_need (small := [(100, (.bool false)), (105, (.bool false))]) ⟨look_row rfl 3 rfl s3, look_row rfl 8 rfl s8, trivial⟩ ?_
         refine tp rfl (lv_pick_f rfl rfl) ?_
         exact d_closes ⟨look_row rfl 3 rfl s3, look_row rfl 8 rfl s8, trivial⟩ 9 rfl rfl rfl hS (AgreeR.refl _) (t_sat (fun _ h => h) (hK () trivial))
        · -- 10
         rintro _ S hF hS D hp K hK
         try dsimp only at hF ⊢
         have s9 := hp 9 rfl
         refine d_need (small := [(106, (.bool false))]) ⟨look_row rfl 9 rfl s9, trivial⟩ ?_
         refine tp rfl (lv_move rfl) ?_
         exact d_closes ⟨look_row rfl 9 rfl s9, trivial⟩ 10 rfl rfl rfl hS (AgreeR.refl _) (t_sat (fun _ h => h) (hK () trivial))
        · -- 11
         rintro _ S hF hS D hp K hK
         try dsimp only at hF ⊢
         have s10 := hp 10 rfl
         refine d_need (small := [(13, (.slice bs7 ((dueL ks ((nw : Nat) : Int)).length) cp8)), (107, (.bool false))]) ⟨look_b rfl rfl, look_row rfl 10 rfl s10, trivial⟩ ?_
         refine t_guard rfl rfl ?_
         refine tp rfl (lv_move rfl) ?_
         exact d_closes ⟨look_b rfl rfl, look_row rfl 10 rfl s10, trivial⟩ 11 rfl rfl rfl hS (AgreeR.refl _) (t_sat (fun _ h => h) (hK () trivial))
        · -- 12
         rintro _ S hF hS D hp K hK
         try dsimp only at hF ⊢
         have s10 := hp 10 rfl
         refine d_need (small := [(14, (.int .i64 ((i2 : Nat) : Int))), (107, (.bool false))]) ⟨look_b rfl rfl, look_row rfl 10 rfl s10, trivial⟩ ?_
         refine t_guard rfl rfl ?_
         refine tp rfl (lv_move rfl) ?_
         exact d_closes ⟨look_b rfl rfl, look_row rfl 10 rfl s10, trivial⟩ 12 rfl rfl rfl hS (AgreeR.refl _) (t_sat (fun _ h => h) (hK () trivial))
        · -- 13
         rintro _ S hF hS D hp K hK
         try dsimp only at hF ⊢
         have s10 := hp 10 rfl
         have s11 := hp 11 rfl
         have s12 := hp 12 rfl
         refine d_need (small := [(107, (.bool false)), (108, (.slice bs7 ((dueL ks ((nw : Nat) : Int)).length) cp8)), (109, (.int .i64 ((i2 : Nat) : Int)))]) ⟨look_row rfl 10 rfl s10, look_row rfl 11 rfl s11, look_row rfl 12 rfl s12, trivial⟩ ?_
         refine t_guard rfl rfl ?_
         refine tp rfl (lv_indexAddr (k' := i2) Try.underlying30 Try.sizeOf3 rfl rfl hok9 (by omega) (by omega) (by omega)) ?_
         exact d_closes ⟨look_row rfl 10 rfl s10, look_row rfl 11 rfl s11, look_row rfl 12 rfl s12, trivial⟩ 13 rfl rfl rfl hS (AgreeR.refl _) (t_sat (fun _ h => h) (hK () trivial))
        · -- 14
         rintro _ S hF hS D hp K hK
         try dsimp only at hF ⊢
         have s10 := hp 10 rfl
         have s13 := hp 13 rfl
         refine d_need (small := [(107, (.bool false)), (110, (.pointer (some (ad bs7 i2))))]) ⟨look_row rfl 10 rfl s10, look_row rfl 13 rfl s13, trivial⟩ ?_
         refine t_guard rfl rfl ?_
         refine tp rfl (lv_load Try.isAgg3 rfl (gives_as (v := .int .i64 ((x1 : Nat) : Int)) (by rw [hx1]) (gives_sl (.head _) (ints_get (by omega))))) ?_
         exact d_closes ⟨look_row rfl 10 rfl s10, look_row rfl 13 rfl s13, trivial⟩ 14 rfl rfl rfl hS (AgreeR.refl _) (t_sat (fun _ h => h) (hK () trivial))
        · -- 15
         rintro _ S hF hS D hp K hK
         try dsimp only at hF ⊢
         have s10 := hp 10 rfl
         refine d_need (small := [(1, (.slice bsb stop.length csb)), (107, (.bool false))]) ⟨look_b rfl rfl, look_row rfl 10 rfl s10, trivial⟩ ?_
         refine t_guard rfl rfl ?_
         refine tp rfl (lv_move rfl) ?_
         exact d_closes ⟨look_b rfl rfl, look_row rfl 10 rfl s10, trivial⟩ 15 rfl rfl rfl hS (AgreeR.refl _) (t_sat (fun _ h => h) (hK () trivial))
        · -- 16
         rintro _ S hF hS D hp K hK
         try dsimp only at hF ⊢
         have s10 := hp 10 rfl
         have s15 := hp 15 rfl
         refine d_need (small := [(107, (.bool false)), (112, (.slice bsb stop.length csb))]) ⟨look_row rfl 10 rfl s10, look_row rfl 15 rfl s15, trivial⟩ ?_
         refine t_guard rfl rfl ?_
         refine tp rfl (lv_len Try.underlying23 rfl rfl) ?_
         exact d_closes ⟨look_row rfl 10 rfl s10, look_row rfl 15 rfl s15, trivial⟩ 16 rfl rfl rfl hS (AgreeR.refl _) (t_sat (fun _ h => h) (hK () trivial))
        · -- 17
         rintro _ S hF hS D hp K hK
         try dsimp only at hF ⊢
         have s10 := hp 10 rfl
         have s14 := hp 14 rfl
         have s16 := hp 16 rfl
         refine d_need (small := [(107, (.bool false)), (111, (.int .i64 ((x1 : Nat) : Int))), (113, (.int .i64 ((stop.length : Nat) : Int)))]) ⟨look_row rfl 10 rfl s10, look_row rfl 14 rfl s14, look_row rfl 16 rfl s16, trivial⟩ ?_
         refine t_guard rfl rfl ?_
         refine tp rfl (lv_lss rfl rfl (decide_eq_true h12)) ?_
         exact d_closes ⟨look_row rfl 10 rfl s10, look_row rfl 14 rfl s14, look_row rfl 16 rfl s16, trivial⟩ 17 rfl rfl rfl hS (AgreeR.refl _) (t_sat (fun _ h => h) (hK () trivial))
        · -- 18
         rintro _ S hF hS D hp K hK
         try dsimp only at hF ⊢
         have s10 := hp 10 rfl
         have s17 := hp 17 rfl
         refine d_need (small := [(107, (.bool false)), (114, (.bool true))]) ⟨look_row rfl 10 rfl s10, look_row rfl 17 rfl s17, trivial⟩ ?_
         refine t_guard rfl rfl ?_
         refine tp rfl (lv_move rfl) ?_
         exact d_closes ⟨look_row rfl 10 rfl s10, look_row rfl 17 rfl s17, trivial⟩ 18 rfl rfl rfl hS (AgreeR.refl _) (t_sat (fun _ h => h) (hK () trivial))
        · -- 19
         rintro _ S hF hS D hp K hK
         try dsimp only at hF ⊢
         have s18 := hp 18 rfl
         refine d_need (small := [(1, (.slice bsb stop.length csb)), (115, (.bool true))]) ⟨look_b rfl rfl, look_row rfl 18 rfl s18, trivial⟩ ?_
         refine t_guard rfl rfl ?_
         refine tp rfl (lv_move rfl) ?_
         exact d_closes ⟨look_b rfl rfl, look_row rfl 18 rfl s18, trivial⟩ 19 rfl rfl rfl hS (AgreeR.refl _) (t_sat (fun _ h => h) (hK () trivial))
        · -- 20
         rintro _ S hF hS D hp K hK
         try dsimp only at hF ⊢
         have s18 := hp 18 rfl
         refine d_need (small := [(13, (.slice bs7 ((dueL ks ((nw : Nat) : Int)).length) cp8)), (115, (.bool true))]) ⟨look_b rfl rfl, look_row rfl 18 rfl s18, trivial⟩ ?_
         refine t_guard rfl rfl ?_
         refine tp rfl (lv_move rfl) ?_
         exact d_closes ⟨look_b rfl rfl, look_row rfl 18 rfl s18, trivial⟩ 20 rfl rfl rfl hS (AgreeR.refl _) (t_sat (fun _ h => h) (hK () trivial))
        · -- 21
         rintro _ S hF hS D hp K hK
         try dsimp only at hF ⊢
         have s18 := hp 18 rfl
         refine d_need (small := [(14, (.int .i64 ((i2 : Nat) : Int))), (115, (.bool true))]) ⟨look_b rfl rfl, look_row rfl 18 rfl s18, trivial⟩ ?_
         refine t_guard rfl rfl ?_
         refine tp rfl (lv_move rfl) ?_
         exact d_closes ⟨look_b rfl rfl, look_row rfl 18 rfl s18, trivial⟩ 21 rfl rfl rfl hS (AgreeR.refl _) (t_sat (fun _ h => h) (hK () trivial))
        · -- 22
         rintro _ S hF hS D hp K hK
         try dsimp only at hF ⊢
         have s18 := hp 18 rfl
         have s20 := hp 20 rfl
         have s21 := hp 21 rfl
         refine d_need (small := [(115, (.bool true)), (117, (.slice bs7 ((dueL ks ((nw : Nat) : Int)).length) cp8)), (118, (.int .i64 ((i2 : Nat) : Int)))]) ⟨look_row rfl 18 rfl s18, look_row rfl 20 rfl s20, look_row rfl 21 rfl s21, trivial⟩ ?_
         refine t_guard rfl rfl ?_
         refine tp rfl (lv_indexAddr (k' := i2) Try.underlying30 Try.sizeOf3 rfl rfl hok9 (by omega) (by omega) (by omega)) ?_
         exact d_closes ⟨look_row rfl 18 rfl s18, look_row rfl 20 rfl s20, look_row rfl 21 rfl s21, trivial⟩ 22 rfl rfl rfl hS (AgreeR.refl _) (t_sat (fun _ h => h) (hK () trivial))
        · -- 23
         rintro _ S hF hS D hp K hK
         try dsimp only at hF ⊢
         have s18 := hp 18 rfl
         have s22 := hp 22 rfl
         refine d_need (small := [(115, (.bool true)), (119, (.pointer (some (ad bs7 i2))))]) ⟨look_row rfl 18 rfl s18, look_row rfl 22 rfl s22, trivial⟩ ?_
         refine t_guard rfl rfl ?_
         refine tp rfl (lv_load Try.isAgg3 rfl (gives_as (v := .int .i64 ((x1 : Nat) : Int)) (by rw [hx1]) (gives_sl (.head _) (ints_get (by omega))))) ?_
         exact d_closes ⟨look_row rfl 18 rfl s18, look_row rfl 22 rfl s22, trivial⟩ 23 rfl rfl rfl hS (AgreeR.refl _) (t_sat (fun _ h => h) (hK () trivial))
        · -- 24
         rintro _ S hF hS D hp K hK
         try dsimp only at hF ⊢
         have s18 := hp 18 rfl
         have s19 := hp 19 rfl
         have s23 := hp 23 rfl
         refine d_need (small := [(115, (.bool true)), (116, (.slice bsb stop.length csb)), (120, (.int .i64 ((x1 : Nat) : Int)))]) ⟨look_row rfl 18 rfl s18, look_row rfl 19 rfl s19, look_row rfl 23 rfl s23, trivial⟩ ?_
         refine t_guard rfl rfl ?_
         refine tp rfl (lv_indexAddr (k' := x1) Try.underlying23 Try.sizeOf4 rfl rfl oksb (by omega) (by omega) (by omega)) ?_
         exact d_closes ⟨look_row rfl 18 rfl s18, look_row rfl 19 rfl s19, look_row rfl 23 rfl s23, trivial⟩ 24 rfl rfl rfl hS (AgreeR.refl _) (t_sat (fun _ h => h) (hK () trivial))
        · -- 25
         rintro _ S hF hS D hp K hK
         try dsimp only at hF ⊢
         have s18 := hp 18 rfl
         have s24 := hp 24 rfl
         refine d_need (small := [(115, (.bool true)), (121, (.pointer (some (ad bsb x1))))]) ⟨look_row rfl 18 rfl s18, look_row rfl 24 rfl s24, trivial⟩ ?_
         refine t_guard rfl rfl ?_
         refine tp rfl (lv_load Try.isAgg4 rfl (gives_as (v := .bool false) (by first | rw [hg1] | rw [Int.toNat_natCast, hg1]) (Rd.gives (Rd.cons (Rd.cons (Rd.cons hsb))) (bools_get (by omega))))) ?_
         exact d_closes ⟨look_row rfl 18 rfl s18, look_row rfl 24 rfl s24, trivial⟩ 25 rfl rfl rfl hS (AgreeR.refl _) (t_sat (fun _ h => h) (hK () trivial))
        · -- 26
         rintro _ S hF hS D hp K hK
         try dsimp only at hF ⊢
         have s10 := hp 10 rfl
         have s18 := hp 18 rfl
         have s25 := hp 25 rfl
         refine d_need (small := [(107, (.bool false)), (115, (.bool true)), (122, (.bool false))]) ⟨look_row rfl 10 rfl s10, look_row rfl 18 rfl s18, look_row rfl 25 rfl s25, trivial⟩ ?_
         refine t_guard rfl rfl ?_
         refine tp rfl (lv_pick_t rfl rfl) ?_
         exact d_closes ⟨look_row rfl 10 rfl s10, look_row rfl 18 rfl s18, look_row rfl 25 rfl s25, trivial⟩ 26 rfl rfl rfl hS (AgreeR.refl _) (t_sat (fun _ h => h) (hK () trivial))
        · -- 27
         rintro _ S hF hS D hp K hK
         try dsimp only at hF ⊢
         have s10 := hp 10 rfl
         have s26 := hp 26 rfl
         refine d_need (small := [(107, (.bool false)), (123, (.bool false))]) ⟨look_row rfl 10 rfl s10, look_row rfl 26 rfl s26, trivial⟩ ?_
         refine tp rfl (lv_pick_f rfl rfl) ?_
         exact d_closes ⟨look_row rfl 10 rfl s10, look_row rfl 26 rfl s26, trivial⟩ 27 rfl rfl rfl hS (AgreeR.refl _) (t_sat (fun _ h => h) (hK () trivial))
        · -- 28
         rintro _ S hF hS D hp K hK
         try dsimp only at hF ⊢
         have s27 := hp 27 rfl
         refine d_need (small := [(124, (.bool false))]) ⟨look_row rfl 27 rfl s27, trivial⟩ ?_
         refine tp rfl (lv_move rfl) ?_
         exact d_closes ⟨look_row rfl 27 rfl s27, trivial⟩ 28 rfl rfl rfl hS (AgreeR.refl _) (t_sat (fun _ h => h) (hK () trivial))
        · -- 29
         rintro _ S hF hS D hp K hK
         try dsimp only at hF ⊢
         have s28 := hp 28 rfl
         refine d_need (small := [(14, (.int .i64 ((i2 : Nat) : Int))), (125, (.bool false))]) ⟨look_b rfl rfl, look_row rfl 28 rfl s28, trivial⟩ ?_
         refine t_guard rfl rfl ?_
         refine tp rfl (lv_move rfl) ?_
         exact d_closes ⟨look_b rfl rfl, look_row rfl 28 rfl s28, trivial⟩ 29 rfl rfl rfl hS (AgreeR.refl _) (t_sat (fun _ h => h) (hK () trivial))
        · -- 30
         rintro _ S hF hS D hp K hK
         try dsimp only at hF ⊢
         have s28 := hp 28 rfl
         have s29 := hp 29 rfl
         refine d_need (small := [(125, (.bool false)), (126, (.int .i64 ((i2 : Nat) : Int)))]) ⟨look_row rfl 28 rfl s28, look_row rfl 29 rfl s29, trivial⟩ ?_
         refine t_guard rfl rfl ?_
         refine tp rfl (lv_gtr rfl rfl (decide_eq_true h13)) ?_
         exact d_closes ⟨look_row rfl 28 rfl s28, look_row rfl 29 rfl s29, trivial⟩ 30 rfl rfl rfl hS (AgreeR.refl _) (t_sat (fun _ h => h) (hK () trivial))
        · -- 31
         rintro _ S hF hS D hp K hK
         try dsimp only at hF ⊢
         have s28 := hp 28 rfl
         have s30 := hp 30 rfl
         refine d_need (small := [(125, (.bool false)), (127, (.bool true))]) ⟨look_row rfl 28 rfl s28, look_row rfl 30 rfl s30, trivial⟩ ?_
         refine t_guard rfl rfl ?_
         refine tp rfl (lv_move rfl) ?_
         exact d_closes ⟨look_row rfl 28 rfl s28, look_row rfl 30 rfl s30, trivial⟩ 31 rfl rfl rfl hS (AgreeR.refl _) (t_sat (fun _ h => h) (hK () trivial))
        · -- 32
         rintro _ S hF hS D hp K hK
         try dsimp only at hF ⊢
         have s31 := hp 31 rfl
         refine d_need (small := [(0, (.slice btb times.length ctb)), (128, (.bool true))]) ⟨look_b rfl rfl, look_row rfl 31 rfl s31, trivial⟩ ?_
         refine t_guard rfl rfl ?_
         refine tp rfl (lv_move rfl) ?_
         exact d_closes ⟨look_b rfl rfl, look_row rfl 31 rfl s31, trivial⟩ 32 rfl rfl rfl hS (AgreeR.refl _) (t_sat (fun _ h => h) (hK () trivial))
        · -- 33
         rintro _ S hF hS D hp K hK
         try dsimp only at hF ⊢
         have s31 := hp 31 rfl
         refine d_need (small := [(13, (.slice bs7 ((dueL ks ((nw : Nat) : Int)).length) cp8)), (128, (.bool true))]) ⟨look_b rfl rfl, look_row rfl 31 rfl s31, trivial⟩ ?_
         refine t_guard rfl rfl ?_
         refine tp rfl (lv_move rfl) ?_
         exact d_closes ⟨look_b rfl rfl, look_row rfl 31 rfl s31, trivial⟩ 33 rfl rfl rfl hS (AgreeR.refl _) (t_sat (fun _ h => h) (hK () trivial))
        · -- 34
         rintro _ S hF hS D hp K hK
         try dsimp only at hF ⊢
         have s31 := hp 31 rfl
         refine d_need (small := [(14, (.int .i64 ((i2 : Nat) : Int))), (128, (.bool true))]) ⟨look_b rfl rfl, look_row rfl 31 rfl s31, trivial⟩ ?_
         refine t_guard rfl rfl ?_
         refine tp rfl (lv_move rfl) ?_
         exact d_closes ⟨look_b rfl rfl, look_row rfl 31 rfl s31, trivial⟩ 34 rfl rfl rfl hS (AgreeR.refl _) (t_sat (fun _ h => h) (hK () trivial))
        · -- 35
         rintro _ S hF hS D hp K hK
         try dsimp only at hF ⊢
         have s31 := hp 31 rfl
         have s34 := hp 34 rfl
         refine d_need (small := [(128, (.bool true)), (131, (.int .i64 ((i2 : Nat) : Int)))]) ⟨look_row rfl 31 rfl s31, look_row rfl 34 rfl s34, trivial⟩ ?_
         refine t_guard rfl rfl ?_
         refine tp rfl (lv_sub (c := ((i2 - 1 : Nat) : Int)) rfl rfl ((wr_i64 (by omega) (by omega)).trans (by omega))) ?_
         exact d_closes ⟨look_row rfl 31 rfl s31, look_row rfl 34 rfl s34, trivial⟩ 35 rfl rfl rfl hS (AgreeR.refl _) (t_sat (fun _ h => h) (hK () trivial))
        · -- 36
         rintro _ S hF hS D hp K hK
         try dsimp only at hF ⊢
         have s31 := hp 31 rfl
         have s33 := hp 33 rfl
         have s35 := hp 35 rfl
         refine d_need (small := [(128, (.bool true)), (130, (.slice bs7 ((dueL ks ((nw : Nat) : Int)).length) cp8)), (132, (.int .i64 ((i2 - 1 : Nat) : Int)))]) ⟨look_row rfl 31 rfl s31, look_row rfl 33 rfl s33, look_row rfl 35 rfl s35, trivial⟩ ?_
         refine t_guard rfl rfl ?_
         refine tp rfl (lv_indexAddr (k' := i2 - 1) Try.underlying30 Try.sizeOf3 rfl rfl hok9 (by omega) (by omega) (by omega)) ?_
         exact d_closes ⟨look_row rfl 31 rfl s31, look_row rfl 33 rfl s33, look_row rfl 35 rfl s35, trivial⟩ 36 rfl rfl rfl hS (AgreeR.refl _) (t_sat (fun _ h => h) (hK () trivial))
        · -- 37
         rintro _ S hF hS D hp K hK
         try dsimp only at hF ⊢
         have s31 := hp 31 rfl
         have s36 := hp 36 rfl
         refine d_need (small := [(128, (.bool true)), (133, (.pointer (some (ad bs7 (i2 - 1)))))]) ⟨look_row rfl 31 rfl s31, look_row rfl 36 rfl s36, trivial⟩ ?_
         refine t_guard rfl rfl ?_
         refine tp rfl (lv_load Try.isAgg3 rfl (gives_as (v := .int .i64 ((x0 : Nat) : Int)) (by rw [hx0]) (gives_sl (.head _) (ints_get (by omega))))) ?_
         exact d_closes ⟨look_row rfl 31 rfl s31, look_row rfl 36 rfl s36, trivial⟩ 37 rfl rfl rfl hS (AgreeR.refl _) (t_sat (fun _ h => h) (hK () trivial))
        · -- 38
         rintro _ S hF hS D hp K hK
         try dsimp only at hF ⊢
         have s31 := hp 31 rfl
         have s32 := hp 32 rfl
         have s37 := hp 37 rfl
         refine d_need (small := [(128, (.bool true)), (129, (.slice btb times.length ctb)), (134, (.int .i64 ((x0 : Nat) : Int)))]) ⟨look_row rfl 31 rfl s31, look_row rfl 32 rfl s32, look_row rfl 37 rfl s37, trivial⟩ ?_
         refine t_guard rfl rfl ?_
         refine tp rfl (lv_indexAddr (k' := x0) Try.underlying22 Try.sizeOf5 rfl rfl oktb (by omega) (by omega) (by omega)) ?_
         exact d_closes ⟨look_row rfl 31 rfl s31, look_row rfl 32 rfl s32, look_row rfl 37 rfl s37, trivial⟩ 38 rfl rfl rfl hS (AgreeR.refl _) (t_sat (fun _ h => h) (hK () trivial))
        · -- 39
         rintro _ S hF hS D hp K hK
         try dsimp only at hF ⊢
         have s31 := hp 31 rfl
         have s38 := hp 38 rfl
         refine d_need (small := [(128, (.bool true)), (135, (.pointer (some (ad btb x0))))]) ⟨look_row rfl 31 rfl s31, look_row rfl 38 rfl s38, trivial⟩ ?_
         refine t_guard rfl rfl ?_
         refine tp rfl (lv_load Try.isAgg5 rfl (Rd.gives (Rd.cons (Rd.cons (Rd.cons htb))) (ints_get (by omega)))) ?_
         exact d_closes ⟨look_row rfl 31 rfl s31, look_row rfl 38 rfl s38, trivial⟩ 39 rfl rfl rfl hS (AgreeR.refl _) (t_sat (fun _ h => h) (hK () trivial))
        · -- 40
         rintro _ S hF hS D hp K hK
         try dsimp only at hF ⊢
         have s31 := hp 31 rfl
         have s39 := hp 39 rfl
         refine d_need (small := [(128, (.bool true)), (136, (.int .u8 ((times).getD x0 0)))]) ⟨look_row rfl 31 rfl s31, look_row rfl 39 rfl s39, trivial⟩ ?_
         refine t_guard rfl rfl ?_
         refine tp rfl (lv_convert (c := (times).getD x0 0) Try.underlying5 Try.underlying3 rfl (wr_i64 (by omega) (by omega))) ?_
         exact d_closes ⟨look_row rfl 31 rfl s31, look_row rfl 39 rfl s39, trivial⟩ 40 rfl rfl rfl hS (AgreeR.refl _) (t_sat (fun _ h => h) (hK () trivial))
        · -- 41
         rintro _ S hF hS D hp K hK
         try dsimp only at hF ⊢
         have s31 := hp 31 rfl
         have s40 := hp 40 rfl
         refine d_need (small := [(128, (.bool true)), (137, (.int .i64 ((times).getD x0 0)))]) ⟨look_row rfl 31 rfl s31, look_row rfl 40 rfl s40, trivial⟩ ?_
         refine t_guard rfl rfl ?_
         refine tp rfl (lv_rem (c := ((tmL times).getD x0 0)) rfl rfl (by omega) ((Int.tmod_eq_emod_of_nonneg (by omega)).trans htx0.symm)) ?_
         exact d_closes ⟨look_row rfl 31 rfl s31, look_row rfl 40 rfl s40, trivial⟩ 41 rfl rfl rfl hS (AgreeR.refl _) (t_sat (fun _ h => h) (hK () trivial))
        · -- 42
         rintro _ S hF hS D hp K hK
         try dsimp only at hF ⊢
         have s31 := hp 31 rfl
         refine d_need (small := [(15, (.int .i64 ((tmL times).getD x1 0))), (128, (.bool true))]) ⟨look_b rfl rfl, look_row rfl 31 rfl s31, trivial⟩ ?_
         refine t_guard rfl rfl ?_
         refine tp rfl (lv_move rfl) ?_
         exact d_closes ⟨look_b rfl rfl, look_row rfl 31 rfl s31, trivial⟩ 42 rfl rfl rfl hS (AgreeR.refl _) (t_sat (fun _ h => h) (hK () trivial))
        · -- 43
         rintro _ S hF hS D hp K hK
         try dsimp only at hF ⊢
         have s31 := hp 31 rfl
         have s41 := hp 41 rfl
         have s42 := hp 42 rfl
         refine d_need (small := [(128, (.bool true)), (138, (.int .i64 ((tmL times).getD x0 0))), (139, (.int .i64 ((tmL times).getD x1 0)))]) ⟨look_row rfl 31 rfl s31, look_row rfl 41 rfl s41, look_row rfl 42 rfl s42, trivial⟩ ?_
         refine t_guard rfl rfl ?_
         refine tp rfl (lv_gtr rfl rfl (decide_eq_false (by omega))) ?_
         exact d_closes ⟨look_row rfl 31 rfl s31, look_row rfl 41 rfl s41, look_row rfl 42 rfl s42, trivial⟩ 43 rfl rfl rfl hS (AgreeR.refl _) (t_sat (fun _ h => h) (hK () trivial))
        · -- 44
         rintro _ S hF hS D hp K hK
         try dsimp only at hF ⊢
         have s31 := hp 31 rfl
         have s43 := hp 43 rfl
         refine d_need (small := [(128, (.bool true)), (140, (.bool false))]) ⟨look_row rfl 31 rfl s31, look_row rfl 43 rfl s43, trivial⟩ ?_
         refine t_guard rfl rfl ?_
         refine tp rfl (lv_move rfl) ?_
         exact d_closes ⟨look_row rfl 31 rfl s31, look_row rfl 43 rfl s43, trivial⟩ 44 rfl rfl rfl hS (AgreeR.refl _) (t_sat (fun _ h => h) (hK () trivial))
        · -- 45
         rintro _ S hF hS D hp K hK
         try dsimp only at hF ⊢
         have s44 := hp 44 rfl
         refine d_need (small := [(0, (.slice btb times.length ctb)), (141, (.bool false))]) ⟨look_b rfl rfl, look_row rfl 44 rfl s44, trivial⟩ ?_
         refine t_guard rfl rfl ?_
         refine tp rfl (lv_move rfl) ?_
         exact d_closes ⟨look_b rfl rfl, look_row rfl 44 rfl s44, trivial⟩ 45 rfl rfl rfl hS (AgreeR.refl _) (t_sat (fun _ h => h) (hK () trivial))
        · -- 46
         rintro _ S hF hS D hp K hK
         try dsimp only at hF ⊢
         have s44 := hp 44 rfl
         refine d_need (small := [(13, (.slice bs7 ((dueL ks ((nw : Nat) : Int)).length) cp8)), (141, (.bool false))]) ⟨look_b rfl rfl, look_row rfl 44 rfl s44, trivial⟩ ?_
         refine t_guard rfl rfl ?_
         refine tp rfl (lv_move rfl) ?_
         exact d_closes ⟨look_b rfl rfl, look_row rfl 44 rfl s44, trivial⟩ 46 rfl rfl rfl hS (AgreeR.refl _) (t_sat (fun _ h => h) (hK () trivial))
        · -- 47
         rintro _ S hF hS D hp K hK
         try dsimp only at hF ⊢
         have s44 := hp 44 rfl
         refine d_need (small := [(14, (.int .i64 ((i2 : Nat) : Int))), (141, (.bool false))]) ⟨look_b rfl rfl, look_row rfl 44 rfl s44, trivial⟩ ?_
         refine t_guard rfl rfl ?_
         refine tp rfl (lv_move rfl) ?_
         exact d_closes ⟨look_b rfl rfl, look_row rfl 44 rfl s44, trivial⟩ 47 rfl rfl rfl hS (AgreeR.refl _) (t_sat (fun _ h => h) (hK () trivial))
        · -- 48
         rintro _ S hF hS D hp K hK
         try dsimp only at hF ⊢
         have s44 := hp 44 rfl
         have s47 := hp 47 rfl
         refine d_need (small := [(141, (.bool false)), (144, (.int .i64 ((i2 : Nat) : Int)))]) ⟨look_row rfl 44 rfl s44, look_row rfl 47 rfl s47, trivial⟩ ?_
         refine t_guard rfl rfl ?_
         refine tp rfl (lv_sub (c := ((i2 - 1 : Nat) : Int)) rfl rfl ((wr_i64 (by omega) (by omega)).trans (by omega))) ?_
         exact d_closes ⟨look_row rfl 44 rfl s44, look_row rfl 47 rfl s47, trivial⟩ 48 rfl rfl rfl hS (AgreeR.refl _) (t_sat (fun _ h => h) (hK () trivial))
        · -- 49
         rintro _ S hF hS D hp K hK
         try dsimp only at hF ⊢
         have s44 := hp 44 rfl
         have s46 := hp 46 rfl
         have s48 := hp 48 rfl
         refine d_need (small := [(141, (.bool false)), (143, (.slice bs7 ((dueL ks ((nw : Nat) : Int)).length) cp8)), (145, (.int .i64 ((i2 - 1 : Nat) : Int)))]) ⟨look_row rfl 44 rfl s44, look_row rfl 46 rfl s46, look_row rfl 48 rfl s48, trivial⟩ ?_
         refine t_guard rfl rfl ?_
         refine tp rfl (lv_indexAddr (k' := i2 - 1) Try.underlying30 Try.sizeOf3 rfl rfl hok9 (by omega) (by omega) (by omega)) ?_
         exact d_closes ⟨look_row rfl 44 rfl s44, look_row rfl 46 rfl s46, look_row rfl 48 rfl s48, trivial⟩ 49 rfl rfl rfl hS (AgreeR.refl _) (t_sat (fun _ h => h) (hK () trivial))
        · -- 50
         rintro _ S hF hS D hp K hK
         try dsimp only at hF ⊢
         have s44 := hp 44 rfl
         have s49 := hp 49 rfl
         refine d_need (small := [(141, (.bool false)), (146, (.pointer (some (ad bs7 (i2 - 1)))))]) ⟨look_row rfl 44 rfl s44, look_row rfl 49 rfl s49, trivial⟩ ?_
         refine t_guard rfl rfl ?_
         refine tp rfl (lv_load Try.isAgg3 rfl (gives_as (v := .int .i64 ((x0 : Nat) : Int)) (by rw [hx0]) (gives_sl (.head _) (ints_get (by omega))))) ?_
         exact d_closes ⟨look_row rfl 44 rfl s44, look_row rfl 49 rfl s49, trivial⟩ 50 rfl rfl rfl hS (AgreeR.refl _) (t_sat (fun _ h => h) (hK () trivial))
        · -- 51
         rintro _ S hF hS D hp K hK
         try dsimp only at hF ⊢
         have s44 := hp 44 rfl
         have s45 := hp 45 rfl
         have s50 := hp 50 rfl
         refine d_need (small := [(141, (.bool false)), (142, (.slice btb times.length ctb)), (147, (.int .i64 ((x0 : Nat) : Int)))]) ⟨look_row rfl 44 rfl s44, look_row rfl 45 rfl s45, look_row rfl 50 rfl s50, trivial⟩ ?_
         refine t_guard rfl rfl ?_
         refine tp rfl (lv_indexAddr (k' := x0) Try.underlying22 Try.sizeOf5 rfl rfl oktb (by omega) (by omega) (by omega)) ?_
         exact d_closes ⟨look_row rfl 44 rfl s44, look_row rfl 45 rfl s45, look_row rfl 50 rfl s50, trivial⟩ 51 rfl rfl rfl hS (AgreeR.refl _) (t_sat (fun _ h => h) (hK () trivial))
        · -- 52
         rintro _ S hF hS D hp K hK
         try dsimp only at hF ⊢
         have s44 := hp 44 rfl
         have s51 := hp 51 rfl
         refine d_need (small := [(141, (.bool false)), (148, (.pointer (some (ad btb x0))))]) ⟨look_row rfl 44 rfl s44, look_row rfl 51 rfl s51, trivial⟩ ?_
         refine t_guard rfl rfl ?_
         refine tp rfl (lv_load Try.isAgg5 rfl (Rd.gives (Rd.cons (Rd.cons (Rd.cons htb))) (ints_get (by omega)))) ?_
         exact d_closes ⟨look_row rfl 44 rfl s44, look_row rfl 51 rfl s51, trivial⟩ 52 rfl rfl rfl hS (AgreeR.refl _) (t_sat (fun _ h => h) (hK () trivial))
        · -- 53
         rintro _ S hF hS D hp K hK
         try dsimp only at hF ⊢
         have s44 := hp 44 rfl
         have s52 := hp 52 rfl
         refine d_need (small := [(141, (.bool false)), (149, (.int .u8 ((times).getD x0 0)))]) ⟨look_row rfl 44 rfl s44, look_row rfl 52 rfl s52, trivial⟩ ?_
         refine t_guard rfl rfl ?_
         refine tp rfl (lv_convert (c := (times).getD x0 0) Try.underlying5 Try.underlying3 rfl (wr_i64 (by omega) (by omega))) ?_
         exact d_closes ⟨look_row rfl 44 rfl s44, look_row rfl 52 rfl s52, trivial⟩ 53 rfl rfl rfl hS (AgreeR.refl _) (t_sat (fun _ h => h) (hK () trivial))
        · -- 54
         rintro _ S hF hS D hp K hK
         try dsimp only at hF ⊢
         have s44 := hp 44 rfl
         have s53 := hp 53 rfl
         refine d_need (small := [(141, (.bool false)), (150, (.int .i64 ((times).getD x0 0)))]) ⟨look_row rfl 44 rfl s44, look_row rfl 53 rfl s53, trivial⟩ ?_
         refine t_guard rfl rfl ?_
         refine tp rfl (lv_rem (c := ((tmL times).getD x0 0)) rfl rfl (by omega) ((Int.tmod_eq_emod_of_nonneg (by omega)).trans htx0.symm)) ?_
         exact d_closes ⟨look_row rfl 44 rfl s44, look_row rfl 53 rfl s53, trivial⟩ 54 rfl rfl rfl hS (AgreeR.refl _) (t_sat (fun _ h => h) (hK () trivial))
        · -- 55
         rintro _ S hF hS D hp K hK
         try dsimp only at hF ⊢
         have s44 := hp 44 rfl
         refine d_need (small := [(15, (.int .i64 ((tmL times).getD x1 0))), (141, (.bool false))]) ⟨look_b rfl rfl, look_row rfl 44 rfl s44, trivial⟩ ?_
         refine t_guard rfl rfl ?_
         refine tp rfl (lv_move rfl) ?_
         exact d_closes ⟨look_b rfl rfl, look_row rfl 44 rfl s44, trivial⟩ 55 rfl rfl rfl hS (AgreeR.refl _) (t_sat (fun _ h => h) (hK () trivial))
        · -- 56
         rintro _ S hF hS D hp K hK
         try dsimp only at hF ⊢
         have s44 := hp 44 rfl
         have s54 := hp 54 rfl
         have s55 := hp 55 rfl
         refine d_need (small := [(141, (.bool false)), (151, (.int .i64 ((tmL times).getD x0 0))), (152, (.int .i64 ((tmL times).getD x1 0)))]) ⟨look_row rfl 44 rfl s44, look_row rfl 54 rfl s54, look_row rfl 55 rfl s55, trivial⟩ ?_
         refine t_guard rfl rfl ?_
         refine tp rfl (lv_eql rfl rfl (beq_iff_eq.2 h14)) ?_
         exact d_closes ⟨look_row rfl 44 rfl s44, look_row rfl 54 rfl s54, look_row rfl 55 rfl s55, trivial⟩ 56 rfl rfl rfl hS (AgreeR.refl _) (t_sat (fun _ h => h) (hK () trivial))
        · -- 57
         rintro _ S hF hS D hp K hK
         try dsimp only at hF ⊢
         have s44 := hp 44 rfl
         have s56 := hp 56 rfl
         refine d_need (small := [(141, (.bool false)), (153, (.bool true))]) ⟨look_row rfl 44 rfl s44, look_row rfl 56 rfl s56, trivial⟩ ?_
         refine t_guard rfl rfl ?_
         refine tp rfl (lv_move rfl) ?_
         exact d_closes ⟨look_row rfl 44 rfl s44, look_row rfl 56 rfl s56, trivial⟩ 57 rfl rfl rfl hS (AgreeR.refl _) (t_sat (fun _ h => h) (hK () trivial))
        · -- 58
         rintro _ S hF hS D hp K hK
         try dsimp only at hF ⊢
         have s57 := hp 57 rfl
         refine d_need (small := [(13, (.slice bs7 ((dueL ks ((nw : Nat) : Int)).length) cp8)), (154, (.bool true))]) ⟨look_b rfl rfl, look_row rfl 57 rfl s57, trivial⟩ ?_
         refine t_guard rfl rfl ?_
         refine tp rfl (lv_move rfl) ?_
         exact d_closes ⟨look_b rfl rfl, look_row rfl 57 rfl s57, trivial⟩ 58 rfl rfl rfl hS (AgreeR.refl _) (t_sat (fun _ h => h) (hK () trivial))
        · -- 59
         rintro _ S hF hS D hp K hK
         try dsimp only at hF ⊢
         have s57 := hp 57 rfl
         refine d_need (small := [(14, (.int .i64 ((i2 : Nat) : Int))), (154, (.bool true))]) ⟨look_b rfl rfl, look_row rfl 57 rfl s57, trivial⟩ ?_
         refine t_guard rfl rfl ?_
         refine tp rfl (lv_move rfl) ?_
         exact d_closes ⟨look_b rfl rfl, look_row rfl 57 rfl s57, trivial⟩ 59 rfl rfl rfl hS (AgreeR.refl _) (t_sat (fun _ h => h) (hK () trivial))
        · -- 60
         rintro _ S hF hS D hp K hK
         try dsimp only at hF ⊢
         have s57 := hp 57 rfl
         have s59 := hp 59 rfl
         refine d_need (small := [(154, (.bool true)), (156, (.int .i64 ((i2 : Nat) : Int)))]) ⟨look_row rfl 57 rfl s57, look_row rfl 59 rfl s59, trivial⟩ ?_
         refine t_guard rfl rfl ?_
         refine tp rfl (lv_sub (c := ((i2 - 1 : Nat) : Int)) rfl rfl ((wr_i64 (by omega) (by omega)).trans (by omega))) ?_
         exact d_closes ⟨look_row rfl 57 rfl s57, look_row rfl 59 rfl s59, trivial⟩ 60 rfl rfl rfl hS (AgreeR.refl _) (t_sat (fun _ h => h) (hK () trivial))
        · -- 61
         rintro _ S hF hS D hp K hK
         try dsimp only at hF ⊢
         have s57 := hp 57 rfl
         have s58 := hp 58 rfl
         have s60 := hp 60 rfl
         refine d_need (small := [(154, (.bool true)), (155, (.slice bs7 ((dueL ks ((nw : Nat) : Int)).length) cp8)), (157, (.int .i64 ((i2 - 1 : Nat) : Int)))]) ⟨look_row rfl 57 rfl s57, look_row rfl 58 rfl s58, look_row rfl 60 rfl s60, trivial⟩ ?_
         refine t_guard rfl rfl ?_
         refine tp rfl (lv_indexAddr (k' := i2 - 1) Try.underlying30 Try.sizeOf3 rfl rfl hok9 (by omega) (by omega) (by omega)) ?_
         exact d_closes ⟨look_row rfl 57 rfl s57, look_row rfl 58 rfl s58, look_row rfl 60 rfl s60, trivial⟩ 61 rfl rfl rfl hS (AgreeR.refl _) (t_sat (fun _ h => h) (hK () trivial))
        · -- 62
         rintro _ S hF hS D hp K hK
         try dsimp only at hF ⊢
         have s57 := hp 57 rfl
         have s61 := hp 61 rfl
         refine d_need (small := [(154, (.bool true)), (158, (.pointer (some (ad bs7 (i2 - 1)))))]) ⟨look_row rfl 57 rfl s57, look_row rfl 61 rfl s61, trivial⟩ ?_
         refine t_guard rfl rfl ?_
         refine tp rfl (lv_load Try.isAgg3 rfl (gives_as (v := .int .i64 ((x0 : Nat) : Int)) (by rw [hx0]) (gives_sl (.head _) (ints_get (by omega))))) ?_
         exact d_closes ⟨look_row rfl 57 rfl s57, look_row rfl 61 rfl s61, trivial⟩ 62 rfl rfl rfl hS (AgreeR.refl _) (t_sat (fun _ h => h) (hK () trivial))
        · -- 63
         rintro _ S hF hS D hp K hK
         try dsimp only at hF ⊢
         have s57 := hp 57 rfl
         refine d_need (small := [(13, (.slice bs7 ((dueL ks ((nw : Nat) : Int)).length) cp8)), (154, (.bool true))]) ⟨look_b rfl rfl, look_row rfl 57 rfl s57, trivial⟩ ?_
         refine t_guard rfl rfl ?_
         refine tp rfl (lv_move rfl) ?_
         exact d_closes ⟨look_b rfl rfl, look_row rfl 57 rfl s57, trivial⟩ 63 rfl rfl rfl hS (AgreeR.refl _) (t_sat (fun _ h => h) (hK () trivial))
        · -- 64
         rintro _ S hF hS D hp K hK
         try dsimp only at hF ⊢
         have s57 := hp 57 rfl
         refine d_need (small := [(14, (.int .i64 ((i2 : Nat) : Int))), (154, (.bool true))]) ⟨look_b rfl rfl, look_row rfl 57 rfl s57, trivial⟩ ?_
         refine t_guard rfl rfl ?_
         refine tp rfl (lv_move rfl) ?_
         exact d_closes ⟨look_b rfl rfl, look_row rfl 57 rfl s57, trivial⟩ 64 rfl rfl rfl hS (AgreeR.refl _) (t_sat (fun _ h => h) (hK () trivial))
        · -- 65
         rintro _ S hF hS D hp K hK
         try dsimp only at hF ⊢
         have s57 := hp 57 rfl
         have s63 := hp 63 rfl
         have s64 := hp 64 rfl
         refine d_need (small := [(154, (.bool true)), (160, (.slice bs7 ((dueL ks ((nw : Nat) : Int)).length) cp8)), (161, (.int .i64 ((i2 : Nat) : Int)))]) ⟨look_row rfl 57 rfl s57, look_row rfl 63 rfl s63, look_row rfl 64 rfl s64, trivial⟩ ?_
         refine t_guard rfl rfl ?_
         refine tp rfl (lv_indexAddr (k' := i2) Try.underlying30 Try.sizeOf3 rfl rfl hok9 (by omega) (by omega) (by omega)) ?_
         exact d_closes ⟨look_row rfl 57 rfl s57, look_row rfl 63 rfl s63, look_row rfl 64 rfl s64, trivial⟩ 65 rfl rfl rfl hS (AgreeR.refl _) (t_sat (fun _ h => h) (hK () trivial))
        · -- 66
         rintro _ S hF hS D hp K hK
         try dsimp only at hF ⊢
         have s57 := hp 57 rfl
         have s65 := hp 65 rfl
         refine d_need (small := [(154, (.bool true)), (162, (.pointer (some (ad bs7 i2))))]) ⟨look_row rfl 57 rfl s57, look_row rfl 65 rfl s65, trivial⟩ ?_
         refine t_guard rfl rfl ?_
         refine tp rfl (lv_load Try.isAgg3 rfl (gives_as (v := .int .i64 ((x1 : Nat) : Int)) (by rw [hx1]) (gives_sl (.head _) (ints_get (by omega))))) ?_
         exact d_closes ⟨look_row rfl 57 rfl s57, look_row rfl 65 rfl s65, trivial⟩ 66 rfl rfl rfl hS (AgreeR.refl _) (t_sat (fun _ h => h) (hK () trivial))
        · -- 67
         rintro _ S hF hS D hp K hK
         try dsimp only at hF ⊢
         have s57 := hp 57 rfl
         have s62 := hp 62 rfl
         have s66 := hp 66 rfl
         refine d_need (small := [(154, (.bool true)), (159, (.int .i64 ((x0 : Nat) : Int))), (163, (.int .i64 ((x1 : Nat) : Int)))]) ⟨look_row rfl 57 rfl s57, look_row rfl 62 rfl s62, look_row rfl 66 rfl s66, trivial⟩ ?_
         refine t_guard rfl rfl ?_
         refine tp rfl (lv_geq rfl rfl (decide_eq_false (by omega))) ?_
         exact d_closes ⟨look_row rfl 57 rfl s57, look_row rfl 62 rfl s62, look_row rfl 66 rfl s66, trivial⟩ 67 rfl rfl rfl hS (AgreeR.refl _) (t_sat (fun _ h => h) (hK () trivial))
        · -- 68
         rintro _ S hF hS D hp K hK
         try dsimp only at hF ⊢
         have s44 := hp 44 rfl
         have s57 := hp 57 rfl
         have s67 := hp 67 rfl
         refine d_need (small := [(141, (.bool false)), (154, (.bool true)), (164, (.bool false))]) ⟨look_row rfl 44 rfl s44, look_row rfl 57 rfl s57, look_row rfl 67 rfl s67, trivial⟩ ?_
         refine t_guard rfl rfl ?_
         refine tp rfl (lv_pick_t rfl rfl) ?_
         exact d_closes ⟨look_row rfl 44 rfl s44, look_row rfl 57 rfl s57, look_row rfl 67 rfl s67, trivial⟩ 68 rfl rfl rfl hS (AgreeR.refl _) (t_sat (fun _ h => h) (hK () trivial))
        · -- 69
         rintro _ S hF hS D hp K hK
         try dsimp only at hF ⊢
         have s31 := hp 31 rfl
         have s44 := hp 44 rfl
         have s68 := hp 68 rfl
         refine d_need (small := [(128, (.bool true)), (141, (.bool false)), (165, (.bool false))]) ⟨look_row rfl 31 rfl s31, look_row rfl 44 rfl s44, look_row rfl 68 rfl s68, trivial⟩ ?_
         refine t_guard rfl rfl ?_
         refine tp rfl (lv_pick_f rfl rfl) ?_
         exact d_closes ⟨look_row rfl 31 rfl s31, look_row rfl 44 rfl s44, look_row rfl 68 rfl s68, trivial⟩ 69 rfl rfl rfl hS (AgreeR.refl _) (t_sat (fun _ h => h) (hK () trivial))
        · -- 70
         rintro _ S hF hS D hp K hK
         try dsimp only at hF ⊢
         have s28 := hp 28 rfl
         have s31 := hp 31 rfl
         have s69 := hp 69 rfl
         refine d_need (small := [(125, (.bool false)), (128, (.bool true)), (166, (.bool false))]) ⟨look_row rfl 28 rfl s28, look_row rfl 31 rfl s31, look_row rfl 69 rfl s69, trivial⟩ ?_
         refine t_guard rfl rfl ?_
         refine tp rfl (lv_pick_t rfl rfl) ?_
         exact d_closes ⟨look_row rfl 28 rfl s28, look_row rfl 31 rfl s31, look_row rfl 69 rfl s69, trivial⟩ 70 rfl rfl rfl hS (AgreeR.refl _) (t_sat (fun _ h => h) (hK () trivial))
        · -- 71
         rintro _ S hF hS D hp K hK
         try dsimp only at hF ⊢
         have s28 := hp 28 rfl
         have s70 := hp 70 rfl
         refine d_need (small := [(125, (.bool false)), (167, (.bool false))]) ⟨look_row rfl 28 rfl s28, look_row rfl 70 rfl s70, trivial⟩ ?_
         refine tp rfl (lv_pick_f rfl rfl) ?_
         exact d_closes ⟨look_row rfl 28 rfl s28, look_row rfl 70 rfl s70, trivial⟩ 71 rfl rfl rfl hS (AgreeR.refl _) (t_sat (fun _ h => h) (hK () trivial))
       · -- behind
        rintro _ hF
        try dsimp only at hF ⊢
        refine t_weak (E' := [(0, (.slice btb times.length ctb)), (1, (.slice bsb stop.length csb)), (2, (.int .i64 ((s : Nat) : Int))), (7, (.bool true)), (8, (.int .i64 ((n : Nat) : Int))), (9, (.pointer (some ⟨p1, 0, none⟩))), (10, (.int .i64 lf)), (11, (.int .i64 ((i : Nat) : Int))), (12, (.int .i64 ((nw : Nat) : Int))), (13, (.slice bs7 ((dueL ks ((nw : Nat) : Int)).length) cp8)), (14, (.int .i64 ((i2 : Nat) : Int))), (15, (.int .i64 ((tmL times).getD x1 0))), (27, (.bool false)), (30, (.bool false)), (75, (.bool true)), (85, (.bool true)), (168, (.bool false))]) ⟨rfl, rfl, rfl, rfl, rfl, rfl, rfl, rfl, rfl, rfl, rfl, rfl, rfl, rfl, rfl, rfl, rfl, trivial⟩ ?_
        refine q_then_n (hK28 _ _ ?_)
        refine c_false rfl ?_
        refine c_skip ?_
        refine q_in_n ?_
        refine q_then_n (hK26 _ _ ?_)
        refine c_region ?_
        refine tp rfl (lv_move rfl) ?_
        refine tp rfl (lv_add (c := ((i2 + 1 : Nat) : Int)) rfl rfl (wr_i64_succ (by omega))) ?_
        refine tp rfl (lv_assign rfl) ?_
        refine t_done ?_
        refine q_then_n ?_
        exact t_weak (by exact ⟨rfl, rfl, rfl, rfl, rfl, rfl, rfl, rfl, rfl, rfl, rfl, rfl, rfl, rfl, trivial⟩) ((hK23 (i2 + 1) (by omega) (by omega)))
      · -- no
       refine c_draw (γ := Unit) (n := 72) Try.mixed rfl rfl (fun _ S => True) (fun _ => [(0, 97, (.int .i64 ((tmL times).getD x1 0))), (1, 98, (.int .i64 ((nw : Nat) : Int))), (2, 99, (.bool false)), (3, 100, (.bool false)), (4, 101, (.int .i64 ((tmL times).getD x1 0))), (5, 102, (.int .i64 ((nw : Nat) : Int))), (6, 103, (.int .i64 ((s : Nat) : Int))), (7, 104, (.int .i64 (((nw : Nat) : Int) - ((s : Nat) : Int)))), (8, 105, (.bool false)), (9, 106, (.bool false)), (10, 107, (.bool false)), (11, 108, (.slice bs7 ((dueL ks ((nw : Nat) : Int)).length) cp8)), (12, 109, (.int .i64 ((i2 : Nat) : Int))), (13, 110, (.pointer (some (ad bs7 i2)))), (14, 111, (.int .i64 ((x1 : Nat) : Int))), (15, 112, (.slice bsb stop.length csb)), (16, 113, (.int .i64 ((stop.length : Nat) : Int))), (17, 114, (.bool true)), (18, 115, (.bool true)), (19, 116, (.slice bsb stop.length csb)), (20, 117, (.slice bs7 ((dueL ks ((nw : Nat) : Int)).length) cp8)), (21, 118, (.int .i64 ((i2 : Nat) : Int))), (22, 119, (.pointer (some (ad bs7 i2)))), (23, 120, (.int .i64 ((x1 : Nat) : Int))), (24, 121, (.pointer (some (ad bsb x1)))), (25, 122, (.bool false)), (26, 123, (.bool false)), (27, 124, (.bool false)), (28, 125, (.bool false)), (29, 126, (.int .i64 ((i2 : Nat) : Int))), (30, 127, (.bool true)), (31, 128, (.bool true)), (32, 129, (.slice btb times.length ctb)), (33, 130, (.slice bs7 ((dueL ks ((nw : Nat) : Int)).length) cp8)), (34, 131, (.int .i64 ((i2 : Nat) : Int))), (35, 132, (.int .i64 ((i2 - 1 : Nat) : Int))), (36, 133, (.pointer (some (ad bs7 (i2 - 1))))), (37, 134, (.int .i64 ((x0 : Nat) : Int))), (38, 135, (.pointer (some (ad btb x0)))), (39, 136, (.int .u8 ((times).getD x0 0))), (40, 137, (.int .i64 ((times).getD x0 0))), (41, 138, (.int .i64 ((tmL times).getD x0 0))), (42, 139, (.int .i64 ((tmL times).getD x1 0))), (43, 140, (.bool false)), (44, 141, (.bool false)), (45, 142, (.slice btb times.length ctb)), (46, 143, (.slice bs7 ((dueL ks ((nw : Nat) : Int)).length) cp8)), (47, 144, (.int .i64 ((i2 : Nat) : Int))), (48, 145, (.int .i64 ((i2 - 1 : Nat) : Int))), (49, 146, (.pointer (some (ad bs7 (i2 - 1))))), (50, 147, (.int .i64 ((x0 : Nat) : Int))), (51, 148, (.pointer (some (ad btb x0)))), (52, 149, (.int .u8 ((times).getD x0 0))), (53, 150, (.int .i64 ((times).getD x0 0))), (54, 151, (.int .i64 ((tmL times).getD x0 0))), (55, 152, (.int .i64 ((tmL times).getD x1 0))), (56, 153, (.bool false)), (57, 154, (.bool false)), (58, 155, undef), (59, 156, undef), (60, 157, undef), (61, 158, undef), (62, 159, undef), (63, 160, undef), (64, 161, undef), (65, 162, undef), (66, 163, undef), (67, 164, undef), (68, 165, (.bool false)), (69, 166, (.bool false)), (70, 167, (.bool false)), (71, 168, (.bool false))]) (fun _ S => (SlV 3 1 (.slice bs7 ((dueL ks ((nw : Nat) : Int)).length) cp8) ((dueL ks ((nw : Nat) : Int)).length) (ints .i64 (dueL ks ((nw : Nat) : Int)))) :: (Blk p1 [(.pointer (some ⟨q2, 0, none⟩))] 37) :: (HeapO q2 n (duR ks ((nw : Nat) : Int))) :: R) (()) trivial (fun _ h => h) (fun _ _ h => h) ?_ ?_
       · -- steps
        refine ⟨?_, ?_, ?_, ?_, ?_, ?_, ?_, ?_, ?_, ?_, ?_, ?_, ?_, ?_, ?_, ?_, ?_, ?_, ?_, ?_, ?_, ?_, ?_, ?_, ?_, ?_, ?_, ?_, ?_, ?_, ?_, ?_, ?_, ?_, ?_, ?_, ?_, ?_, ?_, ?_, ?_, ?_, ?_, ?_, ?_, ?_, ?_, ?_, ?_, ?_, ?_, ?_, ?_, ?_, ?_, ?_, ?_, ?_, ?_, ?_, ?_, ?_, ?_, ?_, ?_, ?_, ?_, ?_, ?_, ?_, ?_, ?_, trivial⟩
        · -- 0
         rintro _ S hF hS D hp K hK
         try dsimp only at hF ⊢
         refine d_need (small := [(15, (.int .i64 ((tmL times).getD x1 0)))]) ⟨look_b rfl rfl, trivial⟩ ?_
         refine tp rfl (lv_move rfl) ?_
         exact d_closes ⟨look_b rfl rfl, trivial⟩ 0 rfl rfl rfl hS (AgreeR.refl _) (t_sat (fun _ h => h) (hK () trivial))
        · -- 1
         rintro _ S hF hS D hp K hK
         try dsimp only at hF ⊢
         refine d_need (small := [(12, (.int .i64 ((nw : Nat) : Int)))]) ⟨look_b rfl rfl, trivial⟩ ?_
         refine tp rfl (lv_move rfl) ?_
         exact d_closes ⟨look_b rfl rfl, trivial⟩ 1 rfl rfl rfl hS (AgreeR.refl _) (t_sat (fun _ h => h) (hK () trivial))
        · -- 2
         rintro _ S hF hS D hp K hK
         try dsimp only at hF ⊢
         have s0 := hp 0 rfl
         have s1 := hp 1 rfl
         refine d_need (small := [(97, (.int .i64 ((tmL times).getD x1 0))), (98, (.int .i64 ((nw : Nat) : Int)))]) ⟨look_row rfl 0 rfl s0, look_row rfl 1 rfl s1, trivial⟩ ?_
         refine tp rfl (lv_gtr rfl rfl (decide_eq_false (by omega))) ?_
         exact d_closes ⟨look_row rfl 0 rfl s0, look_row rfl 1 rfl s1, trivial⟩ 2 rfl rfl rfl hS (AgreeR.refl _) (t_sat (fun _ h => h) (hK () trivial))
        · -- 3
         rintro _ S hF hS D hp K hK
         try dsimp only at hF ⊢
         have s2 := hp 2 rfl
         refine d_need (small := [(99, (.bool false))]) ⟨look_row rfl 2 rfl s2, trivial⟩ ?_
         refine tp rfl (lv_move rfl) ?_
         exact d_closes ⟨look_row rfl 2 rfl s2, trivial⟩ 3 rfl rfl rfl hS (AgreeR.refl _) (t_sat (fun _ h => h) (hK () trivial))
        · -- 4
         rintro _ S hF hS D hp K hK
         try dsimp only at hF ⊢
         have s3 := hp 3 rfl
         refine d_need (small := [(15, (.int .i64 ((tmL times).getD x1 0))), (100, (.bool false))]) ⟨look_b rfl rfl, look_row rfl 3 rfl s3, trivial⟩ ?_
         refine t_guard rfl rfl ?_
         refine tp rfl (lv_move rfl) ?_
         exact d_closes ⟨look_b rfl rfl, look_row rfl 3 rfl s3, trivial⟩ 4 rfl rfl rfl hS (AgreeR.refl _) (t_sat (fun _ h => h) (hK () trivial))
        · -- 5
         rintro _ S hF hS D hp K hK
         try dsimp only at hF ⊢
         have s3 := hp 3 rfl
         refine d_need (small := [(12, (.int .i64 ((nw : Nat) : Int))), (100, (.bool false))]) ⟨look_b rfl rfl, look_row rfl 3 rfl s3, trivial⟩ ?_
         refine t_guard rfl rfl ?_
         refine tp rfl (lv_move rfl) ?_
         exact d_closes ⟨look_b rfl rfl, look_row rfl 3 rfl s3, trivial⟩ 5 rfl rfl rfl hS (AgreeR.refl _) (t_sat (fun _ h => h) (hK () trivial))
        · -- 6
         rintro _ S hF hS D hp K hK
         try dsimp only at hF ⊢
         have s3 := hp 3 rfl
         refine d_need (small := [(2, (.int .i64 ((s : Nat) : Int))), (100, (.bool false))]) ⟨look_b rfl rfl, look_row rfl 3 rfl s3, trivial⟩ ?_
         refine t_guard rfl rfl ?_
         refine tp rfl (lv_move rfl) ?_
         exact d_closes ⟨look_b rfl rfl, look_row rfl 3 rfl s3, trivial⟩ 6 rfl rfl rfl hS (AgreeR.refl _) (t_sat (fun _ h => h) (hK () trivial))
        · -- 7
         rintro _ S hF hS D hp K hK
         try dsimp only at hF ⊢
         have s3 := hp 3 rfl
         have s5 := hp 5 rfl
         have s6 := hp 6 rfl
         refine d_need (small := [(100, (.bool false)), (102, (.int .i64 ((nw : Nat) : Int))), (103, (.int .i64 ((s : Nat) : Int)))]) ⟨look_row rfl 3 rfl s3, look_row rfl 5 rfl s5, look_row rfl 6 rfl s6, trivial⟩ ?_
         refine t_guard rfl rfl ?_
         refine tp rfl (lv_sub (c := ((nw : Nat) : Int) - ((s : Nat) : Int)) rfl rfl (wr_i64 (by omega) (by omega))) ?_
         exact d_closes ⟨look_row rfl 3 rfl s3, look_row rfl 5 rfl s5, look_row rfl 6 rfl s6, trivial⟩ 7 rfl rfl rfl hS (AgreeR.refl _) (t_sat (fun _ h => h) (hK () trivial))
        · -- 8
         rintro _ S hF hS D hp K hK
         try dsimp only at hF ⊢
         have s3 := hp 3 rfl
         have s4 := hp 4 rfl
         have s7 := hp 7 rfl
         refine d_need (small := [(100, (.bool false)), (101, (.int .i64 ((tmL times).getD x1 0))), (104, (.int .i64 (((nw : Nat) : Int) - ((s : Nat) : Int))))]) ⟨look_row rfl 3 rfl s3, look_row rfl 4 rfl s4, look_row rfl 7 rfl s7, trivial⟩ ?_
         refine t_guard rfl rfl ?_
         refine tp rfl (lv_leq rfl rfl (decide_eq_false (by omega))) ?_
         exact d_closes ⟨look_row rfl 3 rfl s3, look_row rfl 4 rfl s4, look_row rfl 7 rfl s7, trivial⟩ 8 rfl rfl rfl hS (AgreeR.refl _) (t_sat (fun _ h => h) (hK () trivial))
        · -- 9
         rintro _ S hF hS D hp K hK
         try dsimp only at hF ⊢
         have s3 := hp 3 rfl
         have s8 := hp 8 rfl
         refine d_need (small := [(100, (.bool false)), (105, (.bool false))]) ⟨look_row rfl 3 rfl s3, look_row rfl 8 rfl s8, trivial⟩ ?_
         refine tp rfl (lv_pick_f rfl rfl) ?_
         exact d_closes ⟨look_row rfl 3 rfl s3, look_row rfl 8 rfl s8, trivial⟩ 9 rfl rfl rfl hS (AgreeR.refl _) (t_sat (fun _ h => h) (hK () trivial))
        · -- 10
         rintro _ S hF hS D hp K hK
         try dsimp only at hF ⊢
         have s9 := hp 9 rfl
         refine d_need (small := [(106, (.bool false))]) ⟨look_row rfl 9 rfl s9, trivial⟩ ?_
         refine tp rfl (lv_move rfl) ?_
         exact d_closes ⟨look_row rfl 9 rfl s9, trivial⟩ 10 rfl rfl rfl hS (AgreeR.refl _) (t_sat (fun _ h => h) (hK () trivial))
        · -- 11
         rintro _ S hF hS D hp K hK
         try dsimp only at hF ⊢
         have s10 := hp 10 rfl
         refine d_need (small := [(13, (.slice bs7 ((dueL ks ((nw : Nat) : Int)).length) cp8)), (107, (.bool false))]) ⟨look_b rfl rfl, look_row rfl 10 rfl s10, trivial⟩ ?_
         refine t_guard rfl rfl ?_
         refine tp rfl (lv_move rfl) ?_
         exact d_closes ⟨look_b rfl rfl, look_row rfl 10 rfl s10, trivial⟩ 11 rfl rfl rfl hS (AgreeR.refl _) (t_sat (fun _ h => h) (hK () trivial))
        · -- 12
         rintro _ S hF hS D hp K hK
         try dsimp only at hF ⊢
         have s10 := hp 10 rfl
         refine d_need (small := [(14, (.int .i64 ((i2 : Nat) : Int))), (107, (.bool false))]) ⟨look_b rfl rfl, look_row rfl 10 rfl s10, trivial⟩ ?_
         refine t_guard rfl rfl ?_
         refine tp rfl (lv_move rfl) ?_
         exact d_closes ⟨look_b rfl rfl, look_row rfl 10 rfl s10, trivial⟩ 12 rfl rfl rfl hS (AgreeR.refl _) (t_sat (fun _ h => h) (hK () trivial))
        · -- 13
         rintro _ S hF hS D hp K hK
         try dsimp only at hF ⊢
         have s10 := hp 10 rfl
         have s11 := hp 11 rfl
         have s12 := hp 12 rfl
         refine d_need (small := [(107, (.bool false)), (108, (.slice bs7 ((dueL ks ((nw : Nat) : Int)).length) cp8)), (109, (.int .i64 ((i2 : Nat) : Int)))]) ⟨look_row rfl 10 rfl s10, look_row rfl 11 rfl s11, look_row rfl 12 rfl s12, trivial⟩ ?_
         refine t_guard rfl rfl ?_
         refine tp rfl (lv_indexAddr (k' := i2) Try.underlying30 Try.sizeOf3 rfl rfl hok9 (by omega) (by omega) (by omega)) ?_
         exact d_closes ⟨look_row rfl 10 rfl s10, look_row rfl 11 rfl s11, look_row rfl 12 rfl s12, trivial⟩ 13 rfl rfl rfl hS (AgreeR.refl _) (t_sat (fun _ h => h) (hK () trivial))
        · -- 14
         rintro _ S hF hS D hp K hK
         try dsimp only at hF ⊢
         have s10 := hp 10 rfl
         have s13 := hp 13 rfl
         refine d_need (small := [(107, (.bool false)), (110, (.pointer (some (ad bs7 i2))))]) ⟨look_row rfl 10 rfl s10, look_row rfl 13 rfl s13, trivial⟩ ?_
         refine t_guard rfl rfl ?_
         refine tp rfl (lv_load Try.isAgg3 rfl (gives_as (v := .int .i64 ((x1 : Nat) : Int)) (by rw [hx1]) (gives_sl (.head _) (ints_get (by omega))))) ?_
         exact d_closes ⟨look_row rfl 10 rfl s10, look_row rfl 13 rfl s13, trivial⟩ 14 rfl rfl rfl hS (AgreeR.refl _) (t_sat (fun _ h => h) (hK () trivial))
        · -- 15
         rintro _ S hF hS D hp K hK
         try dsimp only at hF ⊢
         have s10 := hp 10 rfl
         refine d_need (small := [(1, (.slice bsb stop.length csb)), (107, (.bool false))]) ⟨look_b rfl rfl, look_row rfl 10 rfl s10, trivial⟩ ?_
         refine t_guard rfl rfl ?_
         refine tp rfl (lv_move rfl) ?_
         exact d_closes ⟨look_b rfl rfl, look_row rfl 10 rfl s10, trivial⟩ 15 rfl rfl rfl hS (AgreeR.refl _) (t_sat (fun _ h => h) (hK () trivial))
        · -- 16
         rintro _ S hF hS D hp K hK
         try dsimp only at hF ⊢
         have s10 := hp 10 rfl
         have s15 := hp 15 rfl
         refine d_need (small := [(107, (.bool false)), (112, (.slice bsb stop.length csb))]) ⟨look_row rfl 10 rfl s10, look_row rfl 15 rfl s15, trivial⟩ ?_
         refine t_guard rfl rfl ?_
         refine tp rfl (lv_len Try.underlying23 rfl rfl) ?_
         exact d_closes ⟨look_row rfl 10 rfl s10, look_row rfl 15 rfl s15, trivial⟩ 16 rfl rfl rfl hS (AgreeR.refl _) (t_sat (fun _ h => h) (hK () trivial))
        · -- 17
         rintro _ S hF hS D hp K hK
         try dsimp only at hF ⊢
         have s10 := hp 10 rfl
         have s14 := hp 14 rfl
         have s16 := hp 16 rfl
         refine d_need (small := [(107, (.bool false)), (111, (.int .i64 ((x1 : Nat) : Int))), (113, (.int .i64 ((stop.length : Nat) : Int)))]) ⟨look_row rfl 10 rfl s10, look_row rfl 14 rfl s14, look_row rfl 16 rfl s16, trivial⟩ ?_
         refine t_guard rfl rfl ?_
         refine tp rfl (lv_lss rfl rfl (decide_eq_true h12)) ?_
         exact d_closes ⟨look_row rfl 10 rfl s10, look_row rfl 14 rfl s14, look_row rfl 16 rfl s16, trivial⟩ 17 rfl rfl rfl hS (AgreeR.refl _) (t_sat (fun _ h => h) (hK () trivial))
        · -- 18
         rintro _ S hF hS D hp K hK
         try dsimp only at hF ⊢
         have s10 := hp 10 rfl
         have s17 := hp 17 rfl
         refine d_need (small := [(107, (.bool false)), (114, (.bool true))]) ⟨look_row rfl 10 rfl s10, look_row rfl 17 rfl s17, trivial⟩ ?_
         refine t_guard rfl rfl ?_
         refine tp rfl (lv_move rfl) ?_
         exact d_closes ⟨look_row rfl 10 rfl s10, look_row rfl 17 rfl s17, trivial⟩ 18 rfl rfl rfl hS (AgreeR.refl _) (t_sat (fun _ h => h) (hK () trivial))
        · -- 19
         rintro _ S hF hS D hp K hK
         try dsimp only at hF ⊢
         have s18 := hp 18 rfl
         refine d_need (small := [(1, (.slice bsb stop.length csb)), (115, (.bool true))]) ⟨look_b rfl rfl, look_row rfl 18 rfl s18, trivial⟩ ?_
         refine t_guard rfl rfl ?_
         refine tp rfl (lv_move rfl) ?_
         exact d_closes ⟨look_b rfl rfl, look_row rfl 18 rfl s18, trivial⟩ 19 rfl rfl rfl hS (AgreeR.refl _) (t_sat (fun _ h => h) (hK () trivial))
        · -- 20
         rintro _ S hF hS D hp K hK
         try dsimp only at hF ⊢
         have s18 := hp 18 rfl
         refine d_need (small := [(13, (.slice bs7 ((dueL ks ((nw : Nat) : Int)).length) cp8)), (115, (.bool true))]) ⟨look_b rfl rfl, look_row rfl 18 rfl s18, trivial⟩ ?_
         refine t_guard rfl rfl ?_
         refine tp rfl (lv_move rfl) ?_
         exact d_closes ⟨look_b rfl rfl, look_row rfl 18 rfl s18, trivial⟩ 20 rfl rfl rfl hS (AgreeR.refl _) (t_sat (fun _ h => h) (hK () trivial))
        · -- 21
         rintro _ S hF hS D hp K hK
         try dsimp only at hF ⊢
         have s18 := hp 18 rfl
         refine d_need (small := [(14, (.int .i64 ((i2 : Nat) : Int))), (115, (.bool true))]) ⟨look_b rfl rfl, look_row rfl 18 rfl s18, trivial⟩ ?_
         refine t_guard rfl rfl ?_
         refine tp rfl (lv_move rfl) ?_
         exact d_closes ⟨look_b rfl rfl, look_row rfl 18 rfl s18, trivial⟩ 21 rfl rfl rfl hS (AgreeR.refl _) (t_sat (fun _ h => h) (hK () trivial))
        · -- 22
         rintro _ S hF hS D hp K hK
         try dsimp only at hF ⊢
         have s18 := hp 18 rfl
         have s20 := hp 20 rfl
         have s21 := hp 21 rfl
         refine d_need (small := [(115, (.bool true)), (117, (.slice bs7 ((dueL ks ((nw : Nat) : Int)).length) cp8)), (118, (.int .i64 ((i2 : Nat) : Int)))]) ⟨look_row rfl 18 rfl s18, look_row rfl 20 rfl s20, look_row rfl 21 rfl s21, trivial⟩ ?_
         refine t_guard rfl rfl ?_
         refine tp rfl (lv_indexAddr (k' := i2) Try.underlying30 Try.sizeOf3 rfl rfl hok9 (by omega) (by omega) (by omega)) ?_
         exact d_closes ⟨look_row rfl 18 rfl s18, look_row rfl 20 rfl s20, look_row rfl 21 rfl s21, trivial⟩ 22 rfl rfl rfl hS (AgreeR.refl _) (t_sat (fun _ h => h) (hK () trivial))
        · -- 23
         rintro _ S hF hS D hp K hK
         try dsimp only at hF ⊢
         have s18 := hp 18 rfl
         have s22 := hp 22 rfl
         refine d_need (small := [(115, (.bool true)), (119, (.pointer (some (ad bs7 i2))))]) ⟨look_row rfl 18 rfl s18, look_row rfl 22 rfl s22, trivial⟩ ?_
         refine t_guard rfl rfl ?_
         refine tp rfl (lv_load Try.isAgg3 rfl (gives_as (v := .int .i64 ((x1 : Nat) : Int)) (by rw [hx1]) (gives_sl (.head _) (ints_get (by omega))))) ?_
         exact d_closes ⟨look_row rfl 18 rfl s18, look_row rfl 22 rfl s22, trivial⟩ 23 rfl rfl rfl hS (AgreeR.refl _) (t_sat (fun _ h => h) (hK () trivial))
        · -- 24
         rintro _ S hF hS D hp K hK
         try dsimp only at hF ⊢
         have s18 := hp 18 rfl
         have s19 := hp 19 rfl
         have s23 := hp 23 rfl
         refine d_need (small := [(115, (.bool true)), (116, (.slice bsb stop.length csb)), (120, (.int .i64 ((x1 : Nat) : Int)))]) ⟨look_row rfl 18 rfl s18, look_row rfl 19 rfl s19, look_row rfl 23 rfl s23, trivial⟩ ?_
         refine t_guard rfl rfl ?_
         refine tp rfl (lv_indexAddr (k' := x1) Try.underlying23 Try.sizeOf4 rfl rfl oksb (by omega) (by omega) (by omega)) ?_
         exact d_closes ⟨look_row rfl 18 rfl s18, look_row rfl 19 rfl s19, look_row rfl 23 rfl s23, trivial⟩ 24 rfl rfl rfl hS (AgreeR.refl _) (t_sat (fun _ h => h) (hK () trivial))
        · -- 25
         rintro _ S hF hS D hp K hK
         try dsimp only at hF ⊢
         have s18 := hp 18 rfl
         have s24 := hp 24 rfl
         refine d_need (small := [(115, (.bool true)), (121, (.pointer (some (ad bsb x1))))]) ⟨look_row rfl 18 rfl s18, look_row rfl 24 rfl s24, trivial⟩ ?_
         refine t_guard rfl rfl ?_
         refine tp rfl (lv_load Try.isAgg4 rfl (gives_as (v := .bool false) (by first | rw [hg1] | rw [Int.toNat_natCast, hg1]) (Rd.gives (Rd.cons (Rd.cons (Rd.cons hsb))) (bools_get (by omega))))) ?_
         exact d_closes ⟨look_row rfl 18 rfl s18, look_row rfl 24 rfl s24, trivial⟩ 25 rfl rfl rfl hS (AgreeR.refl _) (t_sat (fun _ h => h) (hK () trivial))
        · -- 26
         rintro _ S hF hS D hp K hK
         try dsimp only at hF ⊢
         have s10 := hp 10 rfl
         have s18 := hp 18 rfl
         have s25 := hp 25 rfl
         refine d_need (small := [(107, (.bool false)), (115, (.bool true)), (122, (.bool false))]) ⟨look_row rfl 10 rfl s10, look_row rfl 18 rfl s18, look_row rfl 25 rfl s25, trivial⟩ ?_
         refine t_guard rfl rfl ?_
         refine tp rfl (lv_pick_t rfl rfl) ?_
         exact d_closes ⟨look_row rfl 10 rfl s10, look_row rfl 18 rfl s18, look_row rfl 25 rfl s25, trivial⟩ 26 rfl rfl rfl hS (AgreeR.refl _) (t_sat (fun _ h => h) (hK () trivial))
        · -- 27
         rintro _ S hF hS D hp K hK
         try dsimp only at hF ⊢
         have s10 := hp 10 rfl
         have s26 := hp 26 rfl
         refine d_need (small := [(107, (.bool false)), (123, (.bool false))]) ⟨look_row rfl 10 rfl s10, look_row rfl 26 rfl s26, trivial⟩ ?_
         refine tp rfl (lv_pick_f rfl rfl) ?_
         exact d_closes ⟨look_row rfl 10 rfl s10, look_row rfl 26 rfl s26, trivial⟩ 27 rfl rfl rfl hS (AgreeR.refl _) (t_sat (fun _ h => h) (hK () trivial))
        · -- 28
         rintro _ S hF hS D hp K hK
         try dsimp only at hF ⊢
         have s27 := hp 27 rfl
         refine d_need (small := [(124, (.bool false))]) ⟨look_row rfl 27 rfl s27, trivial⟩ ?_
         refine tp rfl (lv_move rfl) ?_
         exact d_closes ⟨look_row rfl 27 rfl s27, trivial⟩ 28 rfl rfl rfl hS (AgreeR.refl _) (t_sat (fun _ h => h) (hK () trivial))
        · -- 29
         rintro _ S hF hS D hp K hK
         try dsimp only at hF ⊢
         have s28 := hp 28 rfl
         refine d_need (small := [(14, (.int .i64 ((i2 : Nat) : Int))), (125, (.bool false))]) ⟨look_b rfl rfl, look_row rfl 28 rfl s28, trivial⟩ ?_
         refine t_guard rfl rfl ?_
         refine tp rfl (lv_move rfl) ?_
         exact d_closes ⟨look_b rfl rfl, look_row rfl 28 rfl s28, trivial⟩ 29 rfl rfl rfl hS (AgreeR.refl _) (t_sat (fun _ h => h) (hK () trivial))
        · -- 30
         rintro _ S hF hS D hp K hK
         try dsimp only at hF ⊢
         have s28 := hp 28 rfl
         have s29 := hp 29 rfl
         refine d_need (small := [(125, (.bool false)), (126, (.int .i64 ((i2 : Nat) : Int)))]) ⟨look_row rfl 28 rfl s28, look_row rfl 29 rfl s29, trivial⟩ ?_
         refine t_guard rfl rfl ?_
         refine tp rfl (lv_gtr rfl rfl (decide_eq_true h13)) ?_
         exact d_closes ⟨look_row rfl 28 rfl s28, look_row rfl 29 rfl s29, trivial⟩ 30 rfl rfl rfl hS (AgreeR.refl _) (t_sat (fun _ h => h) (hK () trivial))
        · -- 31
         rintro _ S hF hS D hp K hK
         try dsimp only at hF ⊢
         have s28 := hp 28 rfl
         have s30 := hp 30 rfl
         refine d_need (small := [(125, (.bool false)), (127, (.bool true))]) ⟨look_row rfl 28 rfl s28, look_row rfl 30 rfl s30, trivial⟩ ?_
         refine t_guard rfl rfl ?_
         refine tp rfl (lv_move rfl) ?_
         exact d_closes ⟨look_row rfl 28 rfl s28, look_row rfl 30 rfl s30, trivial⟩ 31 rfl rfl rfl hS (AgreeR.refl _) (t_sat (fun _ h => h) (hK () trivial))
        · -- 32
         rintro _ S hF hS D hp K hK
         try dsimp only at hF ⊢
         have s31 := hp 31 rfl
         refine d_need (small := [(0, (.slice btb times.length ctb)), (128, (.bool true))]) ⟨look_b rfl rfl, look_row rfl 31 rfl s31, trivial⟩ ?_
         refine t_guard rfl rfl ?_
         refine tp rfl (lv_move rfl) ?_
         exact d_closes ⟨look_b rfl rfl, look_row rfl 31 rfl s31, trivial⟩ 32 rfl rfl rfl hS (AgreeR.refl _) (t_sat (fun _ h => h) (hK () trivial))
        · -- 33
         rintro _ S hF hS D hp K hK
         try dsimp only at hF ⊢
         have s31 := hp 31 rfl
         refine d_need (small := [(13, (.slice bs7 ((dueL ks ((nw : Nat) : Int)).length) cp8)), (128, (.bool true))]) ⟨look_b rfl rfl, look_row rfl 31 rfl s31, trivial⟩ ?_
         refine t_guard rfl rfl ?_
         refine tp rfl (lv_move rfl) ?_
         exact d_closes ⟨look_b rfl rfl, look_row rfl 31 rfl s31, trivial⟩ 33 rfl rfl rfl hS (AgreeR.refl _) (t_sat (fun _ h => h) (hK () trivial))
        · -- 34
         rintro _ S hF hS D hp K hK
         try dsimp only at hF ⊢
         have s31 := hp 31 rfl
         refine d_need (small := [(14, (.int .i64 ((i2 : Nat) : Int))), (128, (.bool true))]) ⟨look_b rfl rfl, look_row rfl 31 rfl s31, trivial⟩ ?_
         refine t_guard rfl rfl ?_
         refine tp rfl (lv_move rfl) ?_
         exact d_closes ⟨look_b rfl rfl, look_row rfl 31 rfl s31, trivial⟩ 34 rfl rfl rfl hS (AgreeR.refl _) (t_sat (fun _ h => h) (hK () trivial))
        · -- 35
         rintro _ S hF hS D hp K hK
         try dsimp only at hF ⊢
         have s31 := hp 31 rfl
         have s34 := hp 34 rfl
         refine d_need (small := [(128, (.bool true)), (131, (.int .i64 ((i2 : Nat) : Int)))]) ⟨look_row rfl 31 rfl s31, look_row rfl 34 rfl s34, trivial⟩ ?_
         refine t_guard rfl rfl ?_
         refine tp rfl (lv_sub (c := ((i2 - 1 : Nat) : Int)) rfl rfl ((wr_i64 (by omega) (by omega)).trans (by omega))) ?_
         exact d_closes ⟨look_row rfl 31 rfl s31, look_row rfl 34 rfl s34, trivial⟩ 35 rfl rfl rfl hS (AgreeR.refl _) (t_sat (fun _ h => h) (hK () trivial))
        · -- 36
         rintro _ S hF hS D hp K hK
         try dsimp only at hF ⊢
         have s31 := hp 31 rfl
         have s33 := hp 33 rfl
         have s35 := hp 35 rfl
         refine d_need (small := [(128, (.bool true)), (130, (.slice bs7 ((dueL ks ((nw : Nat) : Int)).length) cp8)), (132, (.int .i64 ((i2 - 1 : Nat) : Int)))]) ⟨look_row rfl 31 rfl s31, look_row rfl 33 rfl s33, look_row rfl 35 rfl s35, trivial⟩ ?_
         refine t_guard rfl rfl ?_
         refine tp rfl (lv_indexAddr (k' := i2 - 1) Try.underlying30 Try.sizeOf3 rfl rfl hok9 (by omega) (by omega) (by omega)) ?_
         exact d_closes ⟨look_row rfl 31 rfl s31, look_row rfl 33 rfl s33, look_row rfl 35 rfl s35, trivial⟩ 36 rfl rfl rfl hS (AgreeR.refl _) (t_sat (fun _ h => h) (hK () trivial))
        · -- 37
         rintro _ S hF hS D hp K hK
         try dsimp only at hF ⊢
         have s31 := hp 31 rfl
         have s36 := hp 36 rfl
         refine d_need (small := [(128, (.bool true)), (133, (.pointer (some (ad bs7 (i2 - 1)))))]) ⟨look_row rfl 31 rfl s31, look_row rfl 36 rfl s36, trivial⟩ ?_
         refine t_guard rfl rfl ?_
         refine tp rfl (lv_load Try.isAgg3 rfl (gives_as (v := .int .i64 ((x0 : Nat) : Int)) (by rw [hx0]) (gives_sl (.head _) (ints_get (by omega))))) ?_
         exact d_closes ⟨look_row rfl 31 rfl s31, look_row rfl 36 rfl s36, trivial⟩ 37 rfl rfl rfl hS (AgreeR.refl _) (t_sat (fun _ h => h) (hK () trivial))
        · -- 38
         rintro _ S hF hS D hp K hK
         try dsimp only at hF ⊢
         have s31 := hp 31 rfl
         have s32 := hp 32 rfl
         have s37 := hp 37 rfl
         refine d_need (small := [(128, (.bool true)), (129, (.slice btb times.length ctb)), (134, (.int .i64 ((x0 : Nat) : Int)))]) ⟨look_row rfl 31 rfl s31, look_row rfl 32 rfl s32, look_row rfl 37 rfl s37, trivial⟩ ?_
         refine t_guard rfl rfl ?_
         refine tp rfl (lv_indexAddr (k' := x0) Try.underlying22 Try.sizeOf5 rfl rfl oktb (by omega) (by omega) (by omega)) ?_
         exact d_closes ⟨look_row rfl 31 rfl s31, look_row rfl 32 rfl s32, look_row rfl 37 rfl s37, trivial⟩ 38 rfl rfl rfl hS (AgreeR.refl _) (t_sat (fun _ h => h) (hK () trivial))
        · -- 39
         rintro _ S hF hS D hp K hK
         try dsimp only at hF ⊢
         have s31 := hp 31 rfl
         have s38 := hp 38 rfl
         refine d_need (small := [(128, (.bool true)), (135, (.pointer (some (ad btb x0))))]) ⟨look_row rfl 31 rfl s31, look_row rfl 38 rfl s38, trivial⟩ ?_
         refine t_guard rfl rfl ?_
         refine tp rfl (lv_load Try.isAgg5 rfl (Rd.gives (Rd.cons (Rd.cons (Rd.cons htb))) (ints_get (by omega)))) ?_
         exact d_closes ⟨look_row rfl 31 rfl s31, look_row rfl 38 rfl s38, trivial⟩ 39 rfl rfl rfl hS (AgreeR.refl _) (t_sat (fun _ h => h) (hK () trivial))
        · -- 40
         rintro _ S hF hS D hp K hK
         try dsimp only at hF ⊢
         have s31 := hp 31 rfl
         have s39 := hp 39 rfl
         refine d_need (small := [(128, (.bool true)), (136, (.int .u8 ((times).getD x0 0)))]) ⟨look_row rfl 31 rfl s31, look_row rfl 39 rfl s39, trivial⟩ ?_
         refine t_guard rfl rfl ?_
         refine tp rfl (lv_convert (c := (times).getD x0 0) Try.underlying5 Try.underlying3 rfl (wr_i64 (by omega) (by omega))) ?_
         exact d_closes ⟨look_row rfl 31 rfl s31, look_row rfl 39 rfl s39, trivial⟩ 40 rfl rfl rfl hS (AgreeR.refl _) (t_sat (fun _ h => h) (hK () trivial))
        · -- 41
         rintro _ S hF hS D hp K hK
         try dsimp only at hF ⊢
         have s31 := hp 31 rfl
         have s40 := hp 40 rfl
         refine d_need (small := [(128, (.bool true)), (137, (.int .i64 ((times).getD x0 0)))]) ⟨look_row rfl 31 rfl s31, look_row rfl 40 rfl s40, trivial⟩ ?_
         refine t_guard rfl rfl ?_
         refine tp rfl (lv_rem (c := ((tmL times).getD x0 0)) rfl rfl (by omega) ((Int.tmod_eq_emod_of_nonneg (by omega)).trans htx0.symm)) ?_
         exact d_closes ⟨look_row rfl 31 rfl s31, look_row rfl 40 rfl s40, trivial⟩ 41 rfl rfl rfl hS (AgreeR.refl _) (t_sat (fun _ h => h) (hK () trivial))
        · -- 42
         rintro _ S hF hS D hp K hK
         try dsimp only at hF ⊢
         have s31 := hp 31 rfl
         refine d_need (small := [(15, (.int .i64 ((tmL times).getD x1 0))), (128, (.bool true))]) ⟨look_b rfl rfl, look_row rfl 31 rfl s31, trivial⟩ ?_
         refine t_guard rfl rfl ?_
         refine tp rfl (lv_move rfl) ?_
         exact d_closes ⟨look_b rfl rfl, look_row rfl 31 rfl s31, trivial⟩ 42 rfl rfl rfl hS (AgreeR.refl _) (t_sat (fun _ h => h) (hK () trivial))
        · -- 43
         rintro _ S hF hS D hp K hK
         try dsimp only at hF ⊢
         have s31 := hp 31 rfl
         have s41 := hp 41 rfl
         have s42 := hp 42 rfl
         refine d_need (small := [(128, (.bool true)), (138, (.int .i64 ((tmL times).getD x0 0))), (139, (.int .i64 ((tmL times).getD x1 0)))]) ⟨look_row rfl 31 rfl s31, look_row rfl 41 rfl s41, look_row rfl 42 rfl s42, trivial⟩ ?_
         refine t_guard rfl rfl ?_
         refine tp rfl (lv_gtr rfl rfl (decide_eq_false (by omega))) ?_
         exact d_closes ⟨look_row rfl 31 rfl s31, look_row rfl 41 rfl s41, look_row rfl 42 rfl s42, trivial⟩ 43 rfl rfl rfl hS (AgreeR.refl _) (t_sat (fun _ h => h) (hK () trivial))
        · -- 44
         rintro _ S hF hS D hp K hK
         try dsimp only at hF ⊢
         have s31 := hp 31 rfl
         have s43 := hp 43 rfl
         refine d_need (small := [(128, (.bool true)), (140, (.bool false))]) ⟨look_row rfl 31 rfl s31, look_row rfl 43 rfl s43, trivial⟩ ?_
         refine t_guard rfl rfl ?_
         refine tp rfl (lv_move rfl) ?_
         exact d_closes ⟨look_row rfl 31 rfl s31, look_row rfl 43 rfl s43, trivial⟩ 44 rfl rfl rfl hS (AgreeR.refl _) (t_sat (fun _ h => h) (hK () trivial))
        · -- 45
         rintro _ S hF hS D hp K hK
         try dsimp only at hF ⊢
         have s44 := hp 44 rfl
         refine d_need (small := [(0, (.slice btb times.length ctb)), (141, (.bool false))]) ⟨look_b rfl rfl, look_row rfl 44 rfl s44, trivial⟩ ?_
         refine t_guard rfl rfl ?_
         refine tp rfl (lv_move rfl) ?_
         exact d_closes ⟨look_b rfl rfl, look_row rfl 44 rfl s44, trivial⟩ 45 rfl rfl rfl hS (AgreeR.refl _) (t_sat (fun _ h => h) (hK () trivial))
        · -- 46
         rintro _ S hF hS D hp K hK
         try dsimp only at hF ⊢
         have s44 := hp 44 rfl
         refine d_need (small := [(13, (.slice bs7 ((dueL ks ((nw : Nat) : Int)).length) cp8)), (141, (.bool false))]) ⟨look_b rfl rfl, look_row rfl 44 rfl s44, trivial⟩ ?_
         refine t_guard rfl rfl ?_
         refine tp rfl (lv_move rfl) ?_
         exact d_closes ⟨look_b rfl rfl, look_row rfl 44 rfl s44, trivial⟩ 46 rfl rfl rfl hS (AgreeR.refl _) (t_sat (fun _ h => h) (hK () trivial))
        · -- 47
         rintro _ S hF hS D hp K hK
         try dsimp only at hF ⊢
         have s44 := hp 44 rfl
         refine d_need (small := [(14, (.int .i64 ((i2 : Nat) : Int))), (141, (.bool false))]) ⟨look_b rfl rfl, look_row rfl 44 rfl s44, trivial⟩ ?_
         refine t_guard rfl rfl ?_
         refine tp rfl (lv_move rfl) ?_
         exact d_closes ⟨look_b rfl rfl, look_row rfl 44 rfl s44, trivial⟩ 47 rfl rfl rfl hS (AgreeR.refl _) (t_sat (fun _ h => h) (hK () trivial))
        · -- 48
         rintro _ S hF hS D hp K hK
         try dsimp only at hF ⊢
         have s44 := hp 44 rfl
         have s47 := hp 47 rfl
         refine d_need (small := [(141, (.bool false)), (144, (.int .i64 ((i2 : Nat) : Int)))]) ⟨look_row rfl 44 rfl s44, look_row rfl 47 rfl s47, trivial⟩ ?_
         refine t_guard rfl rfl ?_
         refine tp rfl (lv_sub (c := ((i2 - 1 : Nat) : Int)) rfl rfl ((wr_i64 (by omega) (by omega)).trans (by omega))) ?_
         exact d_closes ⟨look_row rfl 44 rfl s44, look_row rfl 47 rfl s47, trivial⟩ 48 rfl rfl rfl hS (AgreeR.refl _) (t_sat (fun _ h => h) (hK () trivial))
        · -- 49
         rintro _ S hF hS D hp K hK
         try dsimp only at hF ⊢
         have s44 := hp 44 rfl
         have s46 := hp 46 rfl
         have s48 := hp 48 rfl
         refine d_need (small := [(141, (.bool false)), (143, (.slice bs7 ((dueL ks ((nw : Nat) : Int)).length) cp8)), (145, (.int .i64 ((i2 - 1 : Nat) : Int)))]) ⟨look_row rfl 44 rfl s44, look_row rfl 46 rfl s46, look_row rfl 48 rfl s48, trivial⟩ ?_
         refine t_guard rfl rfl ?_
         refine tp rfl (lv_indexAddr (k' := i2 - 1) Try.underlying30 Try.sizeOf3 rfl rfl hok9 (by omega) (by omega) (by omega)) ?_
         exact d_closes ⟨look_row rfl 44 rfl s44, look_row rfl 46 rfl s46, look_row rfl 48 rfl s48, trivial⟩ 49 rfl rfl rfl hS (AgreeR.refl _) (t_sat (fun _ h => h) (hK () trivial))
        · -- 50
         rintro _ S hF hS D hp K hK
         try dsimp only at hF ⊢
         have s44 := hp 44 rfl
         have s49 := hp 49 rfl
         refine d_need (small := [(141, (.bool false)), (146, (.pointer (some (ad bs7 (i2 - 1)))))]) ⟨look_row rfl 44 rfl s44, look_row rfl 49 rfl s49, trivial⟩ ?_
         refine t_guard rfl rfl ?_
         refine tp rfl (lv_load Try.isAgg3 rfl (gives_as (v := .int .i64 ((x0 : Nat) : Int)) (by rw [hx0]) (gives_sl (.head _) (ints_get (by omega))))) ?_
         exact d_closes ⟨look_row rfl 44 rfl s44, look_row rfl 49 rfl s49, trivial⟩ 50 rfl rfl rfl hS (AgreeR.refl _) (t_sat (fun _ h => h) (hK () trivial))
        · -- 51
         rintro _ S hF hS D hp K hK
         try dsimp only at hF ⊢
         have s44 := hp 44 rfl
         have s45 := hp 45 rfl
         have s50 := hp 50 rfl
         refine d_need (small := [(141, (.bool false)), (142, (.slice btb times.length ctb)), (147, (.int .i64 ((x0 : Nat) : Int)))]) ⟨look_row rfl 44 rfl s44, look_row rfl 45 rfl s45, look_row rfl 50 rfl s50, trivial⟩ ?_
         refine t_guard rfl rfl ?_
         refine tp rfl (lv_indexAddr (k' := x0) Try.underlying22 Try.sizeOf5 rfl rfl oktb (by omega) (by omega) (by omega)) ?_
         exact d_closes ⟨look_row rfl 44 rfl s44, look_row rfl 45 rfl s45, look_row rfl 50 rfl s50, trivial⟩ 51 rfl rfl rfl hS (AgreeR.refl _) (t_sat (fun _ h => h) (hK () trivial))
        · -- 52
         rintro _ S hF hS D hp K hK
         try dsimp only at hF ⊢
         have s44 := hp 44 rfl
         have s51 := hp 51 rfl
         refine d_need (small := [(141, (.bool false)), (148, (.pointer (some (ad btb x0))))]) ⟨look_row rfl 44 rfl s44, look_row rfl 51 rfl s51, trivial⟩ ?_
         refine t_guard rfl rfl ?_
         refine tp rfl (lv_load Try.isAgg5 rfl (Rd.gives (Rd.cons (Rd.cons (Rd.cons htb))) (ints_get (by omega)))) ?_
         exact d_closes ⟨look_row rfl 44 rfl s44, look_row rfl 51 rfl s51, trivial⟩ 52 rfl rfl rfl hS (AgreeR.refl _) (t_sat (fun _ h => h) (hK () trivial))
        · -- 53
         rintro _ S hF hS D hp K hK
         try dsimp only at hF ⊢
         have s44 := hp 44 rfl
         have s52 := hp 52 rfl
         refine d_need (small := [(141, (.bool false)), (149, (.int .u8 ((times).getD x0 0)))]) ⟨look_row rfl 44 rfl s44, look_row rfl 52 rfl s52, trivial⟩ ?_
         refine t_guard rfl rfl ?_
         refine tp rfl (lv_convert (c := (times).getD x0 0) Try.underlying5 Try.underlying3 rfl (wr_i64 (by omega) (by omega))) ?_
         exact d_closes ⟨look_row rfl 44 rfl s44, look_row rfl 52 rfl s52, trivial⟩ 53 rfl rfl rfl hS (AgreeR.refl _) (t_sat (fun _ h => h) (hK () trivial))
        · -- 54
         rintro _ S hF hS D hp K hK
         try dsimp only at hF ⊢
         have s44 := hp 44 rfl
         have s53 := hp 53 rfl
         refine d_need (small := [(141, (.bool false)), (150, (.int .i64 ((times).getD x0 0)))]) ⟨look_row rfl 44 rfl s44, look_row rfl 53 rfl s53, trivial⟩ ?_
         refine t_guard rfl rfl ?_
         refine tp rfl (lv_rem (c := ((tmL times).getD x0 0)) rfl rfl (by omega) ((Int.tmod_eq_emod_of_nonneg (by omega)).trans htx0.symm)) ?_
         exact d_closes ⟨look_row rfl 44 rfl s44, look_row rfl 53 rfl s53, trivial⟩ 54 rfl rfl rfl hS (AgreeR.refl _) (t_sat (fun _ h => h) (hK () trivial))
        · -- 55
         rintro _ S hF hS D hp K hK
         try dsimp only at hF ⊢
         have s44 := hp 44 rfl
         refine d_need (small := [(15, (.int .i64 ((tmL times).getD x1 0))), (141, (.bool false))]) ⟨look_b rfl rfl, look_row rfl 44 rfl s44, trivial⟩ ?_
         refine t_guard rfl rfl ?_
         refine tp rfl (lv_move rfl) ?_
         exact d_closes ⟨look_b rfl rfl, look_row rfl 44 rfl s44, trivial⟩ 55 rfl rfl rfl hS (AgreeR.refl _) (t_sat (fun _ h => h) (hK () trivial))
        · -- 56
         rintro _ S hF hS D hp K hK
         try dsimp only at hF ⊢
         have s44 := hp 44 rfl
         have s54 := hp 54 rfl
         have s55 := hp 55 rfl
         refine d_need (small := [(141, (.bool false)), (151, (.int .i64 ((tmL times).getD x0 0))), (152, (.int .i64 ((tmL times).getD x1 0)))]) ⟨look_row rfl 44 rfl s44, look_row rfl 54 rfl s54, look_row rfl 55 rfl s55, trivial⟩ ?_
         refine t_guard rfl rfl ?_
         refine tp rfl (lv_eql rfl rfl (beq_eq_false_iff_ne.2 h14)) ?_
         exact d_closes ⟨look_row rfl 44 rfl s44, look_row rfl 54 rfl s54, look_row rfl 55 rfl s55, trivial⟩ 56 rfl rfl rfl hS (AgreeR.refl _) (t_sat (fun _ h => h) (hK () trivial))
        · -- 57
         rintro _ S hF hS D hp K hK
         try dsimp only at hF ⊢
         have s44 := hp 44 rfl
         have s56 := hp 56 rfl
         refine d_need (small := [(141, (.bool false)), (153, (.bool false))]) ⟨look_row rfl 44 rfl s44, look_row rfl 56 rfl s56, trivial⟩ ?_
         refine t_guard rfl rfl ?_
         refine tp rfl (lv_move rfl) ?_
         exact d_closes ⟨look_row rfl 44 rfl s44, look_row rfl 56 rfl s56, trivial⟩ 57 rfl rfl rfl hS (AgreeR.refl _) (t_sat (fun _ h => h) (hK () trivial))
        · -- 58
         rintro _ S hF hS D hp K hK
         try dsimp only at hF ⊢
         have s57 := hp 57 rfl
         refine d_need (small := [(13, (.slice bs7 ((dueL ks ((nw : Nat) : Int)).length) cp8)), (154, (.bool false))]) ⟨look_b rfl rfl, look_row rfl 57 rfl s57, trivial⟩ ?_
         refine t_skip rfl rfl rfl ?_
         exact d_closes ⟨look_b rfl rfl, look_row rfl 57 rfl s57, trivial⟩ 58 rfl rfl rfl hS (AgreeR.refl _) (t_sat (fun _ h => h) (hK () trivial))
        · -- 59
         rintro _ S hF hS D hp K hK
         try dsimp only at hF ⊢
         have s57 := hp 57 rfl
         refine d_need (small := [(14, (.int .i64 ((i2 : Nat) : Int))), (154, (.bool false))]) ⟨look_b rfl rfl, look_row rfl 57 rfl s57, trivial⟩ ?_
         refine t_skip rfl rfl rfl ?_
         exact d_closes ⟨look_b rfl rfl, look_row rfl 57 rfl s57, trivial⟩ 59 rfl rfl rfl hS (AgreeR.refl _) (t_sat (fun _ h => h) (hK () trivial))
        · -- 60
         rintro _ S hF hS D hp K hK
         try dsimp only at hF ⊢
         have s57 := hp 57 rfl
         have s59 := hp 59 rfl
         refine d_need (small := [(154, (.bool false)), (156, undef)]) ⟨look_row rfl 57 rfl s57, look_row rfl 59 rfl s59, trivial⟩ ?_
         refine t_skip rfl rfl rfl ?_
         exact d_closes ⟨look_row rfl 57 rfl s57, look_row rfl 59 rfl s59, trivial⟩ 60 rfl rfl rfl hS (AgreeR.refl _) (t_sat (fun _ h => h) (hK () trivial))
        · -- 61
         rintro _ S hF hS D hp K hK
         try dsimp only at hF ⊢
         have s57 := hp 57 rfl
         have s58 := hp 58 rfl
         have s60 := hp 60 rfl
         refine d_need (small := [(154, (.bool false)), (155, undef), (157, undef)]) ⟨look_row rfl 57 rfl s57, look_row rfl 58 rfl s58, look_row rfl 60 rfl s60, trivial⟩ ?_
         refine t_skip rfl rfl rfl ?_
         exact d_closes ⟨look_row rfl 57 rfl s57, look_row rfl 58 rfl s58, look_row rfl 60 rfl s60, trivial⟩ 61 rfl rfl rfl hS (AgreeR.refl _) (t_sat (fun _ h => h) (hK () trivial))
        · -- 62
         rintro _ S hF hS D hp K hK
         try dsimp only at hF ⊢
         have s57 := hp 57 rfl
         have s61 := hp 61 rfl
         refine d_need (small := [(154, (.bool false)), (158, undef)]) ⟨look_row rfl 57 rfl s57, look_row rfl 61 rfl s61, trivial⟩ ?_
         refine t_skip rfl rfl rfl ?_
         exact d_closes ⟨look_row rfl 57 rfl s57, look_row rfl 61 rfl s61, trivial⟩ 62 rfl rfl rfl hS (AgreeR.refl _) (t_sat (fun _ h => h) (hK () trivial))
        · -- 63
         rintro _ S hF hS D hp K hK
         try dsimp only at hF ⊢
         have s57 := hp 57 rfl
         refine d_need (small := [(13, (.slice bs7 ((dueL ks ((nw : Nat) : Int)).length) cp8)), (154, (.bool false))]) ⟨look_b rfl rfl, look_row rfl 57 rfl s57, trivial⟩ ?_
         refine t_skip rfl rfl rfl ?_
         exact d_closes ⟨look_b rfl rfl, look_row rfl 57 rfl s57, trivial⟩ 63 rfl rfl rfl hS (AgreeR.refl _) (t_sat (fun _ h => h) (hK () trivial))
        · -- 64
         rintro _ S hF hS D hp K hK
         try dsimp only at hF ⊢
         have s57 := hp 57 rfl
         refine d_need (small := [(14, (.int .i64 ((i2 : Nat) : Int))), (154, (.bool false))]) ⟨look_b rfl rfl, look_row rfl 57 rfl s57, trivial⟩ ?_
         refine t_skip rfl rfl rfl ?_
         exact d_closes ⟨look_b rfl rfl, look_row rfl 57 rfl s57, trivial⟩ 64 rfl rfl rfl hS (AgreeR.refl _) (t_sat (fun _ h => h) (hK () trivial))
        · -- 65
         rintro _ S hF hS D hp K hK
         try dsimp only at hF ⊢
         have s57 := hp 57 rfl
         have s63 := hp 63 rfl
         have s64 := hp 64 rfl
         refine d_need (small := [(154, (.bool false)), (160, undef), (161, undef)]) ⟨look_row rfl 57 rfl s57, look_row rfl 63 rfl s63, look_row rfl 64 rfl s64, trivial⟩ ?_
         refine t_skip rfl rfl rfl ?_
         exact d_closes ⟨look_row rfl 57 rfl s57, look_row rfl 63 rfl s63, look_row rfl 64 rfl s64, trivial⟩ 65 rfl rfl rfl hS (AgreeR.refl _) (t_sat (fun _ h => h) (hK () trivial))
        · -- 66
         rintro _ S hF hS D hp K hK
         try dsimp only at hF ⊢
         have s57 := hp 57 rfl
         have s65 := hp 65 rfl
         refine d_need (small := [(154, (.bool false)), (162, undef)]) ⟨look_row rfl 57 rfl s57, look_row rfl 65 rfl s65, trivial⟩ ?_
         refine t_skip rfl rfl rfl ?_
         exact d_closes ⟨look_row rfl 57 rfl s57, look_row rfl 65 rfl s65, trivial⟩ 66 rfl rfl rfl hS (AgreeR.refl _) (t_sat (fun _ h => h) (hK () trivial))
        · -- 67
         rintro _ S hF hS D hp K hK
         try dsimp only at hF ⊢
         have s57 := hp 57 rfl
         have s62 := hp 62 rfl
         have s66 := hp 66 rfl
         refine d_need (small := [(154, (.bool false)), (159, undef), (163, undef)]) ⟨look_row rfl 57 rfl s57, look_row rfl 62 rfl s62, look_row rfl 66 rfl s66, trivial⟩ ?_
         refine t_skip rfl rfl rfl ?_
         exact d_closes ⟨look_row rfl 57 rfl s57, look_row rfl 62 rfl s62, look_row rfl 66 rfl s66, trivial⟩ 67 rfl rfl rfl hS (AgreeR.refl _) (t_sat (fun _ h => h) (hK () trivial))
        · -- 68
         rintro _ S hF hS D hp K hK
         try dsimp only at hF ⊢
         have s44 := hp 44 rfl
         have s57 := hp 57 rfl
         have s67 := hp 67 rfl
         refine d_need (small := [(141, (.bool false)), (154, (.bool false)), (164, undef)]) ⟨look_row rfl 44 rfl s44, look_row rfl 57 rfl s57, look_row rfl 67 rfl s67, trivial⟩ ?_
         refine t_guard rfl rfl ?_
         refine tp rfl (lv_pick_f rfl rfl) ?_
         exact d_closes ⟨look_row rfl 44 rfl s44, look_row rfl 57 rfl s57, look_row rfl 67 rfl s67, trivial⟩ 68 rfl rfl rfl hS (AgreeR.refl _) (t_sat (fun _ h => h) (hK () trivial))
        · -- 69
         rintro _ S hF hS D hp K hK
         try dsimp only at hF ⊢
         have s31 := hp 31 rfl
         have s44 := hp 44 rfl
         have s68 := hp 68 rfl
         refine d_need (small := [(128, (.bool true)), (141, (.bool false)), (165, (.bool false))]) ⟨look_row rfl 31 rfl s31, look_row rfl 44 rfl s44, look_row rfl 68 rfl s68, trivial⟩ ?_
         refine t_guard rfl rfl ?_
         refine tp rfl (lv_pick_f rfl rfl) ?_
         exact d_closes ⟨look_row rfl 31 rfl s31, look_row rfl 44 rfl s44, look_row rfl 68 rfl s68, trivial⟩ 69 rfl rfl rfl hS (AgreeR.refl _) (t_sat (fun _ h => h) (hK () trivial))
        · -- 70
         rintro _ S hF hS D hp K hK
         try dsimp only at hF ⊢
         have s28 := hp 28 rfl
         have s31 := hp 31 rfl
         have s69 := hp 69 rfl
         refine d_need (small := [(125, (.bool false)), (128, (.bool true)), (166, (.bool false))]) ⟨look_row rfl 28 rfl s28, look_row rfl 31 rfl s31, look_row rfl 69 rfl s69, trivial⟩ ?_
         refine t_guard rfl rfl ?_
         refine tp rfl (lv_pick_t rfl rfl) ?_
         exact d_closes ⟨look_row rfl 28 rfl s28, look_row rfl 31 rfl s31, look_row rfl 69 rfl s69, trivial⟩ 70 rfl rfl rfl hS (AgreeR.refl _) (t_sat (fun _ h => h) (hK () trivial))
        · -- 71
         rintro _ S hF hS D hp K hK
         try dsimp only at hF ⊢
         have s28 := hp 28 rfl
         have s70 := hp 70 rfl
         refine d_need (small := [(125, (.bool false)), (167, (.bool false))]) ⟨look_row rfl 28 rfl s28, look_row rfl 70 rfl s70, trivial⟩ ?_
         refine tp rfl (lv_pick_f rfl rfl) ?_
         exact d_closes ⟨look_row rfl 28 rfl s28, look_row rfl 70 rfl s70, trivial⟩ 71 rfl rfl rfl hS (AgreeR.refl _) (t_sat (fun _ h => h) (hK () trivial))
       · -- behind
        rintro _ hF
        try dsimp only at hF ⊢
        refine t_weak (E' := [(0, (.slice btb times.length ctb)), (1, (.slice bsb stop.length csb)), (2, (.int .i64 ((s : Nat) : Int))), (7, (.bool true)), (8, (.int .i64 ((n : Nat) : Int))), (9, (.pointer (some ⟨p1, 0, none⟩))), (10, (.int .i64 lf)), (11, (.int .i64 ((i : Nat) : Int))), (12, (.int .i64 ((nw : Nat) : Int))), (13, (.slice bs7 ((dueL ks ((nw : Nat) : Int)).length) cp8)), (14, (.int .i64 ((i2 : Nat) : Int))), (15, (.int .i64 ((tmL times).getD x1 0))), (27, (.bool false)), (30, (.bool false)), (75, (.bool true)), (85, (.bool true)), (168, (.bool false))]) ⟨rfl, rfl, rfl, rfl, rfl, rfl, rfl, rfl, rfl, rfl, rfl, rfl, rfl, rfl, rfl, rfl, rfl, trivial⟩ ?_
        refine q_then_n (hK28 _ _ ?_)
        refine c_false rfl ?_
        refine c_skip ?_
        refine q_in_n ?_
        refine q_then_n (hK26 _ _ ?_)
        refine c_region ?_
        refine tp rfl (lv_move rfl) ?_
        refine tp rfl (lv_add (c := ((i2 + 1 : Nat) : Int)) rfl rfl (wr_i64_succ (by omega))) ?_
        refine tp rfl (lv_assign rfl) ?_
        refine t_done ?_
        refine q_then_n ?_
        exact t_weak (by exact ⟨rfl, rfl, rfl, rfl, rfl, rfl, rfl, rfl, rfl, rfl, rfl, rfl, rfl, rfl, trivial⟩) ((hK23 (i2 + 1) (by omega) (by omega)))
     · -- no
      refine c_draw (γ := Unit) (n := 72) Try.mixed rfl rfl (fun _ S => True) (fun _ => [(0, 97, (.int .i64 ((tmL times).getD x1 0))), (1, 98, (.int .i64 ((nw : Nat) : Int))), (2, 99, (.bool false)), (3, 100, (.bool false)), (4, 101, (.int .i64 ((tmL times).getD x1 0))), (5, 102, (.int .i64 ((nw : Nat) : Int))), (6, 103, (.int .i64 ((s : Nat) : Int))), (7, 104, (.int .i64 (((nw : Nat) : Int) - ((s : Nat) : Int)))), (8, 105, (.bool false)), (9, 106, (.bool false)), (10, 107, (.bool false)), (11, 108, (.slice bs7 ((dueL ks ((nw : Nat) : Int)).length) cp8)), (12, 109, (.int .i64 ((i2 : Nat) : Int))), (13, 110, (.pointer (some (ad bs7 i2)))), (14, 111, (.int .i64 ((x1 : Nat) : Int))), (15, 112, (.slice bsb stop.length csb)), (16, 113, (.int .i64 ((stop.length : Nat) : Int))), (17, 114, (.bool true)), (18, 115, (.bool true)), (19, 116, (.slice bsb stop.length csb)), (20, 117, (.slice bs7 ((dueL ks ((nw : Nat) : Int)).length) cp8)), (21, 118, (.int .i64 ((i2 : Nat) : Int))), (22, 119, (.pointer (some (ad bs7 i2)))), (23, 120, (.int .i64 ((x1 : Nat) : Int))), (24, 121, (.pointer (some (ad bsb x1)))), (25, 122, (.bool false)), (26, 123, (.bool false)), (27, 124, (.bool false)), (28, 125, (.bool false)), (29, 126, (.int .i64 ((i2 : Nat) : Int))), (30, 127, (.bool false)), (31, 128, (.bool false)), (32, 129, undef), (33, 130, undef), (34, 131, undef), (35, 132, undef), (36, 133, undef), (37, 134, undef), (38, 135, undef), (39, 136, undef), (40, 137, undef), (41, 138, undef), (42, 139, undef), (43, 140, undef), (44, 141, undef), (45, 142, undef), (46, 143, undef), (47, 144, undef), (48, 145, undef), (49, 146, undef), (50, 147, undef), (51, 148, undef), (52, 149, undef), (53, 150, undef), (54, 151, undef), (55, 152, undef), (56, 153, undef), (57, 154, undef), (58, 155, undef), (59, 156, undef), (60, 157, undef), (61, 158, undef), (62, 159, undef), (63, 160, undef), (64, 161, undef), (65, 162, undef), (66, 163, undef), (67, 164, undef), (68, 165, undef), (69, 166, undef), (70, 167, (.bool false)), (71, 168, (.bool false))]) (fun _ S => (SlV 3 1 (.slice bs7 ((dueL ks ((nw : Nat) : Int)).length) cp8) ((dueL ks ((nw : Nat) : Int)).length) (ints .i64 (dueL ks ((nw : Nat) : Int)))) :: (Blk p1 [(.pointer (some ⟨q2, 0, none⟩))] 37) :: (HeapO q2 n (duR ks ((nw : Nat) : Int))) :: R) (()) trivial (fun _ h => h) (fun _ _ h => h) ?_ ?_
      · -- steps
       refine ⟨?_, ?_, ?_, ?_, ?_, ?_, ?_, ?_, ?_, ?_, ?_, ?_, ?_, ?_, ?_, ?_, ?_, ?_, ?_, ?_, ?_, ?_, ?_, ?_, ?_, ?_, ?_, ?_, ?_, ?_, ?_, ?_, ?_, ?_, ?_, ?_, ?_, ?_, ?_, ?_, ?_, ?_, ?_, ?_, ?_, ?_, ?_, ?_, ?_, ?_, ?_, ?_, ?_, ?_, ?_, ?_, ?_, ?_, ?_, ?_, ?_, ?_, ?_, ?_, ?_, ?_, ?_, ?_, ?_, ?_, ?_, ?_, trivial⟩
       · -- 0
        rintro _ S hF hS D hp K hK
        try dsimp only at hF ⊢
        refine d_need (small := [(15, (.int .i64 ((tmL times).getD x1 0)))]) ⟨look_b rfl rfl, trivial⟩ ?_
        refine tp rfl (lv_move rfl) ?_
        exact d_closes ⟨look_b rfl rfl, trivial⟩ 0 rfl rfl rfl hS (AgreeR.refl _) (t_sat (fun _ h => h) (hK () trivial))
       · -- 1
        rintro _ S hF hS D hp K hK
        try dsimp only at hF ⊢
        refine d_need (small := [(12, (.int .i64 ((nw : Nat) : Int)))]) ⟨look_b rfl rfl, trivial⟩ ?_
        refine tp rfl (lv_move rfl) ?_
        exact d_closes ⟨look_b rfl rfl, trivial⟩ 1 rfl rfl rfl hS (AgreeR.refl _) (t_sat (fun _ h => h) (hK () trivial))
       · -- 2
        rintro _ S hF hS D hp K hK
        try dsimp only at hF ⊢
        have s0 := hp 0 rfl
        have s1 := hp 1 rfl
        refine d_need (small := [(97, (.int .i64 ((tmL times).getD x1 0))), (98, (.int .i64 ((nw : Nat) : Int)))]) ⟨look_row rfl 0 rfl s0, look_row rfl 1 rfl s1, trivial⟩ ?_
        refine tp rfl (lv_gtr rfl rfl (decide_eq_false (by omega))) ?_
        exact d_closes ⟨look_row rfl 0 rfl s0, look_row rfl 1 rfl s1, trivial⟩ 2 rfl rfl rfl hS (AgreeR.refl _) (t_sat (fun _ h => h) (hK () trivial))
       · -- 3
        rintro _ S hF hS D hp K hK
        try dsimp only at hF ⊢
        have s2 := hp 2 rfl
        refine d_need (small := [(99, (.bool false))]) ⟨look_row rfl 2 rfl s2, trivial⟩ ?_
        refine tp rfl (lv_move rfl) ?_
        exact d_closes ⟨look_row rfl 2 rfl s2, trivial⟩ 3 rfl rfl rfl hS (AgreeR.refl _) (t_sat (fun _ h => h) (hK () trivial))
       · -- 4
        rintro _ S hF hS D hp K hK
        try dsimp only at hF ⊢
        have s3 := hp 3 rfl
        refine d_need (small := [(15, (.int .i64 ((tmL times).getD x1 0))), (100, (.bool false))]) ⟨look_b rfl rfl, look_row rfl 3 rfl s3, trivial⟩ ?_
        refine t_guard rfl rfl ?_
        refine tp rfl (lv_move rfl) ?_
        exact d_closes ⟨look_b rfl rfl, look_row rfl 3 rfl s3, trivial⟩ 4 rfl rfl rfl hS (AgreeR.refl _) (t_sat (fun _ h => h) (hK () trivial))
       · -- 5
        rintro _ S hF hS D hp K hK
        try dsimp only at hF ⊢
        have s3 := hp 3 rfl
        refine d_need (small := [(12, (.int .i64 ((nw : Nat) : Int))), (100, (.bool false))]) ⟨look_b rfl rfl, look_row rfl 3 rfl s3, trivial⟩ ?_
        refine t_guard rfl rfl ?_
        refine tp rfl (lv_move rfl) ?_
        exact d_closes ⟨look_b rfl rfl, look_row rfl 3 rfl s3, trivial⟩ 5 rfl rfl rfl hS (AgreeR.refl _) (t_sat (fun _ h => h) (hK () trivial))
       · -- 6
        rintro _ S hF hS D hp K hK
        try dsimp only at hF ⊢
        have s3 := hp 3 rfl
        refine d_need (small := [(2, (.int .i64 ((s : Nat) : Int))), (100, (.bool false))]) ⟨look_b rfl rfl, look_row rfl 3 rfl s3, trivial⟩ ?_
        refine t_guard rfl rfl ?_
        refine tp rfl (lv_move rfl) ?_
        exact d_closes ⟨look_b rfl rfl, look_row rfl 3 rfl s3, trivial⟩ 6 rfl rfl rfl hS (AgreeR.refl _) (t_sat (fun _ h => h) (hK () trivial))
       · -- 7
        rintro _ S hF hS D hp K hK
        try dsimp only at hF ⊢
        have s3 := hp 3 rfl
        have s5 := hp 5 rfl
        have s6 := hp 6 rfl
        refine d_need (small := [(100, (.bool false)), (102, (.int .i64 ((nw : Nat) : Int))), (103, (.int .i64 ((s : Nat) : Int)))]) ⟨look_row rfl 3 rfl s3, look_row rfl 5 rfl s5, look_row rfl 6 rfl s6, trivial⟩ ?_
        refine t_guard rfl rfl ?_
        refine tp rfl (lv_sub (c := ((nw : Nat) : Int) - ((s : Nat) : Int)) rfl rfl (wr_i64 (by omega) (by omega))) ?_
        exact d_closes ⟨look_row rfl 3 rfl s3, look_row rfl 5 rfl s5, look_row rfl 6 rfl s6, trivial⟩ 7 rfl rfl rfl hS (AgreeR.refl _) (t_sat (fun _ h => h) (hK () trivial))
       · -- 8
        rintro _ S hF hS D hp K hK
        try dsimp only at hF ⊢
        have s3 := hp 3 rfl
        have s4 := hp 4 rfl
        have s7 := hp 7 rfl
        refine d_need (small := [(100, (.bool false)), (101, (.int .i64 ((tmL times).getD x1 0))), (104, (.int .i64 (((nw : Nat) : Int) - ((s : Nat) : Int))))]) ⟨look_row rfl 3 rfl s3, look_row rfl 4 rfl s4, look_row rfl 7 rfl s7, trivial⟩ ?_
        refine t_guard rfl rfl ?_
        refine tp rfl (lv_leq rfl rfl (decide_eq_false (by omega))) ?_
        exact d_closes ⟨look_row rfl 3 rfl s3, look_row rfl 4 rfl s4, look_row rfl 7 rfl s7, trivial⟩ 8 rfl rfl rfl hS (AgreeR.refl _) (t_sat (fun _ h => h) (hK () trivial))
       · -- 9
        rintro _ S hF hS D hp K hK
        try dsimp only at hF ⊢
        have s3 := hp 3 rfl
        have s8 := hp 8 rfl
        refine d_need (small := [(100, (.bool false)), (105, (.bool false))]) ⟨look_row rfl 3 rfl s3, look_row rfl 8 rfl s8, trivial⟩ ?_
        refine tp rfl (lv_pick_f rfl rfl) ?_
        exact d_closes ⟨look_row rfl 3 rfl s3, look_row rfl 8 rfl s8, trivial⟩ 9 rfl rfl rfl hS (AgreeR.refl _) (t_sat (fun _ h => h) (hK () trivial))
       · -- 10
        rintro _ S hF hS D hp K hK
        try dsimp only at hF ⊢
        have s9 := hp 9 rfl
        refine d_need (small := [(106, (.bool false))]) ⟨look_row rfl 9 rfl s9, trivial⟩ ?_
        refine tp rfl (lv_move rfl) ?_
        exact d_closes ⟨look_row rfl 9 rfl s9, trivial⟩ 10 rfl rfl rfl hS (AgreeR.refl _) (t_sat (fun _ h => h) (hK () trivial))
       · -- 11
        rintro _ S hF hS D hp K hK
        try dsimp only at hF ⊢
        have s10 := hp 10 rfl
        refine d_need (small := [(13, (.slice bs7 ((dueL ks ((nw : Nat) : Int)).length) cp8)), (107, (.bool false))]) ⟨look_b rfl rfl, look_row rfl 10 rfl s10, trivial⟩ ?_
        refine t_guard rfl rfl ?_
        refine tp rfl (lv_move rfl) ?_
        exact d_closes ⟨look_b rfl rfl, look_row rfl 10 rfl s10, trivial⟩ 11 rfl rfl rfl hS (AgreeR.refl _) (t_sat (fun _ h => h) (hK () trivial))
       · -- 12
        rintro _ S hF hS D hp K hK
        try dsimp only at hF ⊢
        have s10 := hp 10 rfl
        refine d_need (small := [(14, (.int .i64 ((i2 : Nat) : Int))), (107, (.bool false))]) ⟨look_b rfl rfl, look_row rfl 10 rfl s10, trivial⟩ ?_
        refine t_guard rfl rfl ?_
        refine tp rfl (lv_move rfl) ?_
        exact d_closes ⟨look_b rfl rfl, look_row rfl 10 rfl s10, trivial⟩ 12 rfl rfl rfl hS (AgreeR.refl _) (t_sat (fun _ h => h) (hK () trivial))
       · -- 13
        rintro _ S hF hS D hp K hK
        try dsimp only at hF ⊢
        have s10 := hp 10 rfl
        have s11 := hp 11 rfl
        have s12 := hp 12 rfl
        refine d_need (small := [(107, (.bool false)), (108, (.slice bs7 ((dueL ks ((nw : Nat) : Int)).length) cp8)), (109, (.int .i64 ((i2 : Nat) : Int)))]) ⟨look_row rfl 10 rfl s10, look_row rfl 11 rfl s11, look_row rfl 12 rfl s12, trivial⟩ ?_
        refine t_guard rfl rfl ?_
        refine tp rfl (lv_indexAddr (k' := i2) Try.underlying30 Try.sizeOf3 rfl rfl hok9 (by omega) (by omega) (by omega)) ?_
        exact d_closes ⟨look_row rfl 10 rfl s10, look_row rfl 11 rfl s11, look_row rfl 12 rfl s12, trivial⟩ 13 rfl rfl rfl hS (AgreeR.refl _) (t_sat (fun _ h => h) (hK () trivial))
       · -- 14
        rintro _ S hF hS D hp K hK
        try dsimp only at hF ⊢
        have s10 := hp 10 rfl
        have s13 := hp 13 rfl
        refine d_need (small := [(107, (.bool false)), (110, (.pointer (some (ad bs7 i2))))]) ⟨look_row rfl 10 rfl s10, look_row rfl 13 rfl s13, trivial⟩ ?_
        refine t_guard rfl rfl ?_
        refine tp rfl (lv_load Try.isAgg3 rfl (gives_as (v := .int .i64 ((x1 : Nat) : Int)) (by rw [hx1]) (gives_sl (.head _) (ints_get (by omega))))) ?_
        exact d_closes ⟨look_row rfl 10 rfl s10, look_row rfl 13 rfl s13, trivial⟩ 14 rfl rfl rfl hS (AgreeR.refl _) (t_sat (fun _ h => h) (hK () trivial))
       · -- 15
        rintro _ S hF hS D hp K hK
        try dsimp only at hF ⊢
        have s10 := hp 10 rfl
        refine d_need (small := [(1, (.slice bsb stop.length csb)), (107, (.bool false))]) ⟨look_b rfl rfl, look_row rfl 10 rfl s10, trivial⟩ ?_
        refine t_guard rfl rfl ?_
        refine tp rfl (lv_move rfl) ?_
        exact d_closes ⟨look_b rfl rfl, look_row rfl 10 rfl s10, trivial⟩ 15 rfl rfl rfl hS (AgreeR.refl _) (t_sat (fun _ h => h) (hK () trivial))
       · -- 16
        rintro _ S hF hS D hp K hK
        try dsimp only at hF ⊢
        have s10 := hp 10 rfl
        have s15 := hp 15 rfl
        refine d_need (small := [(107, (.bool false)), (112, (.slice bsb stop.length csb))]) ⟨look_row rfl 10 rfl s10, look_row rfl 15 rfl s15, trivial⟩ ?_
        refine t_guard rfl rfl ?_
        refine tp rfl (lv_len Try.underlying23 rfl rfl) ?_
        exact d_closes ⟨look_row rfl 10 rfl s10, look_row rfl 15 rfl s15, trivial⟩ 16 rfl rfl rfl hS (AgreeR.refl _) (t_sat (fun _ h => h) (hK () trivial))
       · -- 17
        rintro _ S hF hS D hp K hK
        try dsimp only at hF ⊢
        have s10 := hp 10 rfl
        have s14 := hp 14 rfl
        have s16 := hp 16 rfl
        refine d_need (small := [(107, (.bool false)), (111, (.int .i64 ((x1 : Nat) : Int))), (113, (.int .i64 ((stop.length : Nat) : Int)))]) ⟨look_row rfl 10 rfl s10, look_row rfl 14 rfl s14, look_row rfl 16 rfl s16, trivial⟩ ?_
        refine t_guard rfl rfl ?_
        refine tp rfl (lv_lss rfl rfl (decide_eq_true h12)) ?_
        exact d_closes ⟨look_row rfl 10 rfl s10, look_row rfl 14 rfl s14, look_row rfl 16 rfl s16, trivial⟩ 17 rfl rfl rfl hS (AgreeR.refl _) (t_sat (fun _ h => h) (hK () trivial))
       · -- 18
        rintro _ S hF hS D hp K hK
        try dsimp only at hF ⊢
        have s10 := hp 10 rfl
        have s17 := hp 17 rfl
        refine d_need (small := [(107, (.bool false)), (114, (.bool true))]) ⟨look_row rfl 10 rfl s10, look_row rfl 17 rfl s17, trivial⟩ ?_
        refine t_guard rfl rfl ?_
        refine tp rfl (lv_move rfl) ?_
        exact d_closes ⟨look_row rfl 10 rfl s10, look_row rfl 17 rfl s17, trivial⟩ 18 rfl rfl rfl hS (AgreeR.refl _) (t_sat (fun _ h => h) (hK () trivial))
       · -- 19
        rintro _ S hF hS D hp K hK
        try dsimp only at hF ⊢
        have s18 := hp 18 rfl
        refine d_need (small := [(1, (.slice bsb stop.length csb)), (115, (.bool true))]) ⟨look_b rfl rfl, look_row rfl 18 rfl s18, trivial⟩ ?_
        refine t_guard rfl rfl ?_
        refine tp rfl (lv_move rfl) ?_
        exact d_closes ⟨look_b rfl rfl, look_row rfl 18 rfl s18, trivial⟩ 19 rfl rfl rfl hS (AgreeR.refl _) (t_sat (fun _ h => h) (hK () trivial))
       · -- 20
        rintro _ S hF hS D hp K hK
        try dsimp only at hF ⊢
        have s18 := hp 18 rfl
        refine d_need (small := [(13, (.slice bs7 ((dueL ks ((nw : Nat) : Int)).length) cp8)), (115, (.bool true))]) ⟨look_b rfl rfl, look_row rfl 18 rfl s18, trivial⟩ ?_
        refine t_guard rfl rfl ?_
        refine tp rfl (lv_move rfl) ?_
        exact d_closes ⟨look_b rfl rfl, look_row rfl 18 rfl s18, trivial⟩ 20 rfl rfl rfl hS (AgreeR.refl _) (t_sat (fun _ h => h) (hK () trivial))
       · -- 21
        rintro _ S hF hS D hp K hK
        try dsimp only at hF ⊢
        have s18 := hp 18 rfl
        refine d_need (small := [(14, (.int .i64 ((i2 : Nat) : Int))), (115, (.bool true))]) ⟨look_b rfl rfl, look_row rfl 18 rfl s18, trivial⟩ ?_
        refine t_guard rfl rfl ?_
        refine tp rfl (lv_move rfl) ?_
        exact d_closes ⟨look_b rfl rfl, look_row rfl 18 rfl s18, trivial⟩ 21 rfl rfl rfl hS (AgreeR.refl _) (t_sat (fun _ h => h) (hK () trivial))
       · -- 22
        rintro _ S hF hS D hp K hK
        try dsimp only at hF ⊢
        have s18 := hp 18 rfl
        have s20 := hp 20 rfl
        have s21 := hp 21 rfl
        refine d_need (small := [(115, (.bool true)), (117, (.slice bs7 ((dueL ks ((nw : Nat) : Int)).length) cp8)), (118, (.int .i64 ((i2 : Nat) : Int)))]) ⟨look_row rfl 18 rfl s18, look_row rfl 20 rfl s20, look_row rfl 21 rfl s21, trivial⟩ ?_
        refine t_guard rfl rfl ?_
        refine tp rfl (lv_indexAddr (k' := i2) Try.underlying30 Try.sizeOf3 rfl rfl hok9 (by omega) (by omega) (by omega)) ?_
        exact d_closes ⟨look_row rfl 18 rfl s18, look_row rfl 20 rfl s20, look_row rfl 21 rfl s21, trivial⟩ 22 rfl rfl rfl hS (AgreeR.refl _) (t_sat (fun _ h => h) (hK () trivial))
       · -- 23
        rintro _ S hF hS D hp K hK
        try dsimp only at hF ⊢
        have s18 := hp 18 rfl
        have s22 := hp 22 rfl
        refine d_need (small := [(115, (.bool true)), (119, (.pointer (some (ad bs7 i2))))]) ⟨look_row rfl 18 rfl s18, look_row rfl 22 rfl s22, trivial⟩ ?_
        refine t_guard rfl rfl ?_
        refine tp rfl (lv_load Try.isAgg3 rfl (gives_as (v := .int .i64 ((x1 : Nat) : Int)) (by rw [hx1]) (gives_sl (.head _) (ints_get (by omega))))) ?_
        exact d_closes ⟨look_row rfl 18 rfl s18, look_row rfl 22 rfl s22, trivial⟩ 23 rfl rfl rfl hS (AgreeR.refl _) (t_sat (fun _ h => h) (hK () trivial))
       · -- 24
        rintro _ S hF hS D hp K hK
        try dsimp only at hF ⊢
        have s18 := hp 18 rfl
        have s19 := hp 19 rfl
        have s23 := hp 23 rfl
        refine d_need (small := [(115, (.bool true)), (116, (.slice bsb stop.length csb)), (120, (.int .i64 ((x1 : Nat) : Int)))]) ⟨look_row rfl 18 rfl s18, look_row rfl 19 rfl s19, look_row rfl 23 rfl s23, trivial⟩ ?_
        refine t_guard rfl rfl ?_
        refine tp rfl (lv_indexAddr (k' := x1) Try.underlying23 Try.sizeOf4 rfl rfl oksb (by omega) (by omega) (by omega)) ?_
        exact d_closes ⟨look_row rfl 18 rfl s18, look_row rfl 19 rfl s19, look_row rfl 23 rfl s23, trivial⟩ 24 rfl rfl rfl hS (AgreeR.refl _) (t_sat (fun _ h => h) (hK () trivial))
       · -- 25
        rintro _ S hF hS D hp K hK
        try dsimp only at hF ⊢
        have s18 := hp 18 rfl
        have s24 := hp 24 rfl
        refine d_need (small := [(115, (.bool true)), (121, (.pointer (some (ad bsb x1))))]) ⟨look_row rfl 18 rfl s18, look_row rfl 24 rfl s24, trivial⟩ ?_
        refine t_guard rfl rfl ?_
        refine tp rfl (lv_load Try.isAgg4 rfl (gives_as (v := .bool false) (by first | rw [hg1] | rw [Int.toNat_natCast, hg1]) (Rd.gives (Rd.cons (Rd.cons (Rd.cons hsb))) (bools_get (by omega))))) ?_
        exact d_closes ⟨look_row rfl 18 rfl s18, look_row rfl 24 rfl s24, trivial⟩ 25 rfl rfl rfl hS (AgreeR.refl _) (t_sat (fun _ h => h) (hK () trivial))
       · -- 26
        rintro _ S hF hS D hp K hK
        try dsimp only at hF ⊢
        have s10 := hp 10 rfl
        have s18 := hp 18 rfl
        have s25 := hp 25 rfl
        refine d_need (small := [(107, (.bool false)), (115, (.bool true)), (122, (.bool false))]) ⟨look_row rfl 10 rfl s10, look_row rfl 18 rfl s18, look_row rfl 25 rfl s25, trivial⟩ ?_
        refine t_guard rfl rfl ?_
        refine tp rfl (lv_pick_t rfl rfl) ?_
        exact d_closes ⟨look_row rfl 10 rfl s10, look_row rfl 18 rfl s18, look_row rfl 25 rfl s25, trivial⟩ 26 rfl rfl rfl hS (AgreeR.refl _) (t_sat (fun _ h => h) (hK () trivial))
       · -- 27
        rintro _ S hF hS D hp K hK
        try dsimp only at hF ⊢
        have s10 := hp 10 rfl
        have s26 := hp 26 rfl
        refine d_need (small := [(107, (.bool false)), (123, (.bool false))]) ⟨look_row rfl 10 rfl s10, look_row rfl 26 rfl s26, trivial⟩ ?_
        refine tp rfl (lv_pick_f rfl rfl) ?_
        exact d_closes ⟨look_row rfl 10 rfl s10, look_row rfl 26 rfl s26, trivial⟩ 27 rfl rfl rfl hS (AgreeR.refl _) (t_sat (fun _ h => h) (hK () trivial))
       · -- 28
        rintro _ S hF hS D hp K hK
        try dsimp only at hF ⊢
        have s27 := hp 27 rfl
        refine d_need (small := [(124, (.bool false))]) ⟨look_row rfl 27 rfl s27, trivial⟩ ?_
        refine tp rfl (lv_move rfl) ?_
        exact d_closes ⟨look_row rfl 27 rfl s27, trivial⟩ 28 rfl rfl rfl hS (AgreeR.refl _) (t_sat (fun _ h => h) (hK () trivial))
       · -- 29
        rintro _ S hF hS D hp K hK
        try dsimp only at hF ⊢
        have s28 := hp 28 rfl
        refine d_need (small := [(14, (.int .i64 ((i2 : Nat) : Int))), (125, (.bool false))]) ⟨look_b rfl rfl, look_row rfl 28 rfl s28, trivial⟩ ?_
        refine t_guard rfl rfl ?_
        refine tp rfl (lv_move rfl) ?_
        exact d_closes ⟨look_b rfl rfl, look_row rfl 28 rfl s28, trivial⟩ 29 rfl rfl rfl hS (AgreeR.refl _) (t_sat (fun _ h => h) (hK () trivial))
       · -- 30
        rintro _ S hF hS D hp K hK
        try dsimp only at hF ⊢
        have s28 := hp 28 rfl
        have s29 := hp 29 rfl
        refine d_need (small := [(125, (.bool false)), (126, (.int .i64 ((i2 : Nat) : Int)))]) ⟨look_row rfl 28 rfl s28, look_row rfl 29 rfl s29, trivial⟩ ?_
        refine t_guard rfl rfl ?_
        refine tp rfl (lv_gtr rfl rfl (decide_eq_false h13)) ?_
        exact d_closes ⟨look_row rfl 28 rfl s28, look_row rfl 29 rfl s29, trivial⟩ 30 rfl rfl rfl hS (AgreeR.refl _) (t_sat (fun _ h => h) (hK () trivial))
       · -- 31
        rintro _ S hF hS D hp K hK
        try dsimp only at hF ⊢
        have s28 := hp 28 rfl
        have s30 := hp 30 rfl
        refine d_need (small := [(125, (.bool false)), (127, (.bool false))]) ⟨look_row rfl 28 rfl s28, look_row rfl 30 rfl s30, trivial⟩ ?_
        refine t_guard rfl rfl ?_
        refine tp rfl (lv_move rfl) ?_
        exact d_closes ⟨look_row rfl 28 rfl s28, look_row rfl 30 rfl s30, trivial⟩ 31 rfl rfl rfl hS (AgreeR.refl _) (t_sat (fun _ h => h) (hK () trivial))
       · -- 32
        rintro _ S hF hS D hp K hK
        try dsimp only at hF ⊢
        have s31 := hp 31 rfl
        refine d_need (small := [(0, (.slice btb times.length ctb)), (128, (.bool false))]) ⟨look_b rfl rfl, look_row rfl 31 rfl s31, trivial⟩ ?_
        refine t_skip rfl rfl rfl ?_
        exact d_closes ⟨look_b rfl rfl, look_row rfl 31 rfl s31, trivial⟩ 32 rfl rfl rfl hS (AgreeR.refl _) (t_sat (fun _ h => h) (hK () trivial))
       · -- 33
        rintro _ S hF hS D hp K hK
        try dsimp only at hF ⊢
        have s31 := hp 31 rfl
        refine d_need (small := [(13, (.slice bs7 ((dueL ks ((nw : Nat) : Int)).length) cp8)), (128, (.bool false))]) ⟨look_b rfl rfl, look_row rfl 31 rfl s31, trivial⟩ ?_
        refine t_skip rfl rfl rfl ?_
        exact d_closes ⟨look_b rfl rfl, look_row rfl 31 rfl s31, trivial⟩ 33 rfl rfl rfl hS (AgreeR.refl _) (t_sat (fun _ h => h) (hK () trivial))
       · -- 34
        rintro _ S hF hS D hp K hK
        try dsimp only at hF ⊢
        have s31 := hp 31 rfl
        refine d_need (small := [(14, (.int .i64 ((i2 : Nat) : Int))), (128, (.bool false))]) ⟨look_b rfl rfl, look_row rfl 31 rfl s31, trivial⟩ ?_
        refine t_skip rfl rfl rfl ?_
        exact d_closes ⟨look_b rfl rfl, look_row rfl 31 rfl s31, trivial⟩ 34 rfl rfl rfl hS (AgreeR.refl _) (t_sat (fun _ h => h) (hK () trivial))
       · -- 35
        rintro _ S hF hS D hp K hK
        try dsimp only at hF ⊢
        have s31 := hp 31 rfl
        have s34 := hp 34 rfl
        refine d_need (small := [(128, (.bool false)), (131, undef)]) ⟨look_row rfl 31 rfl s31, look_row rfl 34 rfl s34, trivial⟩ ?_
        refine t_skip rfl rfl rfl ?_
        exact d_closes ⟨look_row rfl 31 rfl s31, look_row rfl 34 rfl s34, trivial⟩ 35 rfl rfl rfl hS (AgreeR.refl _) (t_sat (fun _ h => h) (hK () trivial))
       · -- 36
        rintro _ S hF hS D hp K hK
        try dsimp only at hF ⊢
        have s31 := hp 31 rfl
        have s33 := hp 33 rfl
        have s35 := hp 35 rfl
        refine d_need (small := [(128, (.bool false)), (130, undef), (132, undef)]) ⟨look_row rfl 31 rfl s31, look_row rfl 33 rfl s33, look_row rfl 35 rfl s35, trivial⟩ ?_
        refine t_skip rfl rfl rfl ?_
        exact d_closes ⟨look_row rfl 31 rfl s31, look_row rfl 33 rfl s33, look_row rfl 35 rfl s35, trivial⟩ 36 rfl rfl rfl hS (AgreeR.refl _) (t_sat (fun _ h => h) (hK () trivial))
       · -- 37
        rintro _ S hF hS D hp K hK
        try dsimp only at hF ⊢
        have s31 := hp 31 rfl
        have s36 := hp 36 rfl
        refine d_need (small := [(128, (.bool false)), (133, undef)]) ⟨look_row rfl 31 rfl s31, look_row rfl 36 rfl s36, trivial⟩ ?_
        refine t_skip rfl rfl rfl ?_
        exact d_closes ⟨look_row rfl 31 rfl s31, look_row rfl 36 rfl s36, trivial⟩ 37 rfl rfl rfl hS (AgreeR.refl _) (t_sat (fun _ h => h) (hK () trivial))
       · -- 38
        rintro _ S hF hS D hp K hK
        try dsimp only at hF ⊢
        have s31 := hp 31 rfl
        have s32 := hp 32 rfl
        have s37 := hp 37 rfl
        refine d_need (small := [(128, (.bool false)), (129, undef), (134, undef)]) ⟨look_row rfl 31 rfl s31, look_row rfl 32 rfl s32, look_row rfl 37 rfl s37, trivial⟩ ?_
        refine t_skip rfl rfl rfl ?_
        exact d_closes ⟨look_row rfl 31 rfl s31, look_row rfl 32 rfl s32, look_row rfl 37 rfl s37, trivial⟩ 38 rfl rfl rfl hS (AgreeR.refl _) (t_sat (fun _ h => h) (hK () trivial))
       · -- 39
        rintro _ S hF hS D hp K hK
        try dsimp only at hF ⊢
        have s31 := hp 31 rfl
        have s38 := hp 38 rfl
        refine d_need (small := [(128, (.bool false)), (135, undef)]) ⟨look_row rfl 31 rfl s31, look_row rfl 38 rfl s38, trivial⟩ ?_
        refine t_skip rfl rfl rfl ?_
        exact d_closes ⟨look_row rfl 31 rfl s31, look_row rfl 38 rfl s38, trivial⟩ 39 rfl rfl rfl hS (AgreeR.refl _) (t_sat (fun _ h => h) (hK () trivial))
       · -- 40
        rintro _ S hF hS D hp K hK
        try dsimp only at hF ⊢
        have s31 := hp 31 rfl
        have s39 := hp 39 rfl
        refine d_need (small := [(128, (.bool false)), (136, undef)]) ⟨look_row rfl 31 rfl s31, look_row rfl 39 rfl s39, trivial⟩ ?_
        refine t_skip rfl rfl rfl ?_
        exact d_closes ⟨look_row rfl 31 rfl s31, look_row rfl 39 rfl s39, trivial⟩ 40 rfl rfl rfl hS (AgreeR.refl _) (t_sat (fun _ h => h) (hK () trivial))
       · -- 41
        rintro _ S hF hS D hp K hK
        try dsimp only at hF ⊢
        have s31 := hp 31 rfl
        have s40 := hp 40 rfl
        refine d_need (small := [(128, (.bool false)), (137, undef)]) ⟨look_row rfl 31 rfl s31, look_row rfl 40 rfl s40, trivial⟩ ?_
        refine t_skip rfl rfl rfl ?_
        exact d_closes ⟨look_row rfl 31 rfl s31, look_row rfl 40 rfl s40, trivial⟩ 41 rfl rfl rfl hS (AgreeR.refl _) (t_sat (fun _ h => h) (hK () trivial))
       · -- 42
        rintro _ S hF hS D hp K hK
        try dsimp only at hF ⊢
        have s31 := hp 31 rfl
        refine d_need (small := [(15, (.int .i64 ((tmL times).getD x1 0))), (128, (.bool false))]) ⟨look_b rfl rfl, look_row rfl 31 rfl s31, trivial⟩ ?_
        refine t_skip rfl rfl rfl ?_
        exact d_closes ⟨look_b rfl rfl, look_row rfl 31 rfl s31, trivial⟩ 42 rfl rfl rfl hS (AgreeR.refl _) (t_sat (fun _ h => h) (hK () trivial))
       · -- 43
        rintro _ S hF hS D hp K hK
        try dsimp only at hF ⊢
        have s31 := hp 31 rfl
        have s41 := hp 41 rfl
        have s42 := hp 42 rfl
        refine d_need (small := [(128, (.bool false)), (138, undef), (139, undef)]) ⟨look_row rfl 31 rfl s31, look_row rfl 41 rfl s41, look_row rfl 42 rfl s42, trivial⟩ ?_
        refine t_skip rfl rfl rfl ?_
        exact d_closes ⟨look_row rfl 31 rfl s31, look_row rfl 41 rfl s41, look_row rfl 42 rfl s42, trivial⟩ 43 rfl rfl rfl hS (AgreeR.refl _) (t_sat (fun _ h => h) (hK () trivial))
       · -- 44
        rintro _ S hF hS D hp K hK
        try dsimp only at hF ⊢
        have s31 := hp 31 rfl
        have s43 := hp 43 rfl
        refine d_need (small := [(128, (.bool false)), (140, undef)]) ⟨look_row rfl 31 rfl s31, look_row rfl 43 rfl s43, trivial⟩ ?_
        refine t_skip rfl rfl rfl ?_
        exact d_closes ⟨look_row rfl 31 rfl s31, look_row rfl 43 rfl s43, trivial⟩ 44 rfl rfl rfl hS (AgreeR.refl _) (t_sat (fun _ h => h) (hK () trivial))
       · -- 45
        rintro _ S hF hS D hp K hK
        try dsimp only at hF ⊢
        have s44 := hp 44 rfl
        refine d_need (small := [(0, (.slice btb times.length ctb)), (141, undef)]) ⟨look_b rfl rfl, look_row rfl 44 rfl s44, trivial⟩ ?_
        refine t_skipu rfl rfl rfl ?_
        exact d_closes ⟨look_b rfl rfl, look_row rfl 44 rfl s44, trivial⟩ 45 rfl rfl rfl hS (AgreeR.refl _) (t_sat (fun _ h => h) (hK () trivial))
       · -- 46
        rintro _ S hF hS D hp K hK
        try dsimp only at hF ⊢
        have s44 := hp 44 rfl
        refine d_need (small := [(13, (.slice bs7 ((dueL ks ((nw : Nat) : Int)).length) cp8)), (141, undef)]) ⟨look_b rfl rfl, look_row rfl 44 rfl s44, trivial⟩ ?_
        refine t_skipu rfl rfl rfl ?_
        exact d_closes ⟨look_b rfl rfl, look_row rfl 44 rfl s44, trivial⟩ 46 rfl rfl rfl hS (AgreeR.refl _) (t_sat (fun _ h => h) (hK () trivial))
       · -- 47
        rintro _ S hF hS D hp K hK
        try dsimp only at hF ⊢
        have s44 := hp 44 rfl
        refine d_need (small := [(14, (.int .i64 ((i2 : Nat) : Int))), (141, undef)]) ⟨look_b rfl rfl, look_row rfl 44 rfl s44, trivial⟩ ?_
        refine t_skipu rfl rfl rfl ?_
        exact d_closes ⟨look_b rfl rfl, look_row rfl 44 rfl s44, trivial⟩ 47 rfl rfl rfl hS (AgreeR.refl _) (t_sat (fun _ h => h) (hK () trivial))
       · -- 48
        rintro _ S hF hS D hp K hK
        try dsimp only at hF ⊢
        have s44 := hp 44 rfl
        have s47 := hp 47 rfl
        refine d_need (small := [(141, undef), (144, undef)]) ⟨look_row rfl 44 rfl s44, look_row rfl 47 rfl s47, trivial⟩ ?_
        refine t_skipu rfl rfl rfl ?_
        exact d_closes ⟨look_row rfl 44 rfl s44, look_row rfl 47 rfl s47, trivial⟩ 48 rfl rfl rfl hS (AgreeR.refl _) (t_sat (fun _ h => h) (hK () trivial))
       · -- 49
        rintro _ S hF hS D hp K hK
        try dsimp only at hF ⊢
        have s44 := hp 44 rfl
        have s46 := hp 46 rfl
        have s48 := hp 48 rfl
        refine d_need (small := [(141, undef), (143, undef), (145, undef)]) ⟨look_row rfl 44 rfl s44, look_row rfl 46 rfl s46, look_row rfl 48 rfl s48, trivial⟩ ?_
        refine t_skipu rfl rfl rfl ?_
        exact d_closes ⟨look_row rfl 44 rfl s44, look_row rfl 46 rfl s46, look_row rfl 48 rfl s48, trivial⟩ 49 rfl rfl rfl hS (AgreeR.refl _) (t_sat (fun _ h => h) (hK () trivial))
       · -- 50
        rintro _ S hF hS D hp K hK
        try dsimp only at hF ⊢
        have s44 := hp 44 rfl
        have s49 := hp 49 rfl
        refine d_need (small := [(141, undef), (146, undef)]) ⟨look_row rfl 44 rfl s44, look_row rfl 49 rfl s49, trivial⟩ ?_
        refine t_skipu rfl rfl rfl ?_
        exact d_closes ⟨look_row rfl 44 rfl s44, look_row rfl 49 rfl s49, trivial⟩ 50 rfl rfl rfl hS (AgreeR.refl _) (t_sat (fun _ h => h) (hK () trivial))
       · -- 51
        rintro _ S hF hS D hp K hK
        try dsimp only at hF ⊢
        have s44 := hp 44 rfl
        have s45 := hp 45 rfl
        have s50 := hp 50 rfl
        refine d_need (small := [(141, undef), (142, undef), (147, undef)]) ⟨look_row rfl 44 rfl s44, look_row rfl 45 rfl s45, look_row rfl 50 rfl s50, trivial⟩ ?_
        refine t_skipu rfl rfl rfl ?_
        exact d_closes ⟨look_row rfl 44 rfl s44, look_row rfl 45 rfl s45, look_row rfl 50 rfl s50, trivial⟩ 51 rfl rfl rfl hS (AgreeR.refl _) (t_sat (fun _ h => h) (hK () trivial))
       · -- 52
        rintro _ S hF hS D hp K hK
        try dsimp only at hF ⊢
        have s44 := hp 44 rfl
        have s51 := hp 51 rfl
        refine d_need (small := [(141, undef), (148, undef)]) ⟨look_row rfl 44 rfl s44, look_row rfl 51 rfl s51, trivial⟩ ?_
        refine t_skipu rfl rfl rfl ?_
        exact d_closes ⟨look_row rfl 44 rfl s44, look_row rfl 51 rfl s51, trivial⟩ 52 rfl rfl rfl hS (AgreeR.refl _) (t_sat (fun _ h => h) (hK () trivial))
       · -- 53
        rintro _ S hF hS D hp K hK
        try dsimp only at hF ⊢
        have s44 := hp 44 rfl
        have s52 := hp 52 rfl
        refine d_need (small := [(141, undef), (149, undef)]) ⟨look_row rfl 44 rfl s44, look_row rfl 52 rfl s52, trivial⟩ ?_
        refine t_skipu rfl rfl rfl ?_
        exact d_closes ⟨look_row rfl 44 rfl s44, look_row rfl 52 rfl s52, trivial⟩ 53 rfl rfl rfl hS (AgreeR.refl _) (t_sat (fun _ h => h) (hK () trivial))
       · -- 54
        rintro _ S hF hS D hp K hK
        try dsimp only at hF ⊢
        have s44 := hp 44 rfl
        have s53 := hp 53 rfl
        refine d_need (small := [(141, undef), (150, undef)]) ⟨look_row rfl 44 rfl s44, look_row rfl 53 rfl s53, trivial⟩ ?_
        refine t_skipu rfl rfl rfl ?_
        exact d_closes ⟨look_row rfl 44 rfl s44, look_row rfl 53 rfl s53, trivial⟩ 54 rfl rfl rfl hS (AgreeR.refl _) (t_sat (fun _ h => h) (hK () trivial))
       · -- 55
        rintro _ S hF hS D hp K hK
        try dsimp only at hF ⊢
        have s44 := hp 44 rfl
        refine d_need (small := [(15, (.int .i64 ((tmL times).getD x1 0))), (141, undef)]) ⟨look_b rfl rfl, look_row rfl 44 rfl s44, trivial⟩ ?_
        refine t_skipu rfl rfl rfl ?_
        exact d_closes ⟨look_b rfl rfl, look_row rfl 44 rfl s44, trivial⟩ 55 rfl rfl rfl hS (AgreeR.refl _) (t_sat (fun _ h => h) (hK () trivial))
       · -- 56
        rintro _ S hF hS D hp K hK
        try dsimp only at hF ⊢
        have s44 := hp 44 rfl
        have s54 := hp 54 rfl
        have s55 := hp 55 rfl
        refine d_need (small := [(141, undef), (151, undef), (152, undef)]) ⟨look_row rfl 44 rfl s44, look_row rfl 54 rfl s54, look_row rfl 55 rfl s55, trivial⟩ ?_
        refine t_skipu rfl rfl rfl ?_
        exact d_closes ⟨look_row rfl 44 rfl s44, look_row rfl 54 rfl s54, look_row rfl 55 rfl s55, trivial⟩ 56 rfl rfl rfl hS (AgreeR.refl _) (t_sat (fun _ h => h) (hK () trivial))
       · -- 57
        rintro _ S hF hS D hp K hK
        try dsimp only at hF ⊢
        have s44 := hp 44 rfl
        have s56 := hp 56 rfl
        refine d_need (small := [(141, undef), (153, undef)]) ⟨look_row rfl 44 rfl s44, look_row rfl 56 rfl s56, trivial⟩ ?_
        refine t_skipu rfl rfl rfl ?_
        exact d_closes ⟨look_row rfl 44 rfl s44, look_row rfl 56 rfl s56, trivial⟩ 57 rfl rfl rfl hS (AgreeR.refl _) (t_sat (fun _ h => h) (hK () trivial))
       · -- 58
        rintro _ S hF hS D hp K hK
        try dsimp only at hF ⊢
        have s57 := hp 57 rfl
        refine d_need (small := [(13, (.slice bs7 ((dueL ks ((nw : Nat) : Int)).length) cp8)), (154, undef)]) ⟨look_b rfl rfl, look_row rfl 57 rfl s57, trivial⟩ ?_
        refine t_skipu rfl rfl rfl ?_
        exact d_closes ⟨look_b rfl rfl, look_row rfl 57 rfl s57, trivial⟩ 58 rfl rfl rfl hS (AgreeR.refl _) (t_sat (fun _ h => h) (hK () trivial))
       · -- 59
        rintro _ S hF hS D hp K hK
        try dsimp only at hF ⊢
        have s57 := hp 57 rfl
        refine d_need (small := [(14, (.int .i64 ((i2 : Nat) : Int))), (154, undef)]) ⟨look_b rfl rfl, look_row rfl 57 rfl s57, trivial⟩ ?_
        refine t_skipu rfl rfl rfl ?_
        exact d_closes ⟨look_b rfl rfl, look_row rfl 57 rfl s57, trivial⟩ 59 rfl rfl rfl hS (AgreeR.refl _) (t_sat (fun _ h => h) (hK () trivial))
       · -- 60
        rintro _ S hF hS D hp K hK
        try dsimp only at hF ⊢
        have s57 := hp 57 rfl
        have s59 := hp 59 rfl
        refine d_need (small := [(154, undef), (156, undef)]) ⟨look_row rfl 57 rfl s57, look_row rfl 59 rfl s59, trivial⟩ ?_
        refine t_skipu rfl rfl rfl ?_
        exact d_closes ⟨look_row rfl 57 rfl s57, look_row rfl 59 rfl s59, trivial⟩ 60 rfl rfl rfl hS (AgreeR.refl _) (t_sat (fun _ h => h) (hK () trivial))
       · -- 61
        rintro _ S hF hS D hp K hK
        try dsimp only at hF ⊢
        have s57 := hp 57 rfl
        have s58 := hp 58 rfl
        have s60 := hp 60 rfl
        refine d_need (small := [(154, undef), (155, undef), (157, undef)]) ⟨look_row rfl 57 rfl s57, look_row rfl 58 rfl s58, look_row rfl 60 rfl s60, trivial⟩ ?_
        refine t_skipu rfl rfl rfl ?_
        exact d_closes ⟨look_row rfl 57 rfl s57, look_row rfl 58 rfl s58, look_row rfl 60 rfl s60, trivial⟩ 61 rfl rfl rfl hS (AgreeR.refl _) (t_sat (fun _ h => h) (hK () trivial))
       · -- 62
        rintro _ S hF hS D hp K hK
        try dsimp only at hF ⊢
        have s57 := hp 57 rfl
        have s61 := hp 61 rfl
        refine d_need (small := [(154, undef), (158, undef)]) ⟨look_row rfl 57 rfl s57, look_row rfl 61 rfl s61, trivial⟩ ?_
        refine t_skipu rfl rfl rfl ?_
        exact d_closes ⟨look_row rfl 57 rfl s57, look_row rfl 61 rfl s61, trivial⟩ 62 rfl rfl rfl hS (AgreeR.refl _) (t_sat (fun _ h => h) (hK () trivial))
       · -- 63
        rintro _ S hF hS D hp K hK
        try dsimp only at hF ⊢
        have s57 := hp 57 rfl
        refine d_need (small := [(13, (.slice bs7 ((dueL ks ((nw : Nat) : Int)).length) cp8)), (154, undef)]) ⟨look_b rfl rfl, look_row rfl 57 rfl s57, trivial⟩ ?_
        refine t_skipu rfl rfl rfl ?_
        exact d_closes ⟨look_b rfl rfl, look_row rfl 57 rfl s57, trivial⟩ 63 rfl rfl rfl hS (AgreeR.refl _) (t_sat (fun _ h => h) (hK () trivial))
       · -- 64
        rintro _ S hF hS D hp K hK
        try dsimp only at hF ⊢
        have s57 := hp 57 rfl
        refine d_need (small := [(14, (.int .i64 ((i2 : Nat) : Int))), (154, undef)]) ⟨look_b rfl rfl, look_row rfl 57 rfl s57, trivial⟩ ?_
        refine t_skipu rfl rfl rfl ?_
        exact d_closes ⟨look_b rfl rfl, look_row rfl 57 rfl s57, trivial⟩ 64 rfl rfl rfl hS (AgreeR.refl _) (t_sat (fun _ h => h) (hK () trivial))
       · -- 65
        rintro _ S hF hS D hp K hK
        try dsimp only at hF ⊢
        have s57 := hp 57 rfl
        have s63 := hp 63 rfl
        have s64 := hp 64 rfl
        refine d_need (small := [(154, undef), (160, undef), (161, undef)]) ⟨look_row rfl 57 rfl s57, look_row rfl 63 rfl s63, look_row rfl 64 rfl s64, trivial⟩ ?_
        refine t_skipu rfl rfl rfl ?_
        exact d_closes ⟨look_row rfl 57 rfl s57, look_row rfl 63 rfl s63, look_row rfl 64 rfl s64, trivial⟩ 65 rfl rfl rfl hS (AgreeR.refl _) (t_sat (fun _ h => h) (hK () trivial))
       · -- 66
        rintro _ S hF hS D hp K hK
        try dsimp only at hF ⊢
        have s57 := hp 57 rfl
        have s65 := hp 65 rfl
        refine d_need (small := [(154, undef), (162, undef)]) ⟨look_row rfl 57 rfl s57, look_row rfl 65 rfl s65, trivial⟩ ?_
        refine t_skipu rfl rfl rfl ?_
        exact d_closes ⟨look_row rfl 57 rfl s57, look_row rfl 65 rfl s65, trivial⟩ 66 rfl rfl rfl hS (AgreeR.refl _) (t_sat (fun _ h => h) (hK () trivial))
       · -- 67
        rintro _ S hF hS D hp K hK
        try dsimp only at hF ⊢
        have s57 := hp 57 rfl
        have s62 := hp 62 rfl
        have s66 := hp 66 rfl
        refine d_need (small := [(154, undef), (159, undef), (163, undef)]) ⟨look_row rfl 57 rfl s57, look_row rfl 62 rfl s62, look_row rfl 66 rfl s66, trivial⟩ ?_
        refine t_skipu rfl rfl rfl ?_
        exact d_closes ⟨look_row rfl 57 rfl s57, look_row rfl 62 rfl s62, look_row rfl 66 rfl s66, trivial⟩ 67 rfl rfl rfl hS (AgreeR.refl _) (t_sat (fun _ h => h) (hK () trivial))
       · -- 68
        rintro _ S hF hS D hp K hK
        try dsimp only at hF ⊢
        have s44 := hp 44 rfl
        have s57 := hp 57 rfl
        have s67 := hp 67 rfl
        refine d_need (small := [(141, undef), (154, undef), (164, undef)]) ⟨look_row rfl 44 rfl s44, look_row rfl 57 rfl s57, look_row rfl 67 rfl s67, trivial⟩ ?_
        refine t_skipu rfl rfl rfl ?_
        exact d_closes ⟨look_row rfl 44 rfl s44, look_row rfl 57 rfl s57, look_row rfl 67 rfl s67, trivial⟩ 68 rfl rfl rfl hS (AgreeR.refl _) (t_sat (fun _ h => h) (hK () trivial))
       · -- 69
        rintro _ S hF hS D hp K hK
        try dsimp only at hF ⊢
        have s31 := hp 31 rfl
        have s44 := hp 44 rfl
        have s68 := hp 68 rfl
        refine d_need (small := [(128, (.bool false)), (141, undef), (165, undef)]) ⟨look_row rfl 31 rfl s31, look_row rfl 44 rfl s44, look_row rfl 68 rfl s68, trivial⟩ ?_
        refine t_skip rfl rfl rfl ?_
        exact d_closes ⟨look_row rfl 31 rfl s31, look_row rfl 44 rfl s44, look_row rfl 68 rfl s68, trivial⟩ 69 rfl rfl rfl hS (AgreeR.refl _) (t_sat (fun _ h => h) (hK () trivial))
       · -- 70
        rintro _ S hF hS D hp K hK
        try dsimp only at hF ⊢
        have s28 := hp 28 rfl
        have s31 := hp 31 rfl
        have s69 := hp 69 rfl
        refine d_need (small := [(125, (.bool false)), (128, (.bool false)), (166, undef)]) ⟨look_row rfl 28 rfl s28, look_row rfl 31 rfl s31, look_row rfl 69 rfl s69, trivial⟩ ?_
        refine t_guard rfl rfl ?_
        refine tp rfl (lv_pick_f rfl rfl) ?_
        exact d_closes ⟨look_row rfl 28 rfl s28, look_row rfl 31 rfl s31, look_row rfl 69 rfl s69, trivial⟩ 70 rfl rfl rfl hS (AgreeR.refl _) (t_sat (fun _ h => h) (hK () trivial))
       · -- 71
        rintro _ S hF hS D hp K hK
        try dsimp only at hF ⊢
        have s28 := hp 28 rfl
        have s70 := hp 70 rfl
        refine d_need (small := [(125, (.bool false)), (167, (.bool false))]) ⟨look_row rfl 28 rfl s28, look_row rfl 70 rfl s70, trivial⟩ ?_
        refine tp rfl (lv_pick_f rfl rfl) ?_
        exact d_closes ⟨look_row rfl 28 rfl s28, look_row rfl 70 rfl s70, trivial⟩ 71 rfl rfl rfl hS (AgreeR.refl _) (t_sat (fun _ h => h) (hK () trivial))
      · -- behind
       rintro _ hF
       try dsimp only at hF ⊢
       refine t_weak (E' := [(0, (.slice btb times.length ctb)), (1, (.slice bsb stop.length csb)), (2, (.int .i64 ((s : Nat) : Int))), (7, (.bool true)), (8, (.int .i64 ((n : Nat) : Int))), (9, (.pointer (some ⟨p1, 0, none⟩))), (10, (.int .i64 lf)), (11, (.int .i64 ((i : Nat) : Int))), (12, (.int .i64 ((nw : Nat) : Int))), (13, (.slice bs7 ((dueL ks ((nw : Nat) : Int)).length) cp8)), (14, (.int .i64 ((i2 : Nat) : Int))), (15, (.int .i64 ((tmL times).getD x1 0))), (27, (.bool false)), (30, (.bool false)), (75, (.bool true)), (85, (.bool true)), (168, (.bool false))]) ⟨rfl, rfl, rfl, rfl, rfl, rfl, rfl, rfl, rfl, rfl, rfl, rfl, rfl, rfl, rfl, rfl, rfl, trivial⟩ ?_
       refine q_then_n (hK28 _ _ ?_)
       refine c_false rfl ?_
       refine c_skip ?_
       refine q_in_n ?_
       refine q_then_n (hK26 _ _ ?_)
       refine c_region ?_
       refine tp rfl (lv_move rfl) ?_
       refine tp rfl (lv_add (c := ((i2 + 1 : Nat) : Int)) rfl rfl (wr_i64_succ (by omega))) ?_
       refine tp rfl (lv_assign rfl) ?_
       refine t_done ?_
       refine q_then_n ?_
       exact t_weak (by exact ⟨rfl, rfl, rfl, rfl, rfl, rfl, rfl, rfl, rfl, rfl, rfl, rfl, rfl, rfl, trivial⟩) ((hK23 (i2 + 1) (by omega) (by omega)))
    · -- no
     by_cases h15 : ((i2 : Nat) : Int) > 0
     · -- yes
      by_cases h16 : ((tmL times).getD x0 0) = ((tmL times).getD x1 0)
      · -- yes
       refine c_draw (γ := Unit) (n := 72) Try.mixed rfl rfl (fun _ S => True) (fun _ => [(0, 97, (.int .i64 ((tmL times).getD x1 0))), (1, 98, (.int .i64 ((nw : Nat) : Int))), (2, 99, (.bool false)), (3, 100, (.bool false)), (4, 101, (.int .i64 ((tmL times).getD x1 0))), (5, 102, (.int .i64 ((nw : Nat) : Int))), (6, 103, (.int .i64 ((s : Nat) : Int))), (7, 104, (.int .i64 (((nw : Nat) : Int) - ((s : Nat) : Int)))), (8, 105, (.bool false)), (9, 106, (.bool false)), (10, 107, (.bool false)), (11, 108, (.slice bs7 ((dueL ks ((nw : Nat) : Int)).length) cp8)), (12, 109, (.int .i64 ((i2 : Nat) : Int))), (13, 110, (.pointer (some (ad bs7 i2)))), (14, 111, (.int .i64 ((x1 : Nat) : Int))), (15, 112, (.slice bsb stop.length csb)), (16, 113, (.int .i64 ((stop.length : Nat) : Int))), (17, 114, (.bool false)), (18, 115, (.bool false)), (19, 116, undef), (20, 117, undef), (21, 118, undef), (22, 119, undef), (23, 120, undef), (24, 121, undef), (25, 122, undef), (26, 123, (.bool false)), (27, 124, (.bool false)), (28, 125, (.bool false)), (29, 126, (.int .i64 ((i2 : Nat) : Int))), (30, 127, (.bool true)), (31, 128, (.bool true)), (32, 129, (.slice btb times.length ctb)), (33, 130, (.slice bs7 ((dueL ks ((nw : Nat) : Int)).length) cp8)), (34, 131, (.int .i64 ((i2 : Nat) : Int))), (35, 132, (.int .i64 ((i2 - 1 : Nat) : Int))), (36, 133, (.pointer (some (ad bs7 (i2 - 1))))), (37, 134, (.int .i64 ((x0 : Nat) : Int))), (38, 135, (.pointer (some (ad btb x0)))), (39, 136, (.int .u8 ((times).getD x0 0))), (40, 137, (.int .i64 ((times).getD x0 0))), (41, 138, (.int .i64 ((tmL times).getD x0 0))), (42, 139, (.int .i64 ((tmL times).getD x1 0))), (43, 140, (.bool false)), (44, 141, (.bool false)), (45, 142, (.slice btb times.length ctb)), (46, 143, (.slice bs7 ((dueL ks ((nw : Nat) : Int)).length) cp8)), (47, 144, (.int .i64 ((i2 : Nat) : Int))), (48, 145, (.int .i64 ((i2 - 1 : Nat) : Int))), (49, 146, (.pointer (some (ad bs7 (i2 - 1))))), (50, 147, (.int .i64 ((x0 : Nat) : Int))), (51, 148, (.pointer (some (ad btb x0)))), (52, 149, (.int .u8 ((times).getD x0 0))), (53, 150, (.int .i64 ((times).getD x0 0))), (54, 151, (.int .i64 ((tmL times).getD x0 0))), (55, 152, (.int .i64 ((tmL times).getD x1 0))), (56, 153, (.bool true)), (57, 154, (.bool true)), (58, 155, (.slice bs7 ((dueL ks ((nw : Nat) : Int)).length) cp8)), (59, 156, (.int .i64 ((i2 : Nat) : Int))), (60, 157, (.int .i64 ((i2 - 1 : Nat) : Int))), (61, 158, (.pointer (some (ad bs7 (i2 - 1))))), (62, 159, (.int .i64 ((x0 : Nat) : Int))), (63, 160, (.slice bs7 ((dueL ks ((nw : Nat) : Int)).length) cp8)), (64, 161, (.int .i64 ((i2 : Nat) : Int))), (65, 162, (.pointer (some (ad bs7 i2)))), (66, 163, (.int .i64 ((x1 : Nat) : Int))), (67, 164, (.bool false)), (68, 165, (.bool false)), (69, 166, (.bool false)), (70, 167, (.bool false)), (71, 168, (.bool false))]) (fun _ S => (SlV 3 1 (.slice bs7 ((dueL ks ((nw : Nat) : Int)).length) cp8) ((dueL ks ((nw : Nat) : Int)).length) (ints .i64 (dueL ks ((nw : Nat) : Int)))) :: (Blk p1 [(.pointer (some ⟨q2, 0, none⟩))] 37) :: (HeapO q2 n (duR ks ((nw : Nat) : Int))) :: R) (()) trivial (fun _ h => h) (fun _ _ h => h) ?_ ?_
       · -- steps
        refine ⟨?_, ?_, ?_, ?_, ?_, ?_, ?_, ?_, ?_, ?_, ?_, ?_, ?_, ?_, ?_, ?_, ?_, ?_, ?_, ?_, ?_, ?_, ?_, ?_, ?_, ?_, ?_, ?_, ?_, ?_, ?_, ?_, ?_, ?_, ?_, ?_, ?_, ?_, ?_, ?_, ?_, ?_, ?_, ?_, ?_, ?_, ?_, ?_, ?_, ?_, ?_, ?_, ?_, ?_, ?_, ?_, ?_, ?_, ?_, ?_, ?_, ?_, ?_, ?_, ?_, ?_, ?_, ?_, ?_, ?_, ?_, ?_, trivial⟩
        · -- 0
         rintro _ S hF hS D hp K hK
         try dsimp only at hF ⊢
         refine d_need (small := [(15, (.int .i64 ((tmL times).getD x1 0)))]) ⟨look_b rfl rfl, trivial⟩ ?_
         refine tp rfl (lv_move rfl) ?_
         exact d_closes ⟨look_b rfl rfl, trivial⟩ 0 rfl rfl rfl hS (AgreeR.refl _) (t_sat (fun _ h => h) (hK () trivial))
        · -- 1
         rintro _ S hF hS D hp K hK
         try dsimp only at hF ⊢
         refine d_need (small := [(12, (.int .i64 ((nw : Nat) : Int)))]) ⟨look_b rfl rfl, trivial⟩ ?_
         refine tp rfl (lv_move rfl) ?_
         exact d_closes ⟨look_b rfl rfl, trivial⟩ 1 rfl rfl rfl hS (AgreeR.refl _) (t_sat (fun _ h => h) (hK () trivial))
        · -- 2
         rintro _ S hF hS D hp K hK
         try dsimp only at hF ⊢
         have s0 := hp 0 rfl
         have s1 := hp 1 rfl
         refine d_need (small := [(97, (.int .i64 ((tmL times).getD x1 0))), (98, (.int .i64 ((nw : Nat) : Int)))]) ⟨look_row rfl 0 rfl s0, look_row rfl 1 rfl s1, trivial⟩ ?_
         refine tp rfl (lv_gtr rfl rfl (decide_eq_false (by omega))) ?_
         exact d_closes ⟨look_row rfl 0 rfl s0, look_row rfl 1 rfl s1, trivial⟩ 2 rfl rfl rfl hS (AgreeR.refl _) (t_sat (fun _ h => h) (hK () trivial))
        · -- 3
         rintro _ S hF hS D hp K hK
         try dsimp only at hF ⊢
         have s2 := hp 2 rfl
         refine d_need (small := [(99, (.bool false))]) ⟨look_row rfl 2 rfl s2, trivial⟩ ?_
         refine tp rfl (lv_move rfl) ?_
         exact d_closes ⟨look_row rfl 2 rfl s2, trivial⟩ 3 rfl rfl rfl hS (AgreeR.refl _) (t_sat (fun _ h => h) (hK () trivial))
        · -- 4
         rintro _ S hF hS D hp K hK
         try dsimp only at hF ⊢
         have s3 := hp 3 rfl
         refine d_need (small := [(15, (.int .i64 ((tmL times).getD x1 0))), (100, (.bool false))]) ⟨look_b rfl rfl, look_row rfl 3 rfl s3, trivial⟩ ?_
         refine t_guard rfl rfl ?_
         refine tp rfl (lv_move rfl) ?_
         exact d_closes ⟨look_b rfl rfl, look_row rfl 3 rfl s3, trivial⟩ 4 rfl rfl rfl hS (AgreeR.refl _) (t_sat (fun _ h => h) (hK () trivial))
        · -- 5
         rintro _ S hF hS D hp K hK
         try dsimp only at hF ⊢
         have s3 := hp 3 rfl
         refine d_need (small := [(12, (.int .i64 ((nw : Nat) : Int))), (100, (.bool false))]) ⟨look_b rfl rfl, look_row rfl 3 rfl s3, trivial⟩ ?_
         refine t_guard rfl rfl ?_
         refine tp rfl (lv_move rfl) ?_
         exact d_closes ⟨look_b rfl rfl, look_row rfl 3 rfl s3, trivial⟩ 5 rfl rfl rfl hS (AgreeR.refl _) (t_sat (fun _ h => h) (hK () trivial))
        · -- 6
         rintro _ S hF hS D hp K hK
         try dsimp only at hF ⊢
         have s3 := hp 3 rfl
         refine d_need (small := [(2, (.int .i64 ((s : Nat) : Int))), (100, (.bool false))]) ⟨look_b rfl rfl, look_row rfl 3 rfl s3, trivial⟩ ?_
         refine t_guard rfl rfl ?_
         refine tp rfl (lv_move rfl) ?_
         exact d_closes ⟨look_b rfl rfl, look_row rfl 3 rfl s3, trivial⟩ 6 rfl rfl rfl hS (AgreeR.refl _) (t_sat (fun _ h => h) (hK () trivial))
        · -- 7
         rintro _ S hF hS D hp K hK
         try dsimp only at hF ⊢
         have s3 := hp 3 rfl
         have s5 := hp 5 rfl
         have s6 := hp 6 rfl
         refine d_need (small := [(100, (.bool false)), (102, (.int .i64 ((nw : Nat) : Int))), (103, (.int .i64 ((s : Nat) : Int)))]) ⟨look_row rfl 3 rfl s3, look_row rfl 5 rfl s5, look_row rfl 6 rfl s6, trivial⟩ ?_
         refine t_guard rfl rfl ?_
         refine tp rfl (lv_sub (c := ((nw : Nat) : Int) - ((s : Nat) : Int)) rfl rfl (wr_i64 (by omega) (by omega))) ?_
         exact d_closes ⟨look_row rfl 3 rfl s3, look_row rfl 5 rfl s5, look_row rfl 6 rfl s6, trivial⟩ 7 rfl rfl rfl hS (AgreeR.refl _) (t_sat (fun _ h => h) (hK () trivial))
        · -- 8
         rintro _ S hF hS D hp K hK
         try dsimp only at hF ⊢
         have s3 := hp 3 rfl
         have s4 := hp 4 rfl
         have s7 := hp 7 rfl
         refine d_need (small := [(100, (.bool false)), (101, (.int .i64 ((tmL times).getD x1 0))), (104, (.int .i64 (((nw : Nat) : Int) - ((s : Nat) : Int))))]) ⟨look_row rfl 3 rfl s3, look_row rfl 4 rfl s4, look_row rfl 7 rfl s7, trivial⟩ ?_
         refine t_guard rfl rfl ?_
         refine tp rfl (lv_leq rfl rfl (decide_eq_false (by omega))) ?_
         exact d_closes ⟨look_row rfl 3 rfl s3, look_row rfl 4 rfl s4, look_row rfl 7 rfl s7, trivial⟩ 8 rfl rfl rfl hS (AgreeR.refl _) (t_sat (fun _ h => h) (hK () trivial))
        · -- 9
         rintro _ S hF hS D hp K hK
         try dsimp only at hF ⊢
         have s3 := hp 3 rfl
         have s8 := hp 8 rfl
         refine d_need (small := [(100, (.bool false)), (105, (.bool false))]) ⟨look_row rfl 3 rfl s3, look_row rfl 8 rfl s8, trivial⟩ ?_
         refine tp rfl (lv_pick_f rfl rfl) ?_
         exact d_closes ⟨look_row rfl 3 rfl s3, look_row rfl 8 rfl s8, trivial⟩ 9 rfl rfl rfl hS (AgreeR.refl _) (t_sat (fun _ h => h) (hK () trivial))
        · -- 10
         rintro _ S hF hS D hp K hK
         try dsimp only at hF ⊢
         have s9 := hp 9 rfl
         refine d_need (small := [(106, (.bool false))]) ⟨look_row rfl 9 rfl s9, trivial⟩ ?_
         refine tp rfl (lv_move rfl) ?_
         exact d_closes ⟨look_row rfl 9 rfl s9, trivial⟩ 10 rfl rfl rfl hS (AgreeR.refl _) (t_sat (fun _ h => h) (hK () trivial))
        · -- 11
         rintro _ S hF hS D hp K hK
         try dsimp only at hF ⊢
         have s10 := hp 10 rfl
         refine d_need (small := [(13, (.slice bs7 ((dueL ks ((nw : Nat) : Int)).length) cp8)), (107, (.bool false))]) ⟨look_b rfl rfl, look_row rfl 10 rfl s10, trivial⟩ ?_
         refine t_guard rfl rfl ?_
         refine tp rfl (lv_move rfl) ?_
         exact d_closes ⟨look_b rfl rfl, look_row rfl 10 rfl s10, trivial⟩ 11 rfl rfl rfl hS (AgreeR.refl _) (t_sat (fun _ h => h) (hK () trivial))
        · -- 12
         rintro _ S hF hS D hp K hK
         try dsimp only at hF ⊢
         have s10 := hp 10 rfl
         refine d_need (small := [(14, (.int .i64 ((i2 : Nat) : Int))), (107, (.bool false))]) ⟨look_b rfl rfl, look_row rfl 10 rfl s10, trivial⟩ ?_
         refine t_guard rfl rfl ?_
         refine tp rfl (lv_move rfl) ?_
         exact d_closes ⟨look_b rfl rfl, look_row rfl 10 rfl s10, trivial⟩ 12 rfl rfl rfl hS (AgreeR.refl _) (t_sat (fun _ h => h) (hK () trivial))
        · -- 13
         rintro _ S hF hS D hp K hK
         try dsimp only at hF ⊢
         have s10 := hp 10 rfl
         have s11 := hp 11 rfl
         have s12 := hp 12 rfl
         refine d_need (small := [(107, (.bool false)), (108, (.slice bs7 ((dueL ks ((nw : Nat) : Int)).length) cp8)), (109, (.int .i64 ((i2 : Nat) : Int)))]) ⟨look_row rfl 10 rfl s10, look_row rfl 11 rfl s11, look_row rfl 12 rfl s12, trivial⟩ ?_
         refine t_guard rfl rfl ?_
         refine tp rfl (lv_indexAddr (k' := i2) Try.underlying30 Try.sizeOf3 rfl rfl hok9 (by omega) (by omega) (by omega)) ?_
         exact d_closes ⟨look_row rfl 10 rfl s10, look_row rfl 11 rfl s11, look_row rfl 12 rfl s12, trivial⟩ 13 rfl rfl rfl hS (AgreeR.refl _) (t_sat (fun _ h => h) (hK () trivial))
        · -- 14
         rintro _ S hF hS D hp K hK
         try dsimp only at hF ⊢
         have s10 := hp 10 rfl
         have s13 := hp 13 rfl
         refine d_need (small := [(107, (.bool false)), (110, (.pointer (some (ad bs7 i2))))]) ⟨look_row rfl 10 rfl s10, look_row rfl 13 rfl s13, trivial⟩ ?_
         refine t_guard rfl rfl ?_
         refine tp rfl (lv_load Try.isAgg3 rfl (gives_as (v := .int .i64 ((x1 : Nat) : Int)) (by rw [hx1]) (gives_sl (.head _) (ints_get (by omega))))) ?_
         exact d_closes ⟨look_row rfl 10 rfl s10, look_row rfl 13 rfl s13, trivial⟩ 14 rfl rfl rfl hS (AgreeR.refl _) (t_sat (fun _ h => h) (hK () trivial))
        · -- 15
         rintro _ S hF hS D hp K hK
         try dsimp only at hF ⊢
         have s10 := hp 10 rfl
         refine d_need (small := [(1, (.slice bsb stop.length csb)), (107, (.bool false))]) ⟨look_b rfl rfl, look_row rfl 10 rfl s10, trivial⟩ ?_
         refine t_guard rfl rfl ?_
         refine tp rfl (lv_move rfl) ?_
         exact d_closes ⟨look_b rfl rfl, look_row rfl 10 rfl s10, trivial⟩ 15 rfl rfl rfl hS (AgreeR.refl _) (t_sat (fun _ h => h) (hK () trivial))
        · -- 16
         rintro _ S hF hS D hp K hK
         try dsimp only at hF ⊢
         have s10 := hp 10 rfl
         have s15 := hp 15 rfl
         refine d_need (small := [(107, (.bool false)), (112, (.slice bsb stop.length csb))]) ⟨look_row rfl 10 rfl s10, look_row rfl 15 rfl s15, trivial⟩ ?_
         refine t_guard rfl rfl ?_
         refine tp rfl (lv_len Try.underlying23 rfl rfl) ?_
         exact d_closes ⟨look_row rfl 10 rfl s10, look_row rfl 15 rfl s15, trivial⟩ 16 rfl rfl rfl hS (AgreeR.refl _) (t_sat (fun _ h => h) (hK () trivial))
        · -- 17
         rintro _ S hF hS D hp K hK
         try dsimp only at hF ⊢
         have s10 := hp 10 rfl
         have s14 := hp 14 rfl
         have s16 := hp 16 rfl
         refine d_need (small := [(107, (.bool false)), (111, (.int .i64 ((x1 : Nat) : Int))), (113, (.int .i64 ((stop.length : Nat) : Int)))]) ⟨look_row rfl 10 rfl s10, look_row rfl 14 rfl s14, look_row rfl 16 rfl s16, trivial⟩ ?_
         refine t_guard rfl rfl ?_
         refine tp rfl (lv_lss rfl rfl (decide_eq_false h12)) ?_
         exact d_closes ⟨look_row rfl 10 rfl s10, look_row rfl 14 rfl s14, look_row rfl 16 rfl s16, trivial⟩ 17 rfl rfl rfl hS (AgreeR.refl _) (t_sat (fun _ h => h) (hK () trivial))
        · -- 18
         rintro _ S hF hS D hp K hK
         try dsimp only at hF ⊢
         have s10 := hp 10 rfl
         have s17 := hp 17 rfl
         refine d_need (small := [(107, (.bool false)), (114, (.bool false))]) ⟨look_row rfl 10 rfl s10, look_row rfl 17 rfl s17, trivial⟩ ?_
         refine t_guard rfl rfl ?_
         refine tp rfl (lv_move rfl) ?_
         exact d_closes ⟨look_row rfl 10 rfl s10, look_row rfl 17 rfl s17, trivial⟩ 18 rfl rfl rfl hS (AgreeR.refl _) (t_sat (fun _ h => h) (hK () trivial))
        · -- 19
         rintro _ S hF hS D hp K hK
         try dsimp only at hF ⊢
         have s18 := hp 18 rfl
         refine d_need (small := [(1, (.slice bsb stop.length csb)), (115, (.bool false))]) ⟨look_b rfl rfl, look_row rfl 18 rfl s18, trivial⟩ ?_
         refine t_skip rfl rfl rfl ?_
         exact d_closes ⟨look_b rfl rfl, look_row rfl 18 rfl s18, trivial⟩ 19 rfl rfl rfl hS (AgreeR.refl _) (t_sat (fun _ h => h) (hK () trivial))
        · -- 20
         rintro _ S hF hS D hp K hK
         try dsimp only at hF ⊢
         have s18 := hp 18 rfl
         refine d_need (small := [(13, (.slice bs7 ((dueL ks ((nw : Nat) : Int)).length) cp8)), (115, (.bool false))]) ⟨look_b rfl rfl, look_row rfl 18 rfl s18, trivial⟩ ?_
         refine t_skip rfl rfl rfl ?_
         exact d_closes ⟨look_b rfl rfl, look_row rfl 18 rfl s18, trivial⟩ 20 rfl rfl rfl hS (AgreeR.refl _) (t_sat (fun _ h => h) (hK () trivial))
        · -- 21
         rintro _ S hF hS D hp K hK
         try dsimp only at hF ⊢
         have s18 := hp 18 rfl
         refine d_need (small := [(14, (.int .i64 ((i2 : Nat) : Int))), (115, (.bool false))]) ⟨look_b rfl rfl, look_row rfl 18 rfl s18, trivial⟩ ?_
         refine t_skip rfl rfl rfl ?_
         exact d_closes ⟨look_b rfl rfl, look_row rfl 18 rfl s18, trivial⟩ 21 rfl rfl rfl hS (AgreeR.refl _) (t_sat (fun _ h => h) (hK () trivial))
        · -- 22
         rintro _ S hF hS D hp K hK
         try dsimp only at hF ⊢
         have s18 := hp 18 rfl
         have s20 := hp 20 rfl
         have s21 := hp 21 rfl
         refine d_need (small := [(115, (.bool false)), (117, undef), (118, undef)]) ⟨look_row rfl 18 rfl s18, look_row rfl 20 rfl s20, look_row rfl 21 rfl s21, trivial⟩ ?_
         refine t_skip rfl rfl rfl ?_
         exact d_closes ⟨look_row rfl 18 rfl s18, look_row rfl 20 rfl s20, look_row rfl 21 rfl s21, trivial⟩ 22 rfl rfl rfl hS (AgreeR.refl _) (t_sat (fun _ h => h) (hK () trivial))
        · -- 23
         rintro _ S hF hS D hp K hK
         try dsimp only at hF ⊢
         have s18 := hp 18 rfl
         have s22 := hp 22 rfl
         refine d_need (small := [(115, (.bool false)), (119, undef)]) ⟨look_row rfl 18 rfl s18, look_row rfl 22 rfl s22, trivial⟩ ?_
         refine t_skip rfl rfl rfl ?_
         exact d_closes ⟨look_row rfl 18 rfl s18, look_row rfl 22 rfl s22, trivial⟩ 23 rfl rfl rfl hS (AgreeR.refl _) (t_sat (fun _ h => h) (hK () trivial))
        · -- 24
         rintro _ S hF hS D hp K hK
         try dsimp only at hF ⊢
         have s18 := hp 18 rfl
         have s19 := hp 19 rfl
         have s23 := hp 23 rfl
         refine d_need (small := [(115, (.bool false)), (116, undef), (120, undef)]) ⟨look_row rfl 18 rfl s18, look_row rfl 19 rfl s19, look_row rfl 23 rfl s23, trivial⟩ ?_
         refine t_skip rfl rfl rfl ?_
         exact d_closes ⟨look_row rfl 18 rfl s18, look_row rfl 19 rfl s19, look_row rfl 23 rfl s23, trivial⟩ 24 rfl rfl rfl hS (AgreeR.refl _) (t_sat (fun _ h => h) (hK () trivial))
        · -- 25
         rintro _ S hF hS D hp K hK
         try dsimp only at hF ⊢
         have s18 := hp 18 rfl
         have s24 := hp 24 rfl
         refine d_need (small := [(115, (.bool false)), (121, undef)]) ⟨look_row rfl 18 rfl s18, look_row rfl 24 rfl s24, trivial⟩ ?_
         refine t_skip rfl rfl rfl ?_
         exact d_closes ⟨look_row rfl 18 rfl s18, look_row rfl 24 rfl s24, trivial⟩ 25 rfl rfl rfl hS (AgreeR.refl _) (t_sat (fun _ h => h) (hK () trivial))
        · -- 26
         rintro _ S hF hS D hp K hK
         try dsimp only at hF ⊢
         have s10 := hp 10 rfl
         have s18 := hp 18 rfl
         have s25 := hp 25 rfl
         refine d_need (small := [(107, (.bool false)), (115, (.bool false)), (122, undef)]) ⟨look_row rfl 10 rfl s10, look_row rfl 18 rfl s18, look_row rfl 25 rfl s25, trivial⟩ ?_
         refine t_guard rfl rfl ?_
         refine tp rfl (lv_pick_f rfl rfl) ?_
         exact d_closes ⟨look_row rfl 10 rfl s10, look_row rfl 18 rfl s18, look_row rfl 25 rfl s25, trivial⟩ 26 rfl rfl rfl hS (AgreeR.refl _) (t_sat (fun _ h => h) (hK () trivial))
        · -- 27
         rintro _ S hF hS D hp K hK
         try dsimp only at hF ⊢
         have s10 := hp 10 rfl
         have s26 := hp 26 rfl
         refine d_need (small := [(107, (.bool false)), (123, (.bool false))]) ⟨look_row rfl 10 rfl s10, look_row rfl 26 rfl s26, trivial⟩ ?_
         refine tp rfl (lv_pick_f rfl rfl) ?_
         exact d_closes ⟨look_row rfl 10 rfl s10, look_row rfl 26 rfl s26, trivial⟩ 27 rfl rfl rfl hS (AgreeR.refl _) (t_sat (fun _ h => h) (hK () trivial))
        · -- 28
         rintro _ S hF hS D hp K hK
         try dsimp only at hF ⊢
         have s27 := hp 27 rfl
         refine d_need (small := [(124, (.bool false))]) ⟨look_row rfl 27 rfl s27, trivial⟩ ?_
         refine tp rfl (lv_move rfl) ?_
         exact d_closes ⟨look_row rfl 27 rfl s27, trivial⟩ 28 rfl rfl rfl hS (AgreeR.refl _) (t_sat (fun _ h => h) (hK () trivial))
        · -- 29
         rintro _ S hF hS D hp K hK
         try dsimp only at hF ⊢
         have s28 := hp 28 rfl
         refine d_need (small := [(14, (.int .i64 ((i2 : Nat) : Int))), (125, (.bool false))]) ⟨look_b rfl rfl, look_row rfl 28 rfl s28, trivial⟩ ?_
         refine t_guard rfl rfl ?_
         refine tp rfl (lv_move rfl) ?_
         exact d_closes ⟨look_b rfl rfl, look_row rfl 28 rfl s28, trivial⟩ 29 rfl rfl rfl hS (AgreeR.refl _) (t_sat (fun _ h => h) (hK () trivial))
        · -- 30
         rintro _ S hF hS D hp K hK
         try dsimp only at hF ⊢
         have s28 := hp 28 rfl
         have s29 := hp 29 rfl
         refine d_need (small := [(125, (.bool false)), (126, (.int .i64 ((i2 : Nat) : Int)))]) ⟨look_row rfl 28 rfl s28, look_row rfl 29 rfl s29, trivial⟩ ?_
         refine t_guard rfl rfl ?_
         refine tp rfl (lv_gtr rfl rfl (decide_eq_true h15)) ?_
         exact d_closes ⟨look_row rfl 28 rfl s28, look_row rfl 29 rfl s29, trivial⟩ 30 rfl rfl rfl hS (AgreeR.refl _) (t_sat (fun _ h => h) (hK () trivial))
        · -- 31
         rintro _ S hF hS D hp K hK
         try dsimp only at hF ⊢
         have s28 := hp 28 rfl
         have s30 := hp 30 rfl
         refine d_need (small := [(125, (.bool false)), (127, (.bool true))]) ⟨look_row rfl 28 rfl s28, look_row rfl 30 rfl s30, trivial⟩ ?_
         refine t_guard rfl rfl ?_
         refine tp rfl (lv_move rfl) ?_
         exact d_closes ⟨look_row rfl 28 rfl s28, look_row rfl 30 rfl s30, trivial⟩ 31 rfl rfl rfl hS (AgreeR.refl _) (t_sat (fun _ h => h) (hK () trivial))
        · -- 32
         rintro _ S hF hS D hp K hK
         try dsimp only at hF ⊢
         have s31 := hp 31 rfl
         refine d_need (small := [(0, (.slice btb times.length ctb)), (128, (.bool true))]) ⟨look_b rfl rfl, look_row rfl 31 rfl s31, trivial⟩ ?_
         refine t_guard rfl rfl ?_
         refine tp rfl (lv_move rfl) ?_
         exact d_closes ⟨look_b rfl rfl, look_row rfl 31 rfl s31, trivial⟩ 32 rfl rfl rfl hS (AgreeR.refl _) (t_sat (fun _ h => h) (hK () trivial))
        · -- 33
         rintro _ S hF hS D hp K hK
         try dsimp only at hF ⊢
         have s31 := hp 31 rfl
         refine d_need (small := [(13, (.slice bs7 ((dueL ks ((nw : Nat) : Int)).length) cp8)), (128, (.bool true))]) ⟨look_b rfl rfl, look_row rfl 31 rfl s31, trivial⟩ ?_
         refine t_guard rfl rfl ?_
         refine tp rfl (lv_move rfl) ?_
         exact d_closes ⟨look_b rfl rfl, look_row rfl 31 rfl s31, trivial⟩ 33 rfl rfl rfl hS (AgreeR.refl _) (t_sat (fun _ h => h) (hK () trivial))
        · -- 34
         rintro _ S hF hS D hp K hK
         try dsimp only at hF ⊢
         have s31 := hp 31 rfl
         refine d_need (small := [(14, (.int .i64 ((i2 : Nat) : Int))), (128, (.bool true))]) ⟨look_b rfl rfl, look_row rfl 31 rfl s31, trivial⟩ ?_
         refine t_guard rfl rfl ?_
         refine tp rfl (lv_move rfl) ?_
         exact d_closes ⟨look_b rfl rfl, look_row rfl 31 rfl s31, trivial⟩ 34 rfl rfl rfl hS (AgreeR.refl _) (t_sat (fun _ h => h) (hK () trivial))
        · -- 35
         rintro _ S hF hS D hp K hK
         try dsimp only at hF ⊢
         have s31 := hp 31 rfl
         have s34 := hp 34 rfl
         refine d_need (small := [(128, (.bool true)), (131, (.int .i64 ((i2 : Nat) : Int)))]) ⟨look_row rfl 31 rfl s31, look_row rfl 34 rfl s34, trivial⟩ ?_
         refine t_guard rfl rfl ?_
         refine tp rfl (lv_sub (c := ((i2 - 1 : Nat) : Int)) rfl rfl ((wr_i64 (by omega) (by omega)).trans (by omega))) ?_
         exact d_closes ⟨look_row rfl 31 rfl s31, look_row rfl 34 rfl s34, trivial⟩ 35 rfl rfl rfl hS (AgreeR.refl _) (t_sat (fun _ h => h) (hK () trivial))
        · -- 36
         rintro _ S hF hS D hp K hK
         try dsimp only at hF ⊢
         have s31 := hp 31 rfl
         have s33 := hp 33 rfl
         have s35 := hp 35 rfl
         refine d_need (small := [(128, (.bool true)), (130, (.slice bs7 ((dueL ks ((nw : Nat) : Int)).length) cp8)), (132, (.int .i64 ((i2 - 1 : Nat) : Int)))]) ⟨look_row rfl 31 rfl s31, look_row rfl 33 rfl s33, look_row rfl 35 rfl s35, trivial⟩ ?_
         refine t_guard rfl rfl ?_
         refine tp rfl (lv_indexAddr (k' := i2 - 1) Try.underlying30 Try.sizeOf3 rfl rfl hok9 (by omega) (by omega) (by omega)) ?_
         exact d_closes ⟨look_row rfl 31 rfl s31, look_row rfl 33 rfl s33, look_row rfl 35 rfl s35, trivial⟩ 36 rfl rfl rfl hS (AgreeR.refl _) (t_sat (fun _ h => h) (hK () trivial))
        · -- 37
         rintro _ S hF hS D hp K hK
         try dsimp only at hF ⊢
         have s31 := hp 31 rfl
         have s36 := hp 36 rfl
         refine d_need (small := [(128, (.bool true)), (133, (.pointer (some (ad bs7 (i2 - 1)))))]) ⟨look_row rfl 31 rfl s31, look_row rfl 36 rfl s36, trivial⟩ ?_
         refine t_guard rfl rfl ?_
         refine tp rfl (lv_load Try.isAgg3 rfl (gives_as (v := .int .i64 ((x0 : Nat) : Int)) (by rw [hx0]) (gives_sl (.head _) (ints_get (by omega))))) ?_
         exact d_closes ⟨look_row rfl 31 rfl s31, look_row rfl 36 rfl s36, trivial⟩ 37 rfl rfl rfl hS (AgreeR.refl _) (t_sat (fun _ h => h) (hK () trivial))
        · -- 38
         rintro _ S hF hS D hp K hK
         try dsimp only at hF ⊢
         have s31 := hp 31 rfl
         have s32 := hp 32 rfl
         have s37 := hp 37 rfl
         refine d_need (small := [(128, (.bool true)), (129, (.slice btb times.length ctb)), (134, (.int .i64 ((x0 : Nat) : Int)))]) ⟨look_row rfl 31 rfl s31, look_row rfl 32 rfl s32, look_row rfl 37 rfl s37, trivial⟩ ?_
         refine t_guard rfl rfl ?_
         refine tp rfl (lv_indexAddr (k' := x0) Try.underlying22 Try.sizeOf5 rfl rfl oktb (by omega) (by omega) (by omega)) ?_
         exact d_closes ⟨look_row rfl 31 rfl s31, look_row rfl 32 rfl s32, look_row rfl 37 rfl s37, trivial⟩ 38 rfl rfl rfl hS (AgreeR.refl _) (t_sat (fun _ h => h) (hK () trivial))
        · -- 39
         rintro _ S hF hS D hp K hK
         try dsimp only at hF ⊢
         have s31 := hp 31 rfl
         have s38 := hp 38 rfl
         refine d_need (small := [(128, (.bool true)), (135, (.pointer (some (ad btb x0))))]) ⟨look_row rfl 31 rfl s31, look_row rfl 38 rfl s38, trivial⟩ ?_
         refine t_guard rfl rfl ?_
         refine tp rfl (lv_load Try.isAgg5 rfl (Rd.gives (Rd.cons (Rd.cons (Rd.cons htb))) (ints_get (by omega)))) ?_
         exact d_closes ⟨look_row rfl 31 rfl s31, look_row rfl 38 rfl s38, trivial⟩ 39 rfl rfl rfl hS (AgreeR.refl _) (t_sat (fun _ h => h) (hK () trivial))
        · -- 40
         rintro _ S hF hS D hp K hK
         try dsimp only at hF ⊢
         have s31 := hp 31 rfl
         have s39 := hp 39 rfl
         refine d_need (small := [(128, (.bool true)), (136, (.int .u8 ((times).getD x0 0)))]) ⟨look_row rfl 31 rfl s31, look_row rfl 39 rfl s39, trivial⟩ ?_
         refine t_guard rfl rfl ?_
         refine tp rfl (lv_convert (c := (times).getD x0 0) Try.underlying5 Try.underlying3 rfl (wr_i64 (by omega) (by omega))) ?_
         exact d_closes ⟨look_row rfl 31 rfl s31, look_row rfl 39 rfl s39, trivial⟩ 40 rfl rfl rfl hS (AgreeR.refl _) (t_sat (fun _ h => h) (hK () trivial))
        · -- 41
         rintro _ S hF hS D hp K hK
         try dsimp only at hF ⊢
         have s31 := hp 31 rfl
         have s40 := hp 40 rfl
         refine d_need (small := [(128, (.bool true)), (137, (.int .i64 ((times).getD x0 0)))]) ⟨look_row rfl 31 rfl s31, look_row rfl 40 rfl s40, trivial⟩ ?_
         refine t_guard rfl rfl ?_
         refine tp rfl (lv_rem (c := ((tmL times).getD x0 0)) rfl rfl (by omega) ((Int.tmod_eq_emod_of_nonneg (by omega)).trans htx0.symm)) ?_
         exact d_closes ⟨look_row rfl 31 rfl s31, look_row rfl 40 rfl s40, trivial⟩ 41 rfl rfl rfl hS (AgreeR.refl _) (t_sat (fun _ h => h) (hK () trivial))
        · -- 42
         rintro _ S hF hS D hp K hK
         try dsimp only at hF ⊢
         have s31 := hp 31 rfl
         refine d_need (small := [(15, (.int .i64 ((tmL times).getD x1 0))), (128, (.bool true))]) ⟨look_b rfl rfl, look_row rfl 31 rfl s31, trivial⟩ ?_
         refine t_guard rfl rfl ?_
         refine tp rfl (lv_move rfl) ?_
         exact d_closes ⟨look_b rfl rfl, look_row rfl 31 rfl s31, trivial⟩ 42 rfl rfl rfl hS (AgreeR.refl _) (t_sat (fun _ h => h) (hK () trivial))
        · -- 43
         rintro _ S hF hS D hp K hK
         try dsimp only at hF ⊢
         have s31 := hp 31 rfl
         have s41 := hp 41 rfl
         have s42 := hp 42 rfl
         refine d_need (small := [(128, (.bool true)), (138, (.int .i64 ((tmL times).getD x0 0))), (139, (.int .i64 ((tmL times).getD x1 0)))]) ⟨look_row rfl 31 rfl s31, look_row rfl 41 rfl s41, look_row rfl 42 rfl s42, trivial⟩ ?_
         refine t_guard rfl rfl ?_
         refine tp rfl (lv_gtr rfl rfl (decide_eq_false (by omega))) ?_
         exact d_closes ⟨look_row rfl 31 rfl s31, look_row rfl 41 rfl s41, look_row rfl 42 rfl s42, trivial⟩ 43 rfl rfl rfl hS (AgreeR.refl _) (t_sat (fun _ h => h) (hK () trivial))
        · -- 44
         rintro _ S hF hS D hp K hK
         try dsimp only at hF ⊢
         have s31 := hp 31 rfl
         have s43 := hp 43 rfl
         refine d_need (small := [(128, (.bool true)), (140, (.bool false))]) ⟨look_row rfl 31 rfl s31, look_row rfl 43 rfl s43, trivial⟩ ?_
         refine t_guard rfl rfl ?_
         refine tp rfl (lv_move rfl) ?_
         exact d_closes ⟨look_row rfl 31 rfl s31, look_row rfl 43 rfl s43, trivial⟩ 44 rfl rfl rfl hS (AgreeR.refl _) (t_sat (fun _ h => h) (hK () trivial))
        · -- 45
         rintro _ S hF hS D hp K hK
         try dsimp only at hF ⊢
         have s44 := hp 44 rfl
         refine d_need (small := [(0, (.slice btb times.length ctb)), (141, (.bool false))]) ⟨look_b rfl rfl, look_row rfl 44 rfl s44, trivial⟩ ?_
         refine t_guard rfl rfl ?_
         refine tp rfl (lv_move rfl) ?_
         exact d_closes ⟨look_b rfl rfl, look_row rfl 44 rfl s44, trivial⟩ 45 rfl rfl rfl hS (AgreeR.refl _) (t_sat (fun _ h => h) (hK () trivial))
        · -- 46
         rintro _ S hF hS D hp K hK
         try dsimp only at hF ⊢
         have s44 := hp 44 rfl
         refine d_need (small := [(13, (.slice bs7 ((dueL ks ((nw : Nat) : Int)).length) cp8)), (141, (.bool false))]) ⟨look_b rfl rfl, look_row rfl 44 rfl s44, trivial⟩ ?_
         refine t_guard rfl rfl ?_
         refine tp rfl (lv_move rfl) ?_
         exact d_closes ⟨look_b rfl rfl, look_row rfl 44 rfl s44, trivial⟩ 46 rfl rfl rfl hS (AgreeR.refl _) (t_sat (fun _ h => h) (hK () trivial))
        · -- 47
         rintro _ S hF hS D hp K hK
         try dsimp only at hF ⊢
         have s44 := hp 44 rfl
         refine d_need (small := [(14, (.int .i64 ((i2 : Nat) : Int))), (141, (.bool false))]) ⟨look_b rfl rfl, look_row rfl 44 rfl s44, trivial⟩ ?_
         refine t_guard rfl rfl ?_
         refine tp rfl (lv_move rfl) ?_
         exact d_closes ⟨look_b rfl rfl, look_row rfl 44 rfl s44, trivial⟩ 47 rfl rfl rfl hS (AgreeR.refl _) (t_sat (fun _ h => h) (hK () trivial))
        · -- 48
         rintro _ S hF hS D hp K hK
         try dsimp only at hF ⊢
         have s44 := hp 44 rfl
         have s47 := hp 47 rfl
         refine d_need (small := [(141, (.bool false)), (144, (.int .i64 ((i2 : Nat) : Int)))]) ⟨look_row rfl 44 rfl s44, look_row rfl 47 rfl s47, trivial⟩ ?_
         refine t_guard rfl rfl ?_
         refine tp rfl (lv_sub (c := ((i2 - 1 : Nat) : Int)) rfl rfl ((wr_i64 (by omega) (by omega)).trans (by omega))) ?_
         exact d_closes ⟨look_row rfl 44 rfl s44, look_row rfl 47 rfl s47, trivial⟩ 48 rfl rfl rfl hS (AgreeR.refl _) (t_sat (fun _ h => h) (hK () trivial))
        · -- 49
         rintro _ S hF hS D hp K hK
         try dsimp only at hF ⊢
         have s44 := hp 44 rfl
         have s46 := hp 46 rfl
         have s48 := hp 48 rfl
         refine d_need (small := [(141, (.bool false)), (143, (.slice bs7 ((dueL ks ((nw : Nat) : Int)).length) cp8)), (145, (.int .i64 ((i2 - 1 : Nat) : Int)))]) ⟨look_row rfl 44 rfl s44, look_row rfl 46 rfl s46, look_row rfl 48 rfl s48, trivial⟩ ?_
         refine t_guard rfl rfl ?_
         refine tp rfl (lv_indexAddr (k' := i2 - 1) Try.underlying30 Try.sizeOf3 rfl rfl hok9 (by omega) (by omega) (by omega)) ?_
         exact d_closes ⟨look_row rfl 44 rfl s44, look_row rfl 46 rfl s46, look_row rfl 48 rfl s48, trivial⟩ 49 rfl rfl rfl hS (AgreeR.refl _) (t_sat (fun _ h => h) (hK () trivial))
        · -- 50
         rintro _ S hF hS D hp K hK
         try dsimp only at hF ⊢
         have s44 := hp 44 rfl
         have s49 := hp 49 rfl
         refine d_need (small := [(141, (.bool false)), (146, (.pointer (some (ad bs7 (i2 - 1)))))]) ⟨look_row rfl 44 rfl s44, look_row rfl 49 rfl s49, trivial⟩ ?_
         refine t_guard rfl rfl ?_
         refine tp rfl (lv_load Try.isAgg3 rfl (gives_as (v := .int .i64 ((x0 : Nat) : Int)) (by rw [hx0]) (gives_sl (.head _) (ints_get (by omega))))) ?_
         exact d_closes ⟨look_row rfl 44 rfl s44, look_row rfl 49 rfl s49, trivial⟩ 50 rfl rfl rfl hS (AgreeR.refl _) (t_sat (fun _ h => h) (hK () trivial))
        · -- 51
         rintro _ S hF hS D hp K hK
         try dsimp only at hF ⊢
         have s44 := hp 44 rfl
         have s45 := hp 45 rfl
         have s50 := hp 50 rfl
         refine d_need (small := [(141, (.bool false)), (142, (.slice btb times.length ctb)), (147, (.int .i64 ((x0 : Nat) : Int)))]) ⟨look_row rfl 44 rfl s44, look_row rfl 45 rfl s45, look_row rfl 50 rfl s50, trivial⟩ ?_
         refine t_guard rfl rfl ?_
         refine tp rfl (lv_indexAddr (k' := x0) Try.underlying22 Try.sizeOf5 rfl rfl oktb (by omega) (by omega) (by omega)) ?_
         exact d_closes ⟨look_row rfl 44 rfl s44, look_row rfl 45 rfl s45, look_row rfl 50 rfl s50, trivial⟩ 51 rfl rfl rfl hS (AgreeR.refl _) (t_sat (fun _ h => h) (hK () trivial))
        · -- 52
         rintro _ S hF hS D hp K hK
         try dsimp only at hF ⊢
         have s44 := hp 44 rfl
         have s51 := hp 51 rfl
         refine d_need (small := [(141, (.bool false)), (148, (.pointer (some (ad btb x0))))]) ⟨look_row rfl 44 rfl s44, look_row rfl 51 rfl s51, trivial⟩ ?_
         refine t_guard rfl rfl ?_
         refine tp rfl (lv_load Try.isAgg5 rfl (Rd.gives (Rd.cons (Rd.cons (Rd.cons htb))) (ints_get (by omega)))) ?_
         exact d_closes ⟨look_row rfl 44 rfl s44, look_row rfl 51 rfl s51, trivial⟩ 52 rfl rfl rfl hS (AgreeR.refl _) (t_sat (fun _ h => h) (hK () trivial))
        · -- 53
         rintro _ S hF hS D hp K hK
         try dsimp only at hF ⊢
         have s44 := hp 44 rfl
         have s52 := hp 52 rfl
         refine d_need (small := [(141, (.bool false)), (149, (.int .u8 ((times).getD x0 0)))]) ⟨look_row rfl 44 rfl s44, look_row rfl 52 rfl s52, trivial⟩ ?_
         refine t_guard rfl rfl ?_
         refine tp rfl (lv_convert (c := (times).getD x0 0) Try.underlying5 Try.underlying3 rfl (wr_i64 (by omega) (by omega))) ?_
         exact d_closes ⟨look_row rfl 44 rfl s44, look_row rfl 52 rfl s52, trivial⟩ 53 rfl rfl rfl hS (AgreeR.refl _) (t_sat (fun _ h => h) (hK () trivial))
        · -- 54
         rintro _ S hF hS D hp K hK
         try dsimp only at hF ⊢
         have s44 := hp 44 rfl
         have s53 := hp 53 rfl
         refine d_need (small := [(141, (.bool false)), (150, (.int .i64 ((times).getD x0 0)))]) ⟨look_row rfl 44 rfl s44, look_row rfl 53 rfl s53, trivial⟩ ?_
         refine t_guard rfl rfl ?_
         refine tp rfl (lv_rem (c := ((tmL times).getD x0 0)) rfl rfl (by omega) ((Int.tmod_eq_emod_of_nonneg (by omega)).trans htx0.symm)) ?_
         exact d_closes ⟨look_row rfl 44 rfl s44, look_row rfl 53 rfl s53, trivial⟩ 54 rfl rfl rfl hS (AgreeR.refl _) (t_sat (fun _ h => h) (hK () trivial))
        · -- 55
         rintro _ S hF hS D hp K hK
         try dsimp only at hF ⊢
         have s44 := hp 44 rfl
         refine d_need (small := [(15, (.int .i64 ((tmL times).getD x1 0))), (141, (.bool false))]) ⟨look_b rfl rfl, look_row rfl 44 rfl s44, trivial⟩ ?_
         refine t_guard rfl rfl ?_
         refine tp rfl (lv_move rfl) ?_
         exact d_closes ⟨look_b rfl rfl, look_row rfl 44 rfl s44, trivial⟩ 55 rfl rfl rfl hS (AgreeR.refl _) (t_sat (fun _ h => h) (hK () trivial))
        · -- 56
         rintro _ S hF hS D hp K hK
         try dsimp only at hF ⊢
         have s44 := hp 44 rfl
         have s54 := hp 54 rfl
         have s55 := hp 55 rfl
         refine d_need (small := [(141, (.bool false)), (151, (.int .i64 ((tmL times).getD x0 0))), (152, (.int .i64 ((tmL times).getD x1 0)))]) ⟨look_row rfl 44 rfl s44, look_row rfl 54 rfl s54, look_row rfl 55 rfl s55, trivial⟩ ?_
         refine t_guard rfl rfl ?_
         refine tp rfl (lv_eql rfl rfl (beq_iff_eq.2 h16)) ?_
         exact d_closes ⟨look_row rfl 44 rfl s44, look_row rfl 54 rfl s54, look_row rfl 55 rfl s55, trivial⟩ 56 rfl rfl rfl hS (AgreeR.refl _) (t_sat (fun _ h => h) (hK () trivial))
        · -- 57
         rintro _ S hF hS D hp K hK
         try dsimp only at hF ⊢
         have s44 := hp 44 rfl
         have s56 := hp 56 rfl
         refine d_need (small := [(141, (.bool false)), (153, (.bool true))]) ⟨look_row rfl 44 rfl s44, look_row rfl 56 rfl s56, trivial⟩ ?_
         refine t_guard rfl rfl ?_
         refine tp rfl (lv_move rfl) ?_
         exact d_closes ⟨look_row rfl 44 rfl s44, look_row rfl 56 rfl s56, trivial⟩ 57 rfl rfl rfl hS (AgreeR.refl _) (t_sat (fun _ h => h) (hK () trivial))
        · -- 58
         rintro _ S hF hS D hp K hK
         try dsimp only at hF ⊢
         have s57 := hp 57 rfl
         refine d_need (small := [(13, (.slice bs7 ((dueL ks ((nw : Nat) : Int)).length) cp8)), (154, (.bool true))]) ⟨look_b rfl rfl, look_row rfl 57 rfl s57, trivial⟩ ?_
         refine t_guard rfl rfl ?_
         refine tp rfl (lv_move rfl) ?_
         exact d_closes ⟨look_b rfl rfl, look_row rfl 57 rfl s57, trivial⟩ 58 rfl rfl rfl hS (AgreeR.refl _) (t_sat (fun _ h => h) (hK () trivial))
        · -- 59
         rintro _ S hF hS D hp K hK
         try dsimp only at hF ⊢
         have s57 := hp 57 rfl
         refine d_need (small := [(14, (.int .i64 ((i2 : Nat) : Int))), (154, (.bool true))]) ⟨look_b rfl rfl, look_row rfl 57 rfl s57, trivial⟩ ?_
         refine t_guard rfl rfl ?_
         refine tp rfl (lv_move rfl) ?_
         exact d_closes ⟨look_b rfl rfl, look_row rfl 57 rfl s57, trivial⟩ 59 rfl rfl rfl hS (AgreeR.refl _) (t_sat (fun _ h => h) (hK () trivial))
        · -- 60
         rintro _ S hF hS D hp K hK
         try dsimp only at hF ⊢
         have s57 := hp 57 rfl
         have s59 := hp 59 rfl
         refine d_need (small := [(154, (.bool true)), (156, (.int .i64 ((i2 : Nat) : Int)))]) ⟨look_row rfl 57 rfl s57, look_row rfl 59 rfl s59, trivial⟩ ?_
         refine t_guard rfl rfl ?_
         refine tp rfl (lv_sub (c := ((i2 - 1 : Nat) : Int)) rfl rfl ((wr_i64 (by omega) (by omega)).trans (by omega))) ?_
         exact d_closes ⟨look_row rfl 57 rfl s57, look_row rfl 59 rfl s59, trivial⟩ 60 rfl rfl rfl hS (AgreeR.refl _) (t_sat (fun _ h => h) (hK () trivial))
        · -- 61
         rintro _ S hF hS D hp K hK
         try dsimp only at hF ⊢
         have s57 := hp 57 rfl
         have s58 := hp 58 rfl
         have s60 := hp 60 rfl
         refine d_need (small := [(154, (.bool true)), (155, (.slice bs7 ((dueL ks ((nw : Nat) : Int)).length) cp8)), (157, (.int .i64 ((i2 - 1 : Nat) : Int)))]) ⟨look_row rfl 57 rfl s57, look_row rfl 58 rfl s58, look_row rfl 60 rfl s60, trivial⟩ ?_
         refine t_guard rfl rfl ?_
         refine tp rfl (lv_indexAddr (k' := i2 - 1) Try.underlying30 Try.sizeOf3 rfl rfl hok9 (by omega) (by omega) (by omega)) ?_
         exact d_closes ⟨look_row rfl 57 rfl s57, look_row rfl 58 rfl s58, look_row rfl 60 rfl s60, trivial⟩ 61 rfl rfl rfl hS (AgreeR.refl _) (t_sat (fun _ h => h) (hK () trivial))
        · -- 62
         rintro _ S hF hS D hp K hK
         try dsimp only at hF ⊢
         have s57 := hp 57 rfl
         have s61 := hp 61 rfl
         refine d_need (small := [(154, (.bool true)), (158, (.pointer (some (ad bs7 (i2 - 1)))))]) ⟨look_row rfl 57 rfl s57, look_row rfl 61 rfl s61, trivial⟩ ?_
         refine t_guard rfl rfl ?_
         refine tp rfl (lv_load Try.isAgg3 rfl (gives_as (v := .int .i64 ((x0 : Nat) : Int)) (by rw [hx0]) (gives_sl (.head _) (ints_get (by omega))))) ?_
         exact d_closes ⟨look_row rfl 57 rfl s57, look_row rfl 61 rfl s61, trivial⟩ 62 rfl rfl rfl hS (AgreeR.refl _) (t_sat (fun _ h => h) (hK () trivial))
        · -- 63
         rintro _ S hF hS D hp K hK
         try dsimp only at hF ⊢
         have s57 := hp 57 rfl
         refine d_need (small := [(13, (.slice bs7 ((dueL ks ((nw : Nat) : Int)).length) cp8)), (154, (.bool true))]) ⟨look_b rfl rfl, look_row rfl 57 rfl s57, trivial⟩ ?_
         refine t_guard rfl rfl ?_
         refine tp rfl (lv_move rfl) ?_
         exact d_closes ⟨look_b rfl rfl, look_row rfl 57 rfl s57, trivial⟩ 63 rfl rfl rfl hS (AgreeR.refl _) (t_sat (fun _ h => h) (hK () trivial))
        · -- 64
         rintro _ S hF hS D hp K hK
         try dsimp only at hF ⊢
         have s57 := hp 57 rfl
         refine d_need (small := [(14, (.int .i64 ((i2 : Nat) : Int))), (154, (.bool true))]) ⟨look_b rfl rfl, look_row rfl 57 rfl s57, trivial⟩ ?_
         refine t_guard rfl rfl ?_
         refine tp rfl (lv_move rfl) ?_
         exact d_closes ⟨look_b rfl rfl, look_row rfl 57 rfl s57, trivial⟩ 64 rfl rfl rfl hS (AgreeR.refl _) (t_sat (fun _ h => h) (hK () trivial))
        · -- 65
         rintro _ S hF hS D hp K hK
         try dsimp only at hF ⊢
         have s57 := hp 57 rfl
         have s63 := hp 63 rfl
         have s64 := hp 64 rfl
         refine d_need (small := [(154, (.bool true)), (160, (.slice bs7 ((dueL ks ((nw : Nat) : Int)).length) cp8)), (161, (.int .i64 ((i2 : Nat) : Int)))]) ⟨look_row rfl 57 rfl s57, look_row rfl 63 rfl s63, look_row rfl 64 rfl s64, trivial⟩ ?_
         refine t_guard rfl rfl ?_
         refine tp rfl (lv_indexAddr (k' := i2) Try.underlying30 Try.sizeOf3 rfl rfl hok9 (by omega) (by omega) (by omega)) ?_
         exact d_closes ⟨look_row rfl 57 rfl s57, look_row rfl 63 rfl s63, look_row rfl 64 rfl s64, trivial⟩ 65 rfl rfl rfl hS (AgreeR.refl _) (t_sat (fun _ h => h) (hK () trivial))
        · -- 66
         rintro _ S hF hS D hp K hK
         try dsimp only at hF ⊢
         have s57 := hp 57 rfl
         have s65 := hp 65 rfl
         refine d_need (small := [(154, (.bool true)), (162, (.pointer (some (ad bs7 i2))))]) ⟨look_row rfl 57 rfl s57, look_row rfl 65 rfl s65, trivial⟩ ?_
         refine t_guard rfl rfl ?_
         refine tp rfl (lv_load Try.isAgg3 rfl (gives_as (v := .int .i64 ((x1 : Nat) : Int)) (by rw [hx1]) (gives_sl (.head _) (ints_get (by omega))))) ?_
         exact d_closes ⟨look_row rfl 57 rfl s57, look_row rfl 65 rfl s65, trivial⟩ 66 rfl rfl rfl hS (AgreeR.refl _) (t_sat (fun _ h => h) (hK () trivial))
        · -- 67
         rintro _ S hF hS D hp K hK
         try dsimp only at hF ⊢
         have s57 := hp 57 rfl
         have s62 := hp 62 rfl
         have s66 := hp 66 rfl
         refine d_need (small := [(154, (.bool true)), (159, (.int .i64 ((x0 : Nat) : Int))), (163, (.int .i64 ((x1 : Nat) : Int)))]) ⟨look_row rfl 57 rfl s57, look_row rfl 62 rfl s62, look_row rfl 66 rfl s66, trivial⟩ ?_
         refine t_guard rfl rfl ?_
         refine tp rfl (lv_geq rfl rfl (decide_eq_false (by omega))) ?_
         exact d_closes ⟨look_row rfl 57 rfl s57, look_row rfl 62 rfl s62, look_row rfl 66 rfl s66, trivial⟩ 67 rfl rfl rfl hS (AgreeR.refl _) (t_sat (fun _ h => h) (hK () trivial))
        · -- 68
         rintro _ S hF hS D hp K hK
         try dsimp only at hF ⊢
         have s44 := hp 44 rfl
         have s57 := hp 57 rfl
         have s67 := hp 67 rfl
         refine d_need (small := [(141, (.bool false)), (154, (.bool true)), (164, (.bool false))]) ⟨look_row rfl 44 rfl s44, look_row rfl 57 rfl s57, look_row rfl 67 rfl s67, trivial⟩ ?_
         refine t_guard rfl rfl ?_
         refine tp rfl (lv_pick_t rfl rfl) ?_
         exact d_closes ⟨look_row rfl 44 rfl s44, look_row rfl 57 rfl s57, look_row rfl 67 rfl s67, trivial⟩ 68 rfl rfl rfl hS (AgreeR.refl _) (t_sat (fun _ h => h) (hK () trivial))
        · -- 69
         rintro _ S hF hS D hp K hK
         try dsimp only at hF ⊢
         have s31 := hp 31 rfl
         have s44 := hp 44 rfl
         have s68 := hp 68 rfl
         refine d_need (small := [(128, (.bool true)), (141, (.bool false)), (165, (.bool false))]) ⟨look_row rfl 31 rfl s31, look_row rfl 44 rfl s44, look_row rfl 68 rfl s68, trivial⟩ ?_
         refine t_guard rfl rfl ?_
         refine tp rfl (lv_pick_f rfl rfl) ?_
         exact d_closes ⟨look_row rfl 31 rfl s31, look_row rfl 44 rfl s44, look_row rfl 68 rfl s68, trivial⟩ 69 rfl rfl rfl hS (AgreeR.refl _) (t_sat (fun _ h => h) (hK () trivial))
        · -- 70
         rintro _ S hF hS D hp K hK
         try dsimp only at hF ⊢
         have s28 := hp 28 rfl
         have s31 := hp 31 rfl
         have s69 := hp 69 rfl
         refine d_need (small := [(125, (.bool false)), (128, (.bool true)), (166, (.bool false))]) ⟨look_row rfl 28 rfl s28, look_row rfl 31 rfl s31, look_row rfl 69 rfl s69, trivial⟩ ?_
         refine t_guard rfl rfl ?_
         refine tp rfl (lv_pick_t rfl rfl) ?_
         exact d_closes ⟨look_row rfl 28 rfl s28, look_row rfl 31 rfl s31, look_row rfl 69 rfl s69, trivial⟩ 70 rfl rfl rfl hS (AgreeR.refl _) (t_sat (fun _ h => h) (hK () trivial))
        · -- 71
         rintro _ S hF hS D hp K hK
         try dsimp only at hF ⊢
         have s28 := hp 28 rfl
         have s70 := hp 70 rfl
         refine d_need (small := [(125, (.bool false)), (167, (.bool false))]) ⟨look_row rfl 28 rfl s28, look_row rfl 70 rfl s70, trivial⟩ ?_
         refine tp rfl (lv_pick_f rfl rfl) ?_
         exact d_closes ⟨look_row rfl 28 rfl s28, look_row rfl 70 rfl s70, trivial⟩ 71 rfl rfl rfl hS (AgreeR.refl _) (t_sat (fun _ h => h) (hK () trivial))
       · -- behind
        rintro _ hF
        try dsimp only at hF ⊢
        refine t_weak (E' := [(0, (.slice btb times.length ctb)), (1, (.slice bsb stop.length csb)), (2, (.int .i64 ((s : Nat) : Int))), (7, (.bool true)), (8, (.int .i64 ((n : Nat) : Int))), (9, (.pointer (some ⟨p1, 0, none⟩))), (10, (.int .i64 lf)), (11, (.int .i64 ((i : Nat) : Int))), (12, (.int .i64 ((nw : Nat) : Int))), (13, (.slice bs7 ((dueL ks ((nw : Nat) : Int)).length) cp8)), (14, (.int .i64 ((i2 : Nat) : Int))), (15, (.int .i64 ((tmL times).getD x1 0))), (27, (.bool false)), (30, (.bool false)), (75, (.bool true)), (85, (.bool true)), (168, (.bool false))]) ⟨rfl, rfl, rfl, rfl, rfl, rfl, rfl, rfl, rfl, rfl, rfl, rfl, rfl, rfl, rfl, rfl, rfl, trivial⟩ ?_
        refine q_then_n (hK28 _ _ ?_)
        refine c_false rfl ?_
        refine c_skip ?_
        refine q_in_n ?_
        refine q_then_n (hK26 _ _ ?_)
        refine c_region ?_
        refine tp rfl (lv_move rfl) ?_
        refine tp rfl (lv_add (c := ((i2 + 1 : Nat) : Int)) rfl rfl (wr_i64_succ (by omega))) ?_
        refine tp rfl (lv_assign rfl) ?_
        refine t_done ?_
        refine q_then_n ?_
        exact t_weak (by exact ⟨rfl, rfl, rfl, rfl, rfl, rfl, rfl, rfl, rfl, rfl, rfl, rfl, rfl, rfl, trivial⟩) ((hK23 (i2 + 1) (by omega) (by omega)))
      · -- no
       refine c_draw (γ := Unit) (n := 72) Try.mixed rfl rfl (fun _ S => True) (fun _ => [(0, 97, (.int .i64 ((tmL times).getD x1 0))), (1, 98, (.int .i64 ((nw : Nat) : Int))), (2, 99, (.bool false)), (3, 100, (.bool false)), (4, 101, (.int .i64 ((tmL times).getD x1 0))), (5, 102, (.int .i64 ((nw : Nat) : Int))), (6, 103, (.int .i64 ((s : Nat) : Int))), (7, 104, (.int .i64 (((nw : Nat) : Int) - ((s : Nat) : Int)))), (8, 105, (.bool false)), (9, 106, (.bool false)), (10, 107, (.bool false)), (11, 108, (.slice bs7 ((dueL ks ((nw : Nat) : Int)).length) cp8)), (12, 109, (.int .i64 ((i2 : Nat) : Int))), (13, 110, (.pointer (some (ad bs7 i2)))), (14, 111, (.int .i64 ((x1 : Nat) : Int))), (15, 112, (.slice bsb stop.length csb)), (16, 113, (.int .i64 ((stop.length : Nat) : Int))), (17, 114, (.bool false)), (18, 115, (.bool false)), (19, 116, undef), (20, 117, undef), (21, 118, undef), (22, 119, undef), (23, 120, undef), (24, 121, undef), (25, 122, undef), (26, 123, (.bool false)), (27, 124, (.bool false)), (28, 125, (.bool false)), (29, 126, (.int .i64 ((i2 : Nat) : Int))), (30, 127, (.bool true)), (31, 128, (.bool true)), (32, 129, (.slice btb times.length ctb)), (33, 130, (.slice bs7 ((dueL ks ((nw : Nat) : Int)).length) cp8)), (34, 131, (.int .i64 ((i2 : Nat) : Int))), (35, 132, (.int .i64 ((i2 - 1 : Nat) : Int))), (36, 133, (.pointer (some (ad bs7 (i2 - 1))))), (37, 134, (.int .i64 ((x0 : Nat) : Int))), (38, 135, (.pointer (some (ad btb x0)))), (39, 136, (.int .u8 ((times).getD x0 0))), (40, 137, (.int .i64 ((times).getD x0 0))), (41, 138, (.int .i64 ((tmL times).getD x0 0))), (42, 139, (.int .i64 ((tmL times).getD x1 0))), (43, 140, (.bool false)), (44, 141, (.bool false)), (45, 142, (.slice btb times.length ctb)), (46, 143, (.slice bs7 ((dueL ks ((nw : Nat) : Int)).length) cp8)), (47, 144, (.int .i64 ((i2 : Nat) : Int))), (48, 145, (.int .i64 ((i2 - 1 : Nat) : Int))), (49, 146, (.pointer (some (ad bs7 (i2 - 1))))), (50, 147, (.int .i64 ((x0 : Nat) : Int))), (51, 148, (.pointer (some (ad btb x0)))), (52, 149, (.int .u8 ((times).getD x0 0))), (53, 150, (.int .i64 ((times).getD x0 0))), (54, 151, (.int .i64 ((tmL times).getD x0 0))), (55, 152, (.int .i64 ((tmL times).getD x1 0))), (56, 153, (.bool false)), (57, 154, (.bool false)), (58, 155, undef), (59, 156, undef), (60, 157, undef), (61, 158, undef), (62, 159, undef), (63, 160, undef), (64, 161, undef), (65, 162, undef), (66, 163, undef), (67, 164, undef), (68, 165, (.bool false)), (69, 166, (.bool false)), (70, 167, (.bool false)), (71, 168, (.bool false))]) (fun _ S => (SlV 3 1 (.slice bs7 ((dueL ks ((nw : Nat) : Int)).length) cp8) ((dueL ks ((nw : Nat) : Int)).length) (ints .i64 (dueL ks ((nw : Nat) : Int)))) :: (Blk p1 [(.pointer (some ⟨q2, 0, none⟩))] 37) :: (HeapO q2 n (duR ks ((nw : Nat) : Int))) :: R) (()) trivial (fun _ h => h) (fun _ _ h => h) ?_ ?_
       · -- steps
        refine ⟨?_, ?_, ?_, ?_, ?_, ?_, ?_, ?_, ?_, ?_, ?_, ?_, ?_, ?_, ?_, ?_, ?_, ?_, ?_, ?_, ?_, ?_, ?_, ?_, ?_, ?_, ?_, ?_, ?_, ?_, ?_, ?_, ?_, ?_, ?_, ?_, ?_, ?_, ?_, ?_, ?_, ?_, ?_, ?_, ?_, ?_, ?_, ?_, ?_, ?_, ?_, ?_, ?_, ?_, ?_, ?_, ?_, ?_, ?_, ?_, ?_, ?_, ?_, ?_, ?_, ?_, ?_, ?_, ?_, ?_, ?_, ?_, trivial⟩
        · -- 0
         rintro _ S hF hS D hp K hK
         try dsimp only at hF ⊢
         refine d_need (small := [(15, (.int .i64 ((tmL times).getD x1 0)))]) ⟨look_b rfl rfl, trivial⟩ ?_
         refine tp rfl (lv_move rfl) ?_
         exact d_closes ⟨look_b rfl rfl, trivial⟩ 0 rfl rfl rfl hS (AgreeR.refl _) (t_sat (fun _ h => h) (hK () trivial))
        · -- 1
         rintro _ S hF hS D hp K hK
         try dsimp only at hF ⊢
         refine d_need (small := [(12, (.int .i64 ((nw : Nat) : Int)))]) ⟨look_b rfl rfl, trivial⟩ ?_
         refine tp rfl (lv_move rfl) ?_
         exact d_closes ⟨look_b rfl rfl, trivial⟩ 1 rfl rfl rfl hS (AgreeR.refl _) (t_sat (fun _ h => h) (hK () trivial))
        · -- 2
         rintro _ S hF hS D hp K hK
         try dsimp only at hF ⊢
         have s0 := hp 0 rfl
         have s1 := hp 1 rfl
         refine d_need (small := [(97, (.int .i64 ((tmL times).getD x1 0))), (98, (.int .i64 ((nw : Nat) : Int)))]) ⟨look_row rfl 0 rfl s0, look_row rfl 1 rfl s1, trivial⟩ ?_
         refine tp rfl (lv_gtr rfl rfl (decide_eq_false (by omega))) ?_
         exact d_closes ⟨look_row rfl 0 rfl s0, look_row rfl 1 rfl s1, trivial⟩ 2 rfl rfl rfl hS (AgreeR.refl _) (t_sat (fun _ h => h) (hK () trivial))
        · -- 3
         rintro _ S hF hS D hp K hK
         try dsimp only at hF ⊢
         have s2 := hp 2 rfl
         refine d_need (small := [(99, (.bool false))]) ⟨look_row rfl 2 rfl s2, trivial⟩ ?_
         refine tp rfl (lv_move rfl) ?_
         exact d_closes ⟨look_row rfl 2 rfl s2, trivial⟩ 3 rfl rfl rfl hS (AgreeR.refl _) (t_sat (fun _ h => h) (hK () trivial))
        · -- 4
         rintro _ S hF hS D hp K hK
         try dsimp only at hF ⊢
         have s3 := hp 3 rfl
         refine d_need (small := [(15, (.int .i64 ((tmL times).getD x1 0))), (100, (.bool false))]) ⟨look_b rfl rfl, look_row rfl 3 rfl s3, trivial⟩ ?_
         refine t_guard rfl rfl ?_
         refine tp rfl (lv_move rfl) ?_
         exact d_closes ⟨look_b rfl rfl, look_row rfl 3 rfl s3, trivial⟩ 4 rfl rfl rfl hS (AgreeR.refl _) (t_sat (fun _ h => h) (hK () trivial))
        · -- 5
         rintro _ S hF hS D hp K hK
         try dsimp only at hF ⊢
         have s3 := hp 3 rfl
         refine d_need (small := [(12, (.int .i64 ((nw : Nat) : Int))), (100, (.bool false))]) ⟨look_b rfl rfl, look_row rfl 3 rfl s3, trivial⟩ ?_
         refine t_guard rfl rfl ?_
         refine tp rfl (lv_move rfl) ?_
         exact d_closes ⟨look_b rfl rfl, look_row rfl 3 rfl s3, trivial⟩ 5 rfl rfl rfl hS (AgreeR.refl _) (t_sat (fun _ h => h) (hK () trivial))
        · -- 6
         rintro _ S hF hS D hp K hK
         try dsimp only at hF ⊢
         have s3 := hp 3 rfl
         refine d_need (small := [(2, (.int .i64 ((s : Nat) : Int))), (100, (.bool false))]) ⟨look_b rfl rfl, look_row rfl 3 rfl s3, trivial⟩ ?_
         refine t_guard rfl rfl ?_
         refine tp rfl (lv_move rfl) ?_
         exact d_closes ⟨look_b rfl rfl, look_row rfl 3 rfl s3, trivial⟩ 6 rfl rfl rfl hS (AgreeR.refl _) (t_sat (fun _ h => h) (hK () trivial))
        · -- 7
         rintro _ S hF hS D hp K hK
         try dsimp only at hF ⊢
         have s3 := hp 3 rfl
         have s5 := hp 5 rfl
         have s6 := hp 6 rfl
         refine d_need (small := [(100, (.bool false)), (102, (.int .i64 ((nw : Nat) : Int))), (103, (.int .i64 ((s : Nat) : Int)))]) ⟨look_row rfl 3 rfl s3, look_row rfl 5 rfl s5, look_row rfl 6 rfl s6, trivial⟩ ?_
         refine t_guard rfl rfl ?_
         refine tp rfl (lv_sub (c := ((nw : Nat) : Int) - ((s : Nat) : Int)) rfl rfl (wr_i64 (by omega) (by omega))) ?_
         exact d_closes ⟨look_row rfl 3 rfl s3, look_row rfl 5 rfl s5, look_row rfl 6 rfl s6, trivial⟩ 7 rfl rfl rfl hS (AgreeR.refl _) (t_sat (fun _ h => h) (hK () trivial))
        · -- 8
         rintro _ S hF hS D hp K hK
         try dsimp only at hF ⊢
         have s3 := hp 3 rfl
         have s4 := hp 4 rfl
         have s7 := hp 7 rfl
         refine d_need (small := [(100, (.bool false)), (101, (.int .i64 ((tmL times).getD x1 0))), (104, (.int .i64 (((nw : Nat) : Int) - ((s : Nat) : Int))))]) ⟨look_row rfl 3 rfl s3, look_row rfl 4 rfl s4, look_row rfl 7 rfl s7, trivial⟩ ?_
         refine t_guard rfl rfl ?_
         refine tp rfl (lv_leq rfl rfl (decide_eq_false (by omega))) ?_
         exact d_closes ⟨look_row rfl 3 rfl s3, look_row rfl 4 rfl s4, look_row rfl 7 rfl s7, trivial⟩ 8 rfl rfl rfl hS (AgreeR.refl _) (t_sat (fun _ h => h) (hK () trivial))
        · -- 9
         rintro _ S hF hS D hp K hK
         try dsimp only at hF ⊢
         have s3 := hp 3 rfl
         have s8 := hp 8 rfl
         refine d_need (small := [(100, (.bool false)), (105, (.bool false))]) ⟨look_row rfl 3 rfl s3, look_row rfl 8 rfl s8, trivial⟩ ?_
         refine tp rfl (lv_pick_f rfl rfl) ?_
         exact d_closes ⟨look_row rfl 3 rfl s3, look_row rfl 8 rfl s8, trivial⟩ 9 rfl rfl rfl hS (AgreeR.refl _) (t_sat (fun _ h => h) (hK () trivial))
        · -- 10
         rintro _ S hF hS D hp K hK
         try dsimp only at hF ⊢
         have s9 := hp 9 rfl
         refine d_need (small := [(106, (.bool false))]) ⟨look_row rfl 9 rfl s9, trivial⟩ ?_
         refine tp rfl (lv_move rfl) ?_
         exact d_closes ⟨look_row rfl 9 rfl s9, trivial⟩ 10 rfl rfl rfl hS (AgreeR.refl _) (t_sat (fun _ h => h) (hK () trivial))
        · -- 11
         rintro _ S hF hS D hp K hK
         try dsimp only at hF ⊢
         have s10 := hp 10 rfl
         refine d_need (small := [(13, (.slice bs7 ((dueL ks ((nw : Nat) : Int)).length) cp8)), (107, (.bool false))]) ⟨look_b rfl rfl, look_row rfl 10 rfl s10, trivial⟩ ?_
         refine t_guard rfl rfl ?_
         refine tp rfl (lv_move rfl) ?_
         exact d_closes ⟨look_b rfl rfl, look_row rfl 10 rfl s10, trivial⟩ 11 rfl rfl rfl hS (AgreeR.refl _) (t_sat (fun _ h => h) (hK () trivial))
        · -- 12
         rintro _ S hF hS D hp K hK
         try dsimp only at hF ⊢
         have s10 := hp 10 rfl
         refine d_need (small := [(14, (.int .i64 ((i2 : Nat) : Int))), (107, (.bool false))]) ⟨look_b rfl rfl, look_row rfl 10 rfl s10, trivial⟩ ?_
         refine t_guard rfl rfl ?_
         refine tp rfl (lv_move rfl) ?_
         exact d_closes ⟨look_b rfl rfl, look_row rfl 10 rfl s10, trivial⟩ 12 rfl rfl rfl hS (AgreeR.refl _) (t_sat (fun _ h => h) (hK () trivial))
        · -- 13
         rintro _ S hF hS D hp K hK
         try dsimp only at hF ⊢
         have s10 := hp 10 rfl
         have s11 := hp 11 rfl
         have s12 := hp 12 rfl
         refine d_need (small := [(107, (.bool false)), (108, (.slice bs7 ((dueL ks ((nw : Nat) : Int)).length) cp8)), (109, (.int .i64 ((i2 : Nat) : Int)))]) ⟨look_row rfl 10 rfl s10, look_row rfl 11 rfl s11, look_row rfl 12 rfl s12, trivial⟩ ?_
         refine t_guard rfl rfl ?_
         refine tp rfl (lv_indexAddr (k' := i2) Try.underlying30 Try.sizeOf3 rfl rfl hok9 (by omega) (by omega) (by omega)) ?_
         exact d_closes ⟨look_row rfl 10 rfl s10, look_row rfl 11 rfl s11, look_row rfl 12 rfl s12, trivial⟩ 13 rfl rfl rfl hS (AgreeR.refl _) (t_sat (fun _ h => h) (hK () trivial))
        · -- 14
         rintro _ S hF hS D hp K hK
         try dsimp only at hF ⊢
         have s10 := hp 10 rfl
         have s13 := hp 13 rfl
         refine d_need (small := [(107, (.bool false)), (110, (.pointer (some (ad bs7 i2))))]) ⟨look_row rfl 10 rfl s10, look_row rfl 13 rfl s13, trivial⟩ ?_
         refine t_guard rfl rfl ?_
         refine tp rfl (lv_load Try.isAgg3 rfl (gives_as (v := .int .i64 ((x1 : Nat) : Int)) (by rw [hx1]) (gives_sl (.head _) (ints_get (by omega))))) ?_
         exact d_closes ⟨look_row rfl 10 rfl s10, look_row rfl 13 rfl s13, trivial⟩ 14 rfl rfl rfl hS (AgreeR.refl _) (t_sat (fun _ h => h) (hK () trivial))
        · -- 15
         rintro _ S hF hS D hp K hK
         try dsimp only at hF ⊢
         have s10 := hp 10 rfl
         refine d_need (small := [(1, (.slice bsb stop.length csb)), (107, (.bool false))]) ⟨look_b rfl rfl, look_row rfl 10 rfl s10, trivial⟩ ?_
         refine t_guard rfl rfl ?_
         refine tp rfl (lv_move rfl) ?_
         exact d_closes ⟨look_b rfl rfl, look_row rfl 10 rfl s10, trivial⟩ 15 rfl rfl rfl hS (AgreeR.refl _) (t_sat (fun _ h => h) (hK () trivial))
        · -- 16
         rintro _ S hF hS D hp K hK
         try dsimp only at hF ⊢
         have s10 := hp 10 rfl
         have s15 := hp 15 rfl
         refine d_need (small := [(107, (.bool false)), (112, (.slice bsb stop.length csb))]) ⟨look_row rfl 10 rfl s10, look_row rfl 15 rfl s15, trivial⟩ ?_
         refine t_guard rfl rfl ?_
         refine tp rfl (lv_len Try.underlying23 rfl rfl) ?_
         exact d_closes ⟨look_row rfl 10 rfl s10, look_row rfl 15 rfl s15, trivial⟩ 16 rfl rfl rfl hS (AgreeR.refl _) (t_sat (fun _ h => h) (hK () trivial))
        · -- 17
         rintro _ S hF hS D hp K hK
         try dsimp only at hF ⊢
         have s10 := hp 10 rfl
         have s14 := hp 14 rfl
         have s16 := hp 16 rfl
         refine d_need (small := [(107, (.bool false)), (111, (.int .i64 ((x1 : Nat) : Int))), (113, (.int .i64 ((stop.length : Nat) : Int)))]) ⟨look_row rfl 10 rfl s10, look_row rfl 14 rfl s14, look_row rfl 16 rfl s16, trivial⟩ ?_
         refine t_guard rfl rfl ?_
         refine tp rfl (lv_lss rfl rfl (decide_eq_false h12)) ?_
         exact d_closes ⟨look_row rfl 10 rfl s10, look_row rfl 14 rfl s14, look_row rfl 16 rfl s16, trivial⟩ 17 rfl rfl rfl hS (AgreeR.refl _) (t_sat (fun _ h => h) (hK () trivial))
        · -- 18
         rintro _ S hF hS D hp K hK
         try dsimp only at hF ⊢
         have s10 := hp 10 rfl
         have s17 := hp 17 rfl
         refine d_need (small := [(107, (.bool false)), (114, (.bool false))]) ⟨look_row rfl 10 rfl s10, look_row rfl 17 rfl s17, trivial⟩ ?_
         refine t_guard rfl rfl ?_
         refine tp rfl (lv_move rfl) ?_
         exact d_closes ⟨look_row rfl 10 rfl s10, look_row rfl 17 rfl s17, trivial⟩ 18 rfl rfl rfl hS (AgreeR.refl _) (t_sat (fun _ h => h) (hK () trivial))
        · -- 19
         rintro _ S hF hS D hp K hK
         try dsimp only at hF ⊢
         have s18 := hp 18 rfl
         refine d_need (small := [(1, (.slice bsb stop.length csb)), (115, (.bool false))]) ⟨look_b rfl rfl, look_row rfl 18 rfl s18, trivial⟩ ?_
         refine t_skip rfl rfl rfl ?_
         exact d_closes ⟨look_b rfl rfl, look_row rfl 18 rfl s18, trivial⟩ 19 rfl rfl rfl hS (AgreeR.refl _) (t_sat (fun _ h => h) (hK () trivial))
        · -- 20
         rintro _ S hF hS D hp K hK
         try dsimp only at hF ⊢
         have s18 := hp 18 rfl
         refine d_need (small := [(13, (.slice bs7 ((dueL ks ((nw : Nat) : Int)).length) cp8)), (115, (.bool false))]) ⟨look_b rfl rfl, look_row rfl 18 rfl s18, trivial⟩ ?_
         refine t_skip rfl rfl rfl ?_
         exact d_closes ⟨look_b rfl rfl, look_row rfl 18 rfl s18, trivial⟩ 20 rfl rfl rfl hS (AgreeR.refl _) (t_sat (fun _ h => h) (hK () trivial))
        · -- 21
         rintro _ S hF hS D hp K hK
         try dsimp only at hF ⊢
         have s18 := hp 18 rfl
         refine d_need (small := [(14, (.int .i64 ((i2 : Nat) : Int))), (115, (.bool false))]) ⟨look_b rfl rfl, look_row rfl 18 rfl s18, trivial⟩ ?_
         refine t_skip rfl rfl rfl ?_
         exact d_closes ⟨look_b rfl rfl, look_row rfl 18 rfl s18, trivial⟩ 21 rfl rfl rfl hS (AgreeR.refl _) (t_sat (fun _ h => h) (hK () trivial))
        · -- 22
         rintro _ S hF hS D hp K hK
         try dsimp only at hF ⊢
         have s18 := hp 18 rfl
         have s20 := hp 20 rfl
         have s21 := hp 21 rfl
         refine d_need (small := [(115, (.bool false)), (117, undef), (118, undef)]) ⟨look_row rfl 18 rfl s18, look_row rfl 20 rfl s20, look_row rfl 21 rfl s21, trivial⟩ ?_
         refine t_skip rfl rfl rfl ?_
         exact d_closes ⟨look_row rfl 18 rfl s18, look_row rfl 20 rfl s20, look_row rfl 21 rfl s21, trivial⟩ 22 rfl rfl rfl hS (AgreeR.refl _) (t_sat (fun _ h => h) (hK () trivial))
        · -- 23
         rintro _ S hF hS D hp K hK
         try dsimp only at hF ⊢
         have s18 := hp 18 rfl
         have s22 := hp 22 rfl
         refine d_need (small := [(115, (.bool false)), (119, undef)]) ⟨look_row rfl 18 rfl s18, look_row rfl 22 rfl s22, trivial⟩ ?_
         refine t_skip rfl rfl rfl ?_
         exact d_closes ⟨look_row rfl 18 rfl s18, look_row rfl 22 rfl s22, trivial⟩ 23 rfl rfl rfl hS (AgreeR.refl _) (t_sat (fun _ h => h) (hK () trivial))
        · -- 24
         rintro _ S hF hS D hp K hK
         try dsimp only at hF ⊢
         have s18 := hp 18 rfl
         have s19 := hp 19 rfl
         have s23 := hp 23 rfl
         refine d_need (small := [(115, (.bool false)), (116, undef), (120, undef)]) ⟨look_row rfl 18 rfl s18, look_row rfl 19 rfl s19, look_row rfl 23 rfl s23, trivial⟩ ?_
         refine t_skip rfl rfl rfl ?_
         exact d_closes ⟨look_row rfl 18 rfl s18, look_row rfl 19 rfl s19, look_row rfl 23 rfl s23, trivial⟩ 24 rfl rfl rfl hS (AgreeR.refl _) (t_sat (fun _ h => h) (hK () trivial))
        · -- 25
         rintro _ S hF hS D hp K hK
         try dsimp only at hF ⊢
         have s18 := hp 18 rfl
         have s24 := hp 24 rfl
         refine d_need (small := [(115, (.bool false)), (121, undef)]) ⟨look_row rfl 18 rfl s18, look_row rfl 24 rfl s24, trivial⟩ ?_
         refine t_skip rfl rfl rfl ?_
         exact d_closes ⟨look_row rfl 18 rfl s18, look_row rfl 24 rfl s24, trivial⟩ 25 rfl rfl rfl hS (AgreeR.refl _) (t_sat (fun _ h => h) (hK () trivial))
        · -- 26
         rintro _ S hF hS D hp K hK
         try dsimp only at hF ⊢
         have s10 := hp 10 rfl
         have s18 := hp 18 rfl
         have s25 := hp 25 rfl
         refine d_need (small := [(107, (.bool false)), (115, (.bool false)), (122, undef)]) ⟨look_row rfl 10 rfl s10, look_row rfl 18 rfl s18, look_row rfl 25 rfl s25, trivial⟩ ?_
         refine t_guard rfl rfl ?_
         refine tp rfl (lv_pick_f rfl rfl) ?_
         exact d_closes ⟨look_row rfl 10 rfl s10, look_row rfl 18 rfl s18, look_row rfl 25 rfl s25, trivial⟩ 26 rfl rfl rfl hS (AgreeR.refl _) (t_sat (fun _ h => h) (hK () trivial))
        · -- 27
         rintro _ S hF hS D hp K hK
         try dsimp only at hF ⊢
         have s10 := hp 10 rfl
         have s26 := hp 26 rfl
         refine d_need (small := [(107, (.bool false)), (123, (.bool false))]) ⟨look_row rfl 10 rfl s10, look_row rfl 26 rfl s26, trivial⟩ ?_
         refine tp rfl (lv_pick_f rfl rfl) ?_
         exact d_closes ⟨look_row rfl 10 rfl s10, look_row rfl 26 rfl s26, trivial⟩ 27 rfl rfl rfl hS (AgreeR.refl _) (t_sat (fun _ h => h) (hK () trivial))
        · -- 28
         rintro _ S hF hS D hp K hK
         try dsimp only at hF ⊢
         have s27 := hp 27 rfl
         refine d_need (small := [(124, (.bool false))]) ⟨look_row rfl 27 rfl s27, trivial⟩ ?_
         refine tp rfl (lv_move rfl) ?_
         exact d_closes ⟨look_row rfl 27 rfl s27, trivial⟩ 28 rfl rfl rfl hS (AgreeR.refl _) (t_sat (fun _ h => h) (hK () trivial))
        · -- 29
         rintro _ S hF hS D hp K hK
         try dsimp only at hF ⊢
         have s28 := hp 28 rfl
         refine d_need (small := [(14, (.int .i64 ((i2 : Nat) : Int))), (125, (.bool false))]) ⟨look_b rfl rfl, look_row rfl 28 rfl s28, trivial⟩ ?_
         refine t_guard rfl rfl ?_
         refine tp rfl (lv_move rfl) ?_
         exact d_closes ⟨look_b rfl rfl, look_row rfl 28 rfl s28, trivial⟩ 29 rfl rfl rfl hS (AgreeR.refl _) (t_sat (fun _ h => h) (hK () trivial))
        · -- 30
         rintro _ S hF hS D hp K hK
         try dsimp only at hF ⊢
         have s28 := hp 28 rfl
         have s29 := hp 29 rfl
         refine d_need (small := [(125, (.bool false)), (126, (.int .i64 ((i2 : Nat) : Int)))]) ⟨look_row rfl 28 rfl s28, look_row rfl 29 rfl s29, trivial⟩ ?_
         refine t_guard rfl rfl ?_
         refine tp rfl (lv_gtr rfl rfl (decide_eq_true h15)) ?_
         exact d_closes ⟨look_row rfl 28 rfl s28, look_row rfl 29 rfl s29, trivial⟩ 30 rfl rfl rfl hS (AgreeR.refl _) (t_sat (fun _ h => h) (hK () trivial))
        · -- 31
         rintro _ S hF hS D hp K hK
         try dsimp only at hF ⊢
         have s28 := hp 28 rfl
         have s30 := hp 30 rfl
         refine d_need (small := [(125, (.bool false)), (127, (.bool true))]) ⟨look_row rfl 28 rfl s28, look_row rfl 30 rfl s30, trivial⟩ ?_
         refine t_guard rfl rfl ?_
         refine tp rfl (lv_move rfl) ?_
         exact d_closes ⟨look_row rfl 28 rfl s28, look_row rfl 30 rfl s30, trivial⟩ 31 rfl rfl rfl hS (AgreeR.refl _) (t_sat (fun _ h => h) (hK () trivial))
        · -- 32
         rintro _ S hF hS D hp K hK
         try dsimp only at hF ⊢
         have s31 := hp 31 rfl
         refine d_need (small := [(0, (.slice btb times.length ctb)), (128, (.bool true))]) ⟨look_b rfl rfl, look_row rfl 31 rfl s31, trivial⟩ ?_
         refine t_guard rfl rfl ?_
         refine tp rfl (lv_move rfl) ?_
         exact d_closes ⟨look_b rfl rfl, look_row rfl 31 rfl s31, trivial⟩ 32 rfl rfl rfl hS (AgreeR.refl _) (t_sat (fun _ h => h) (hK () trivial))
        · -- 33
         rintro _ S hF hS D hp K hK
         try dsimp only at hF ⊢
         have s31 := hp 31 rfl
         refine d_need (small := [(13, (.slice bs7 ((dueL ks ((nw : Nat) : Int)).length) cp8)), (128, (.bool true))]) ⟨look_b rfl rfl, look_row rfl 31 rfl s31, trivial⟩ ?_
         refine t_guard rfl rfl ?_
         refine tp rfl (lv_move rfl) ?_
         exact d_closes ⟨look_b rfl rfl, look_row rfl 31 rfl s31, trivial⟩ 33 rfl rfl rfl hS (AgreeR.refl _) (t_sat (fun _ h => h) (hK () trivial))
        · -- 34
         rintro _ S hF hS D hp K hK
         try dsimp only at hF ⊢
         have s31 := hp 31 rfl
         refine d_need (small := [(14, (.int .i64 ((i2 : Nat) : Int))), (128, (.bool true))]) ⟨look_b rfl rfl, look_row rfl 31 rfl s31, trivial⟩ ?_
         refine t_guard rfl rfl ?_
         refine tp rfl (lv_move rfl) ?_
         exact d_closes ⟨look_b rfl rfl, look_row rfl 31 rfl s31, trivial⟩ 34 rfl rfl rfl hS (AgreeR.refl _) (t_sat (fun _ h => h) (hK () trivial))
        · -- 35
         rintro _ S hF hS D hp K hK
         try dsimp only at hF ⊢
         have s31 := hp 31 rfl
         have s34 := hp 34 rfl
         refine d_need (small := [(128, (.bool true)), (131, (.int .i64 ((i2 : Nat) : Int)))]) ⟨look_row rfl 31 rfl s31, look_row rfl 34 rfl s34, trivial⟩ ?_
         refine t_guard rfl rfl ?_
         refine tp rfl (lv_sub (c := ((i2 - 1 : Nat) : Int)) rfl rfl ((wr_i64 (by omega) (by omega)).trans (by omega))) ?_
         exact d_closes ⟨look_row rfl 31 rfl s31, look_row rfl 34 rfl s34, trivial⟩ 35 rfl rfl rfl hS (AgreeR.refl _) (t_sat (fun _ h => h) (hK () trivial))
        · -- 36
         rintro _ S hF hS D hp K hK
         try dsimp only at hF ⊢
         have s31 := hp 31 rfl
         have s33 := hp 33 rfl
         have s35 := hp 35 rfl
         refine d_need (small := [(128, (.bool true)), (130, (.slice bs7 ((dueL ks ((nw : Nat) : Int)).length) cp8)), (132, (.int .i64 ((i2 - 1 : Nat) : Int)))]) ⟨look_row rfl 31 rfl s31, look_row rfl 33 rfl s33, look_row rfl 35 rfl s35, trivial⟩ ?_
         refine t_guard rfl rfl ?_
         refine tp rfl (lv_indexAddr (k' := i2 - 1) Try.underlying30 Try.sizeOf3 rfl rfl hok9 (by omega) (by omega) (by omega)) ?_
         exact d_closes ⟨look_row rfl 31 rfl s31, look_row rfl 33 rfl s33, look_row rfl 35 rfl s35, trivial⟩ 36 rfl rfl rfl hS (AgreeR.refl _) (t_sat (fun _ h => h) (hK () trivial))
        · -- 37
         rintro _ S hF hS D hp K hK
         try dsimp only at hF ⊢
         have s31 := hp 31 rfl
         have s36 := hp 36 rfl
         refine d_need (small := [(128, (.bool true)), (133, (.pointer (some (ad bs7 (i2 - 1)))))]) ⟨look_row rfl 31 rfl s31, look_row rfl 36 rfl s36, trivial⟩ ?_
         refine t_guard rfl rfl ?_
         refine tp rfl (lv_load Try.isAgg3 rfl (gives_as (v := .int .i64 ((x0 : Nat) : Int)) (by rw [hx0]) (gives_sl (.head _) (ints_get (by omega))))) ?_
         exact d_closes ⟨look_row rfl 31 rfl s31, look_row rfl 36 rfl s36, trivial⟩ 37 rfl rfl rfl hS (AgreeR.refl _) (t_sat (fun _ h => h) (hK () trivial))
        · -- 38
         rintro _ S hF hS D hp K hK
         try dsimp only at hF ⊢
         have s31 := hp 31 rfl
         have s32 := hp 32 rfl
         have s37 := hp 37 rfl
         refine d_need (small := [(128, (.bool true)), (129, (.slice btb times.length ctb)), (134, (.int .i64 ((x0 : Nat) : Int)))]) ⟨look_row rfl 31 rfl s31, look_row rfl 32 rfl s32, look_row rfl 37 rfl s37, trivial⟩ ?_
         refine t_guard rfl rfl ?_
         refine tp rfl (lv_indexAddr (k' := x0) Try.underlying22 Try.sizeOf5 rfl rfl oktb (by omega) (by omega) (by omega)) ?_
         exact d_closes ⟨look_row rfl 31 rfl s31, look_row rfl 32 rfl s32, look_row rfl 37 rfl s37, trivial⟩ 38 rfl rfl rfl hS (AgreeR.refl _) (t_sat (fun _ h => h) (hK () trivial))
        · -- 39
         rintro _ S hF hS D hp K hK
         try dsimp only at hF ⊢
         have s31 := hp 31 rfl
         have s38 := hp 38 rfl
         refine d_need (small := [(128, (.bool true)), (135, (.pointer (some (ad btb x0))))]) ⟨look_row rfl 31 rfl s31, look_row rfl 38 rfl s38, trivial⟩ ?_
         refine t_guard rfl rfl ?_
         refine tp rfl (lv_load Try.isAgg5 rfl (Rd.gives (Rd.cons (Rd.cons (Rd.cons htb))) (ints_get (by omega)))) ?_
         exact d_closes ⟨look_row rfl 31 rfl s31, look_row rfl 38 rfl s38, trivial⟩ 39 rfl rfl rfl hS (AgreeR.refl _) (t_sat (fun _ h => h) (hK () trivial))
        · -- 40
         rintro _ S hF hS D hp K hK
         try dsimp only at hF ⊢
         have s31 := hp 31 rfl
         have s39 := hp 39 rfl
         refine d_need (small := [(128, (.bool true)), (136, (.int .u8 ((times).getD x0 0)))]) ⟨look_row rfl 31 rfl s31, look_row rfl 39 rfl s39, trivial⟩ ?_
         refine t_guard rfl rfl ?_
         refine tp rfl (lv_convert (c := (times).getD x0 0) Try.underlying5 Try.underlying3 rfl (wr_i64 (by omega) (by omega))) ?_
         exact d_closes ⟨look_row rfl 31 rfl s31, look_row rfl 39 rfl s39, trivial⟩ 40 rfl rfl rfl hS (AgreeR.refl _) (t_sat (fun _ h => h) (hK () trivial))
        · -- 41
         rintro _ S hF hS D hp K hK
         try dsimp only at hF ⊢
         have s31 := hp 31 rfl
         have s40 := hp 40 rfl
         refine d_need (small := [(128, (.bool true)), (137, (.int .i64 ((times).getD x0 0)))]) ⟨look_row rfl 31 rfl s31, look_row rfl 40 rfl s40, trivial⟩ ?_
         refine t_guard rfl rfl ?_
         refine tp rfl (lv_rem (c := ((tmL times).getD x0 0)) rfl rfl (by omega) ((Int.tmod_eq_emod_of_nonneg (by omega)).trans htx0.symm)) ?_
         exact d_closes ⟨look_row rfl 31 rfl s31, look_row rfl 40 rfl s40, trivial⟩ 41 rfl rfl rfl hS (AgreeR.refl _) (t_sat (fun _ h => h) (hK () trivial))
        · -- 42
         rintro _ S hF hS D hp K hK
         try dsimp only at hF ⊢
         have s31 := hp 31 rfl
         refine d_need (small := [(15, (.int .i64 ((tmL times).getD x1 0))), (128, (.bool true))]) ⟨look_b rfl rfl, look_row rfl 31 rfl s31, trivial⟩ ?_
         refine t_guard rfl rfl ?_
         refine tp rfl (lv_move rfl) ?_
         exact d_closes ⟨look_b rfl rfl, look_row rfl 31 rfl s31, trivial⟩ 42 rfl rfl rfl hS (AgreeR.refl _) (t_sat (fun _ h => h) (hK () trivial))
        · -- 43
         rintro _ S hF hS D hp K hK
         try dsimp only at hF ⊢
         have s31 := hp 31 rfl
         have s41 := hp 41 rfl
         have s42 := hp 42 rfl
         refine d_need (small := [(128, (.bool true)), (138, (.int .i64 ((tmL times).getD x0 0))), (139, (.int .i64 ((tmL times).getD x1 0)))]) ⟨look_row rfl 31 rfl s31, look_row rfl 41 rfl s41, look_row rfl 42 rfl s42, trivial⟩ ?_
         refine t_guard rfl rfl ?_
         refine tp rfl (lv_gtr rfl rfl (decide_eq_false (by omega))) ?_
         exact d_closes ⟨look_row rfl 31 rfl s31, look_row rfl 41 rfl s41, look_row rfl 42 rfl s42, trivial⟩ 43 rfl rfl rfl hS (AgreeR.refl _) (t_sat (fun _ h => h) (hK () trivial))
        · -- 44
         rintro _ S hF hS D hp K hK
         try dsimp only at hF ⊢
         have s31 := hp 31 rfl
         have s43 := hp 43 rfl
         refine d_need (small := [(128, (.bool true)), (140, (.bool false))]) ⟨look_row rfl 31 rfl s31, look_row rfl 43 rfl s43, trivial⟩ ?_
         refine t_guard rfl rfl ?_
         refine tp rfl (lv_move rfl) ?_
         exact d_closes ⟨look_row rfl 31 rfl s31, look_row rfl 43 rfl s43, trivial⟩ 44 rfl rfl rfl hS (AgreeR.refl _) (t_sat (fun _ h => h) (hK () trivial))
        · -- 45
         rintro _ S hF hS D hp K hK
         try dsimp only at hF ⊢
         have s44 := hp 44 rfl
         refine d_need (small := [(0, (.slice btb times.length ctb)), (141, (.bool false))]) ⟨look_b rfl rfl, look_row rfl 44 rfl s44, trivial⟩ ?_
         refine t_guard rfl rfl ?_
         refine tp rfl (lv_move rfl) ?_
         exact d_closes ⟨look_b rfl rfl, look_row rfl 44 rfl s44, trivial⟩ 45 rfl rfl rfl hS (AgreeR.refl _) (t_sat (fun _ h => h) (hK () trivial))
        · -- 46
         rintro _ S hF hS D hp K hK
         try dsimp only at hF ⊢
         have s44 := hp 44 rfl
         refine d_need (small := [(13, (.slice bs7 ((dueL ks ((nw : Nat) : Int)).length) cp8)), (141, (.bool false))]) ⟨look_b rfl rfl, look_row rfl 44 rfl s44, trivial⟩ ?_
         refine t_guard rfl rfl ?_
         refine tp rfl (lv_move rfl) ?_
         exact d_closes ⟨look_b rfl rfl, look_row rfl 44 rfl s44, trivial⟩ 46 rfl rfl rfl hS (AgreeR.refl _) (t_sat (fun _ h => h) (hK () trivial))
        · -- 47
         rintro _ S hF hS D hp K hK
         try dsimp only at hF ⊢
         have s44 := hp 44 rfl
         refine d_need (small := [(14, (.int .i64 ((i2 : Nat) : Int))), (141, (.bool false))]) ⟨look_b rfl rfl, look_row rfl 44 rfl s44, trivial⟩ ?_
         refine t_guard rfl rfl ?_
         refine tp rfl (lv_move rfl) ?_
         exact d_closes ⟨look_b rfl rfl, look_row rfl 44 rfl s44, trivial⟩ 47 rfl rfl rfl hS (AgreeR.refl _) (t_sat (fun _ h => h) (hK () trivial))
        · -- 48
         rintro _ S hF hS D hp K hK
         try dsimp only at hF ⊢
         have s44 := hp 44 rfl
         have s47 := hp 47 rfl
         refine d_need (small := [(141, (.bool false)), (144, (.int .i64 ((i2 : Nat) : Int)))]) ⟨look_row rfl 44 rfl s44, look_row rfl 47 rfl s47, trivial⟩ ?_
         refine t_guard rfl rfl ?_
         refine tp rfl (lv_sub (c := ((i2 - 1 : Nat) : Int)) rfl rfl ((wr_i64 (by omega) (by omega)).trans (by omega))) ?_
         exact d_closes ⟨look_row rfl 44 rfl s44, look_row rfl 47 rfl s47, trivial⟩ 48 rfl rfl rfl hS (AgreeR.refl _) (t_sat (fun _ h => h) (hK () trivial))
        · -- 49
         rintro _ S hF hS D hp K hK
         try dsimp only at hF ⊢
         have s44 := hp 44 rfl
         have s46 := hp 46 rfl
         have s48 := hp 48 rfl
         refine d_need (small := [(141, (.bool false)), (143, (.slice bs7 ((dueL ks ((nw : Nat) : Int)).length) cp8)), (145, (.int .i64 ((i2 - 1 : Nat) : Int)))]) ⟨look_row rfl 44 rfl s44, look_row rfl 46 rfl s46, look_row rfl 48 rfl s48, trivial⟩ ?_
         refine t_guard rfl rfl ?_
         refine tp rfl (lv_indexAddr (k' := i2 - 1) Try.underlying30 Try.sizeOf3 rfl rfl hok9 (by omega) (by omega) (by omega)) ?_
         exact d_closes ⟨look_row rfl 44 rfl s44, look_row rfl 46 rfl s46, look_row rfl 48 rfl s48, trivial⟩ 49 rfl rfl rfl hS (AgreeR.refl _) (t_sat (fun _ h => h) (hK () trivial))
        · -- 50
         rintro _ S hF hS D hp K hK
         try dsimp only at hF ⊢
         have s44 := hp 44 rfl
         have s49 := hp 49 rfl
         refine d_need (small := [(141, (.bool false)), (146, (.pointer (some (ad bs7 (i2 - 1)))))]) ⟨look_row rfl 44 rfl s44, look_row rfl 49 rfl s49, trivial⟩ ?_
         refine t_guard rfl rfl ?_
         refine tp rfl (lv_load Try.isAgg3 rfl (gives_as (v := .int .i64 ((x0 : Nat) : Int)) (by rw [hx0]) (gives_sl (.head _) (ints_get (by omega))))) ?_
         exact d_closes ⟨look_row rfl 44 rfl s44, look_row rfl 49 rfl s49, trivial⟩ 50 rfl rfl rfl hS (AgreeR.refl _) (t_sat (fun _ h => h) (hK () trivial))
        · -- 51
         rintro _ S hF hS D hp K hK
         try dsimp only at hF ⊢
         have s44 := hp 44 rfl
         have s45 := hp 45 rfl
         have s50 := hp 50 rfl
         refine d_need (small := [(141, (.bool false)), (142, (.slice btb times.length ctb)), (147, (.int .i64 ((x0 : Nat) : Int)))]) ⟨look_row rfl 44 rfl s44, look_row rfl 45 rfl s45, look_row rfl 50 rfl s50, trivial⟩ ?_
         refine t_guard rfl rfl ?_
         refine tp rfl (lv_indexAddr (k' := x0) Try.underlying22 Try.sizeOf5 rfl rfl oktb (by omega) (by omega) (by omega)) ?_
         exact d_closes ⟨look_row rfl 44 rfl s44, look_row rfl 45 rfl s45, look_row rfl 50 rfl s50, trivial⟩ 51 rfl rfl rfl hS (AgreeR.refl _) (t_sat (fun _ h => h) (hK () trivial))
        · -- 52
         rintro _ S hF hS D hp K hK
         try dsimp only at hF ⊢
         have s44 := hp 44 rfl
         have s51 := hp 51 rfl
         refine d_need (small := [(141, (.bool false)), (148, (.pointer (some (ad btb x0))))]) ⟨look_row rfl 44 rfl s44, look_row rfl 51 rfl s51, trivial⟩ ?_
         refine t_guard rfl rfl ?_
         refine tp rfl (lv_load Try.isAgg5 rfl (Rd.gives (Rd.cons (Rd.cons (Rd.cons htb))) (ints_get (by omega)))) ?_
         exact d_closes ⟨look_row rfl 44 rfl s44, look_row rfl 51 rfl s51, trivial⟩ 52 rfl rfl rfl hS (AgreeR.refl _) (t_sat (fun _ h => h) (hK () trivial))
        · -- 53
         rintro _ S hF hS D hp K hK
         try dsimp only at hF ⊢
         have s44 := hp 44 rfl
         have s52 := hp 52 rfl
         refine d_need (small := [(141, (.bool false)), (149, (.int .u8 ((times).getD x0 0)))]) ⟨look_row rfl 44 rfl s44, look_row rfl 52 rfl s52, trivial⟩ ?_
         refine t_guard rfl rfl ?_
         refine tp rfl (lv_convert (c := (times).getD x0 0) Try.underlying5 Try.underlying3 rfl (wr_i64 (by omega) (by omega))) ?_
         exact d_closes ⟨look_row rfl 44 rfl s44, look_row rfl 52 rfl s52, trivial⟩ 53 rfl rfl rfl hS (AgreeR.refl _) (t_sat (fun _ h => h) (hK () trivial))
        · -- 54
         rintro _ S hF hS D hp K hK
         try dsimp only at hF ⊢
         have s44 := hp 44 rfl
         have s53 := hp 53 rfl
         refine d_need (small := [(141, (.bool false)), (150, (.int .i64 ((times).getD x0 0)))]) ⟨look_row rfl 44 rfl s44, look_row rfl 53 rfl s53, trivial⟩ ?_
         refine t_guard rfl rfl ?_
         refine tp rfl (lv_rem (c := ((tmL times).getD x0 0)) rfl rfl (by omega) ((Int.tmod_eq_emod_of_nonneg (by omega)).trans htx0.symm)) ?_
         exact d_closes ⟨look_row rfl 44 rfl s44, look_row rfl 53 rfl s53, trivial⟩ 54 rfl rfl rfl hS (AgreeR.refl _) (t_sat (fun _ h => h) (hK () trivial))
        · -- 55
         rintro _ S hF hS D hp K hK
         try dsimp only at hF ⊢
         have s44 := hp 44 rfl
         refine d_need (small := [(15, (.int .i64 ((tmL times).getD x1 0))), (141, (.bool false))]) ⟨look_b rfl rfl, look_row rfl 44 rfl s44, trivial⟩ ?_
         refine t_guard rfl rfl ?_
         refine tp rfl (lv_move rfl) ?_
         exact d_closes ⟨look_b rfl rfl, look_row rfl 44 rfl s44, trivial⟩ 55 rfl rfl rfl hS (AgreeR.refl _) (t_sat (fun _ h => h) (hK () trivial))
        · -- 56
         rintro _ S hF hS D hp K hK
         try dsimp only at hF ⊢
         have s44 := hp 44 rfl
         have s54 := hp 54 rfl
         have s55 := hp 55 rfl
         refine d_need (small := [(141, (.bool false)), (151, (.int .i64 ((tmL times).getD x0 0))), (152, (.int .i64 ((tmL times).getD x1 0)))]) ⟨look_row rfl 44 rfl s44, look_row rfl 54 rfl s54, look_row rfl 55 rfl s55, trivial⟩ ?_
         refine t_guard rfl rfl ?_
         refine tp rfl (lv_eql rfl rfl (beq_eq_false_iff_ne.2 h16)) ?_
         exact d_closes ⟨look_row rfl 44 rfl s44, look_row rfl 54 rfl s54, look_row rfl 55 rfl s55, trivial⟩ 56 rfl rfl rfl hS (AgreeR.refl _) (t_sat (fun _ h => h) (hK () trivial))
        · -- 57
         rintro _ S hF hS D hp K hK
         try dsimp only at hF ⊢
         have s44 := hp 44 rfl
         have s56 := hp 56 rfl
         refine d_need (small := [(141, (.bool false)), (153, (.bool false))]) ⟨look_row rfl 44 rfl s44, look_row rfl 56 rfl s56, trivial⟩ ?_
         refine t_guard rfl rfl ?_
         refine tp rfl (lv_move rfl) ?_
         exact d_closes ⟨look_row rfl 44 rfl s44, look_row rfl 56 rfl s56, trivial⟩ 57 rfl rfl rfl hS (AgreeR.refl _) (t_sat (fun _ h => h) (hK () trivial))
        · -- 58
         rintro _ S hF hS D hp K hK
         try dsimp only at hF ⊢
         have s57 := hp 57 rfl
         refine d_need (small := [(13, (.slice bs7 ((dueL ks ((nw : Nat) : Int)).length) cp8)), (154, (.bool false))]) ⟨look_b rfl rfl, look_row rfl 57 rfl s57, trivial⟩ ?_
         refine t_skip rfl rfl rfl ?_
         exact d_closes ⟨look_b rfl rfl, look_row rfl 57 rfl s57, trivial⟩ 58 rfl rfl rfl hS (AgreeR.refl _) (t_sat (fun _ h => h) (hK () trivial))
        · -- 59
         rintro _ S hF hS D hp K hK
         try dsimp only at hF ⊢
         have s57 := hp 57 rfl
         refine d_need (small := [(14, (.int .i64 ((i2 : Nat) : Int))), (154, (.bool false))]) ⟨look_b rfl rfl, look_row rfl 57 rfl s57, trivial⟩ ?_
         refine t_skip rfl rfl rfl ?_
         exact d_closes ⟨look_b rfl rfl, look_row rfl 57 rfl s57, trivial⟩ 59 rfl rfl rfl hS (AgreeR.refl _) (t_sat (fun _ h => h) (hK () trivial))
        · -- 60
         rintro _ S hF hS D hp K hK
         try dsimp only at hF ⊢
         have s57 := hp 57 rfl
         have s59 := hp 59 rfl
         refine d_need (small := [(154, (.bool false)), (156, undef)]) ⟨look_row rfl 57 rfl s57, look_row rfl 59 rfl s59, trivial⟩ ?_
         refine t_skip rfl rfl rfl ?_
         exact d_closes ⟨look_row rfl 57 rfl s57, look_row rfl 59 rfl s59, trivial⟩ 60 rfl rfl rfl hS (AgreeR.refl _) (t_sat (fun _ h => h) (hK () trivial))
        · -- 61
         rintro _ S hF hS D hp K hK
         try dsimp only at hF ⊢
         have s57 := hp 57 rfl
         have s58 := hp 58 rfl
         have s60 := hp 60 rfl
         refine d_need (small := [(154, (.bool false)), (155, undef), (157, undef)]) ⟨look_row rfl 57 rfl s57, look_row rfl 58 rfl s58, look_row rfl 60 rfl s60, trivial⟩ ?_
         refine t_skip rfl rfl rfl ?_
         exact d_closes ⟨look_row rfl 57 rfl s57, look_row rfl 58 rfl s58, look_row rfl 60 rfl s60, trivial⟩ 61 rfl rfl rfl hS (AgreeR.refl _) (t_sat (fun _ h => h) (hK () trivial))
        · -- 62
         rintro _ S hF hS D hp K hK
         try dsimp only at hF ⊢
         have s57 := hp 57 rfl
         have s61 := hp 61 rfl
         refine d_need (small := [(154, (.bool false)), (158, undef)]) ⟨look_row rfl 57 rfl s57, look_row rfl 61 rfl s61, trivial⟩ ?_
         refine t_skip rfl rfl rfl ?_
         exact d_closes ⟨look_row rfl 57 rfl s57, look_row rfl 61 rfl s61, trivial⟩ 62 rfl rfl rfl hS (AgreeR.refl _) (t_sat (fun _ h => h) (hK () trivial))
        · -- 63
         rintro _ S hF hS D hp K hK
         try dsimp only at hF ⊢
         have s57 := hp 57 rfl
         refine d_need (small := [(13, (.slice bs7 ((dueL ks ((nw : Nat) : Int)).length) cp8)), (154, (.bool false))]) ⟨look_b rfl rfl, look_row rfl 57 rfl s57, trivial⟩ ?_
         refine t_skip rfl rfl rfl ?_
         exact d_closes ⟨look_b rfl rfl, look_row rfl 57 rfl s57, trivial⟩ 63 rfl rfl rfl hS (AgreeR.refl _) (t_sat (fun _ h => h) (hK () trivial))
        · -- 64
         rintro _ S hF hS D hp K hK
         try dsimp only at hF ⊢
         have s57 := hp 57 rfl
         refine d_need (small := [(14, (.int .i64 ((i2 : Nat) : Int))), (154, (.bool false))]) ⟨look_b rfl rfl, look_row rfl 57 rfl s57, trivial⟩ ?_
         refine t_skip rfl rfl rfl ?_
         exact d_closes ⟨look_b rfl rfl, look_row rfl 57 rfl s57, trivial⟩ 64 rfl rfl rfl hS (AgreeR.refl _) (t_sat (fun _ h => h) (hK () trivial))
        · -- 65
         rintro _ S hF hS D hp K hK
         try dsimp only at hF ⊢
         have s57 := hp 57 rfl
         have s63 := hp 63 rfl
         have s64 := hp 64 rfl
         refine d_need (small := [(154, (.bool false)), (160, undef), (161, undef)]) ⟨look_row rfl 57 rfl s57, look_row rfl 63 rfl s63, look_row rfl 64 rfl s64, trivial⟩ ?_
         refine t_skip rfl rfl rfl ?_
         exact d_closes ⟨look_row rfl 57 rfl s57, look_row rfl 63 rfl s63, look_row rfl 64 rfl s64, trivial⟩ 65 rfl rfl rfl hS (AgreeR.refl _) (t_sat (fun _ h => h) (hK () trivial))
        · -- 66
         rintro _ S hF hS D hp K hK
         try dsimp only at hF ⊢
         have s57 := hp 57 rfl
         have s65 := hp 65 rfl
         refine d_need (small := [(154, (.bool false)), (162, undef)]) ⟨look_row rfl 57 rfl s57, look_row rfl 65 rfl s65, trivial⟩ ?_
         refine t_skip rfl rfl rfl ?_
         exact d_closes ⟨look_row rfl 57 rfl s57, look_row rfl 65 rfl s65, trivial⟩ 66 rfl rfl rfl hS (AgreeR.refl _) (t_sat (fun _ h => h) (hK () trivial))
        · -- 67
         rintro _ S hF hS D hp K hK
         try dsimp only at hF ⊢
         have s57 := hp 57 rfl
         have s62 := hp 62 rfl
         have s66 := hp 66 rfl
         refine d_need (small := [(154, (.bool false)), (159, undef), (163, undef)]) ⟨look_row rfl 57 rfl s57, look_row rfl 62 rfl s62, look_row rfl 66 rfl s66, trivial⟩ ?_
         refine t_skip rfl rfl rfl ?_
         exact d_closes ⟨look_row rfl 57 rfl s57, look_row rfl 62 rfl s62, look_row rfl 66 rfl s66, trivial⟩ 67 rfl rfl rfl hS (AgreeR.refl _) (t_sat (fun _ h => h) (hK () trivial))
        · -- 68
         rintro _ S hF hS D hp K hK
         try dsimp only at hF ⊢
         have s44 := hp 44 rfl
         have s57 := hp 57 rfl
         have s67 := hp 67 rfl
         refine d_need (small := [(141, (.bool false)), (154, (.bool false)), (164, undef)]) ⟨look_row rfl 44 rfl s44, look_row rfl 57 rfl s57, look_row rfl 67 rfl s67, trivial⟩ ?_
         refine t_guard rfl rfl ?_
         refine tp rfl (lv_pick_f rfl rfl) ?_
         exact d_closes ⟨look_row rfl 44 rfl s44, look_row rfl 57 rfl s57, look_row rfl 67 rfl s67, trivial⟩ 68 rfl rfl rfl hS (AgreeR.refl _) (t_sat (fun _ h => h) (hK () trivial))
        · -- 69
         rintro _ S hF hS D hp K hK
         try dsimp only at hF ⊢
         have s31 := hp 31 rfl
         have s44 := hp 44 rfl
         have s68 := hp 68 rfl
         refine d_need (small := [(128, (.bool true)), (141, (.bool false)), (165, (.bool false))]) ⟨look_row rfl 31 rfl s31, look_row rfl 44 rfl s44, look_row rfl 68 rfl s68, trivial⟩ ?_
         refine t_guard rfl rfl ?_
         refine tp rfl (lv_pick_f rfl rfl) ?_
         exact d_closes ⟨look_row rfl 31 rfl s31, look_row rfl 44 rfl s44, look_row rfl 68 rfl s68, trivial⟩ 69 rfl rfl rfl hS (AgreeR.refl _) (t_sat (fun _ h => h) (hK () trivial))
        · -- 70
         rintro _ S hF hS D hp K hK
         try dsimp only at hF ⊢
         have s28 := hp 28 rfl
         have s31 := hp 31 rfl
         have s69 := hp 69 rfl
         refine d_need (small := [(125, (.bool false)), (128, (.bool true)), (166, (.bool false))]) ⟨look_row rfl 28 rfl s28, look_row rfl 31 rfl s31, look_row rfl 69 rfl s69, trivial⟩ ?_
         refine t_guard rfl rfl ?_
         refine tp rfl (lv_pick_t rfl rfl) ?_
         exact d_closes ⟨look_row rfl 28 rfl s28, look_row rfl 31 rfl s31, look_row rfl 69 rfl s69, trivial⟩ 70 rfl rfl rfl hS (AgreeR.refl _) (t_sat (fun _ h => h) (hK () trivial))
        · -- 71
         rintro _ S hF hS D hp K hK
         try dsimp only at hF ⊢
         have s28 := hp 28 rfl
         have s70 := hp 70 rfl
         refine d_need (small := [(125, (.bool false)), (167, (.bool false))]) ⟨look_row rfl 28 rfl s28, look_row rfl 70 rfl s70, trivial⟩ ?_
         refine tp rfl (lv_pick_f rfl rfl) ?_
         exact d_closes ⟨look_row rfl 28 rfl s28, look_row rfl 70 rfl s70, trivial⟩ 71 rfl rfl rfl hS (AgreeR.refl _) (t_sat (fun _ h => h) (hK () trivial))
       · -- behind
        rintro _ hF
        try dsimp only at hF ⊢
        refine t_weak (E' := [(0, (.slice btb times.length ctb)), (1, (.slice bsb stop.length csb)), (2, (.int .i64 ((s : Nat) : Int))), (7, (.bool true)), (8, (.int .i64 ((n : Nat) : Int))), (9, (.pointer (some ⟨p1, 0, none⟩))), (10, (.int .i64 lf)), (11, (.int .i64 ((i : Nat) : Int))), (12, (.int .i64 ((nw : Nat) : Int))), (13, (.slice bs7 ((dueL ks ((nw : Nat) : Int)).length) cp8)), (14, (.int .i64 ((i2 : Nat) : Int))), (15, (.int .i64 ((tmL times).getD x1 0))), (27, (.bool false)), (30, (.bool false)), (75, (.bool true)), (85, (.bool true)), (168, (.bool false))]) ⟨rfl, rfl, rfl, rfl, rfl, rfl, rfl, rfl, rfl, rfl, rfl, rfl, rfl, rfl, rfl, rfl, rfl, trivial⟩ ?_
        refine q_then_n (hK28 _ _ ?_)
        refine c_false rfl ?_
        refine c_skip ?_
        refine q_in_n ?_
        refine q_then_n (hK26 _ _ ?_)
        refine c_region ?_
        refine tp rfl (lv_move rfl) ?_
        refine tp rfl (lv_add (c := ((i2 + 1 : Nat) : Int)) rfl rfl (wr_i64_succ (by omega))) ?_
        refine tp rfl (lv_assign rfl) ?_
        refine t_done ?_
        refine q_then_n ?_
        exact t_weak (by exact ⟨rfl, rfl, rfl, rfl, rfl, rfl, rfl, rfl, rfl, rfl, rfl, rfl, rfl, rfl, trivial⟩) ((hK23 (i2 + 1) (by omega) (by omega)))
     · -- no
      refine c_draw (γ := Unit) (n := 72) Try.mixed rfl rfl (fun _ S => True) (fun _ => [(0, 97, (.int .i64 ((tmL times).getD x1 0))), (1, 98, (.int .i64 ((nw : Nat) : Int))), (2, 99, (.bool false)), (3, 100, (.bool false)), (4, 101, (.int .i64 ((tmL times).getD x1 0))), (5, 102, (.int .i64 ((nw : Nat) : Int))), (6, 103, (.int .i64 ((s : Nat) : Int))), (7, 104, (.int .i64 (((nw : Nat) : Int) - ((s : Nat) : Int)))), (8, 105, (.bool false)), (9, 106, (.bool false)), (10, 107, (.bool false)), (11, 108, (.slice bs7 ((dueL ks ((nw : Nat) : Int)).length) cp8)), (12, 109, (.int .i64 ((i2 : Nat) : Int))), (13, 110, (.pointer (some (ad bs7 i2)))), (14, 111, (.int .i64 ((x1 : Nat) : Int))), (15, 112, (.slice bsb stop.length csb)), (16, 113, (.int .i64 ((stop.length : Nat) : Int))), (17, 114, (.bool false)), (18, 115, (.bool false)), (19, 116, undef), (20, 117, undef), (21, 118, undef), (22, 119, undef), (23, 120, undef), (24, 121, undef), (25, 122, undef), (26, 123, (.bool false)), (27, 124, (.bool false)), (28, 125, (.bool false)), (29, 126, (.int .i64 ((i2 : Nat) : Int))), (30, 127, (.bool false)), (31, 128, (.bool false)), (32, 129, undef), (33, 130, undef), (34, 131, undef), (35, 132, undef), (36, 133, undef), (37, 134, undef), (38, 135, undef), (39, 136, undef), (40, 137, undef), (41, 138, undef), (42, 139, undef), (43, 140, undef), (44, 141, undef), (45, 142, undef), (46, 143, undef), (47, 144, undef), (48, 145, undef), (49, 146, undef), (50, 147, undef), (51, 148, undef), (52, 149, undef), (53, 150, undef), (54, 151, undef), (55, 152, undef), (56, 153, undef), (57, 154, undef), (58, 155, undef), (59, 156, undef), (60, 157, undef), (61, 158, undef), (62, 159, undef), (63, 160, undef), (64, 161, undef), (65, 162, undef), (66, 163, undef), (67, 164, undef), (68, 165, undef), (69, 166, undef), (70, 167, (.bool false)), (71, 168, (.bool false))]) (fun _ S => (SlV 3 1 (.slice bs7 ((dueL ks ((nw : Nat) : Int)).length) cp8) ((dueL ks ((nw : Nat) : Int)).length) (ints .i64 (dueL ks ((nw : Nat) : Int)))) :: (Blk p1 [(.pointer (some ⟨q2, 0, none⟩))] 37) :: (HeapO q2 n (duR ks ((nw : Nat) : Int))) :: R) (()) trivial (fun _ h => h) (fun _ _ h => h) ?_ ?_
      · -- steps
       refine ⟨?_, ?_, ?_, ?_, ?_, ?_, ?_, ?_, ?_, ?_, ?_, ?_, ?_, ?_, ?_, ?_, ?_, ?_, ?_, ?_, ?_, ?_, ?_, ?_, ?_, ?_, ?_, ?_, ?_, ?_, ?_, ?_, ?_, ?_, ?_, ?_, ?_, ?_, ?_, ?_, ?_, ?_, ?_, ?_, ?_, ?_, ?_, ?_, ?_, ?_, ?_, ?_, ?_, ?_, ?_, ?_, ?_, ?_, ?_, ?_, ?_, ?_, ?_, ?_, ?_, ?_, ?_, ?_, ?_, ?_, ?_, ?_, trivial⟩
       · -- 0
        rintro _ S hF hS D hp K hK
        try dsimp only at hF ⊢
        refine d_need (small := [(15, (.int .i64 ((tmL times).getD x1 0)))]) ⟨look_b rfl rfl, trivial⟩ ?_
        refine tp rfl (lv_move rfl) ?_
        exact d_closes ⟨look_b rfl rfl, trivial⟩ 0 rfl rfl rfl hS (AgreeR.refl _) (t_sat (fun _ h => h) (hK () trivial))
       · -- 1
        rintro _ S hF hS D hp K hK
        try dsimp only at hF ⊢
        refine d_need (small := [(12, (.int .i64 ((nw : Nat) : Int)))]) ⟨look_b rfl rfl, trivial⟩ ?_
        refine tp rfl (lv_move rfl) ?_
        exact d_closes ⟨look_b rfl rfl, trivial⟩ 1 rfl rfl rfl hS (AgreeR.refl _) (t_sat (fun _ h => h) (hK () trivial))
       · -- 2
        rintro _ S hF hS D hp K hK
        try dsimp only at hF ⊢
        have s0 := hp 0 rfl
        have s1 := hp 1 rfl
        refine d_need (small := [(97, (.int .i64 ((tmL times).getD x1 0))), (98, (.int .i64 ((nw : Nat) : Int)))]) ⟨look_row rfl 0 rfl s0, look_row rfl 1 rfl s1, trivial⟩ ?_
        refine tp rfl (lv_gtr rfl rfl (decide_eq_false (by omega))) ?_
        exact d_closes ⟨look_row rfl 0 rfl s0, look_row rfl 1 rfl s1, trivial⟩ 2 rfl rfl rfl hS (AgreeR.refl _) (t_sat (fun _ h => h) (hK () trivial))
       · -- 3
        rintro _ S hF hS D hp K hK
        try dsimp only at hF ⊢
        have s2 := hp 2 rfl
        refine d_need (small := [(99, (.bool false))]) ⟨look_row rfl 2 rfl s2, trivial⟩ ?_
        refine tp rfl (lv_move rfl) ?_
        exact d_closes ⟨look_row rfl 2 rfl s2, trivial⟩ 3 rfl rfl rfl hS (AgreeR.refl _) (t_sat (fun _ h => h) (hK () trivial))
       · -- 4
        rintro _ S hF hS D hp K hK
        try dsimp only at hF ⊢
        have s3 := hp 3 rfl
        refine d_need (small := [(15, (.int .i64 ((tmL times).getD x1 0))), (100, (.bool false))]) ⟨look_b rfl rfl, look_row rfl 3 rfl s3, trivial⟩ ?_
        refine t_guard rfl rfl ?_
        refine tp rfl (lv_move rfl) ?_
        exact d_closes ⟨look_b rfl rfl, look_row rfl 3 rfl s3, trivial⟩ 4 rfl rfl rfl hS (AgreeR.refl _) (t_sat (fun _ h => h) (hK () trivial))
       · -- 5
        rintro _ S hF hS D hp K hK
        try dsimp only at hF ⊢
        have s3 := hp 3 rfl
        refine d_need (small := [(12, (.int .i64 ((nw : Nat) : Int))), (100, (.bool false))]) ⟨look_b rfl rfl, look_row rfl 3 rfl s3, trivial⟩ ?_
        refine t_guard rfl rfl ?_
        refine tp rfl (lv_move rfl) ?_
        exact d_closes ⟨look_b rfl rfl, look_row rfl 3 rfl s3, trivial⟩ 5 rfl rfl rfl hS (AgreeR.refl _) (t_sat (fun _ h => h) (hK () trivial))
       · -- 6
        rintro _ S hF hS D hp K hK
        try dsimp only at hF ⊢
        have s3 := hp 3 rfl
        refine d_need (small := [(2, (.int .i64 ((s : Nat) : Int))), (100, (.bool false))]) ⟨look_b rfl rfl, look_row rfl 3 rfl s3, trivial⟩ ?_
        refine t_guard rfl rfl ?_
        refine tp rfl (lv_move rfl) ?_
        exact d_closes ⟨look_b rfl rfl, look_row rfl 3 rfl s3, trivial⟩ 6 rfl rfl rfl hS (AgreeR.refl _) (t_sat (fun _ h => h) (hK () trivial))
       · -- 7
        rintro _ S hF hS D hp K hK
        try dsimp only at hF ⊢
        have s3 := hp 3 rfl
        have s5 := hp 5 rfl
        have s6 := hp 6 rfl
        refine d_need (small := [(100, (.bool false)), (102, (.int .i64 ((nw : Nat) : Int))), (103, (.int .i64 ((s : Nat) : Int)))]) ⟨look_row rfl 3 rfl s3, look_row rfl 5 rfl s5, look_row rfl 6 rfl s6, trivial⟩ ?_
        refine t_guard rfl rfl ?_
        refine tp rfl (lv_sub (c := ((nw : Nat) : Int) - ((s : Nat) : Int)) rfl rfl (wr_i64 (by omega) (by omega))) ?_
        exact d_closes ⟨look_row rfl 3 rfl s3, look_row rfl 5 rfl s5, look_row rfl 6 rfl s6, trivial⟩ 7 rfl rfl rfl hS (AgreeR.refl _) (t_sat (fun _ h => h) (hK () trivial))
       · -- 8
        rintro _ S hF hS D hp K hK
        try dsimp only at hF ⊢
        have s3 := hp 3 rfl
        have s4 := hp 4 rfl
        have s7 := hp 7 rfl
        refine d_need (small := [(100, (.bool false)), (101, (.int .i64 ((tmL times).getD x1 0))), (104, (.int .i64 (((nw : Nat) : Int) - ((s : Nat) : Int))))]) ⟨look_row rfl 3 rfl s3, look_row rfl 4 rfl s4, look_row rfl 7 rfl s7, trivial⟩ ?_
        refine t_guard rfl rfl ?_
        refine tp rfl (lv_leq rfl rfl (decide_eq_false (by omega))) ?_
        exact d_closes ⟨look_row rfl 3 rfl s3, look_row rfl 4 rfl s4, look_row rfl 7 rfl s7, trivial⟩ 8 rfl rfl rfl hS (AgreeR.refl _) (t_sat (fun _ h => h) (hK () trivial))
       · -- 9
        rintro _ S hF hS D hp K hK
        try dsimp only at hF ⊢
        have s3 := hp 3 rfl
        have s8 := hp 8 rfl
        refine d_need (small := [(100, (.bool false)), (105, (.bool false))]) ⟨look_row rfl 3 rfl s3, look_row rfl 8 rfl s8, trivial⟩ ?_
        refine tp rfl (lv_pick_f rfl rfl) ?_
        exact d_closes ⟨look_row rfl 3 rfl s3, look_row rfl 8 rfl s8, trivial⟩ 9 rfl rfl rfl hS (AgreeR.refl _) (t_sat (fun _ h => h) (hK () trivial))
       · -- 10
        rintro _ S hF hS D hp K hK
        try dsimp only at hF ⊢
        have s9 := hp 9 rfl
        refine d_need (small := [(106, (.bool false))]) ⟨look_row rfl 9 rfl s9, trivial⟩ ?_
        refine tp rfl (lv_move rfl) ?_
        exact d_closes ⟨look_row rfl 9 rfl s9, trivial⟩ 10 rfl rfl rfl hS (AgreeR.refl _) (t_sat (fun _ h => h) (hK () trivial))
       · -- 11
        rintro _ S hF hS D hp K hK
        try dsimp only at hF ⊢
        have s10 := hp 10 rfl
        refine d_need (small := [(13, (.slice bs7 ((dueL ks ((nw : Nat) : Int)).length) cp8)), (107, (.bool false))]) ⟨look_b rfl rfl, look_row rfl 10 rfl s10, trivial⟩ ?_
        refine t_guard rfl rfl ?_
        refine tp rfl (lv_move rfl) ?_
        exact d_closes ⟨look_b rfl rfl, look_row rfl 10 rfl s10, trivial⟩ 11 rfl rfl rfl hS (AgreeR.refl _) (t_sat (fun _ h => h) (hK () trivial))
       · -- 12
        rintro _ S hF hS D hp K hK
        try dsimp only at hF ⊢
        have s10 := hp 10 rfl
        refine d_need (small := [(14, (.int .i64 ((i2 : Nat) : Int))), (107, (.bool false))]) ⟨look_b rfl rfl, look_row rfl 10 rfl s10, trivial⟩ ?_
        refine t_guard rfl rfl ?_
        refine tp rfl (lv_move rfl) ?_
        exact d_closes ⟨look_b rfl rfl, look_row rfl 10 rfl s10, trivial⟩ 12 rfl rfl rfl hS (AgreeR.refl _) (t_sat (fun _ h => h) (hK () trivial))
       · -- 13
        rintro _ S hF hS D hp K hK
        try dsimp only at hF ⊢
        have s10 := hp 10 rfl
        have s11 := hp 11 rfl
        have s12 := hp 12 rfl
        refine d_need (small := [(107, (.bool false)), (108, (.slice bs7 ((dueL ks ((nw : Nat) : Int)).length) cp8)), (109, (.int .i64 ((i2 : Nat) : Int)))]) ⟨look_row rfl 10 rfl s10, look_row rfl 11 rfl s11, look_row rfl 12 rfl s12, trivial⟩ ?_
        refine t_guard rfl rfl ?_
        refine tp rfl (lv_indexAddr (k' := i2) Try.underlying30 Try.sizeOf3 rfl rfl hok9 (by omega) (by omega) (by omega)) ?_
        exact d_closes ⟨look_row rfl 10 rfl s10, look_row rfl 11 rfl s11, look_row rfl 12 rfl s12, trivial⟩ 13 rfl rfl rfl hS (AgreeR.refl _) (t_sat (fun _ h => h) (hK () trivial))
       · -- 14
        rintro _ S hF hS D hp K hK
        try dsimp only at hF ⊢
        have s10 := hp 10 rfl
        have s13 := hp 13 rfl
        refine d_need (small := [(107, (.bool false)), (110, (.pointer (some (ad bs7 i2))))]) ⟨look_row rfl 10 rfl s10, look_row rfl 13 rfl s13, trivial⟩ ?_
        refine t_guard rfl rfl ?_
        refine tp rfl (lv_load Try.isAgg3 rfl (gives_as (v := .int .i64 ((x1 : Nat) : Int)) (by rw [hx1]) (gives_sl (.head _) (ints_get (by omega))))) ?_
        exact d_closes ⟨look_row rfl 10 rfl s10, look_row rfl 13 rfl s13, trivial⟩ 14 rfl rfl rfl hS (AgreeR.refl _) (t_sat (fun _ h => h) (hK () trivial))
       · -- 15
        rintro _ S hF hS D hp K hK
        try dsimp only at hF ⊢
        have s10 := hp 10 rfl
        refine d_need (small := [(1, (.slice bsb stop.length csb)), (107, (.bool false))]) ⟨look_b rfl rfl, look_row rfl 10 rfl s10, trivial⟩ ?_
        refine t_guard rfl rfl ?_
        refine tp rfl (lv_move rfl) ?_
        exact d_closes ⟨look_b rfl rfl, look_row rfl 10 rfl s10, trivial⟩ 15 rfl rfl rfl hS (AgreeR.refl _) (t_sat (fun _ h => h) (hK () trivial))
       · -- 16
        rintro _ S hF hS D hp K hK
        try dsimp only at hF ⊢
        have s10 := hp 10 rfl
        have s15 := hp 15 rfl
        refine d_need (small := [(107, (.bool false)), (112, (.slice bsb stop.length csb))]) ⟨look_row rfl 10 rfl s10, look_row rfl 15 rfl s15, trivial⟩ ?_
        refine t_guard rfl rfl ?_
        refine tp rfl (lv_len Try.underlying23 rfl rfl) ?_
        exact d_closes ⟨look_row rfl 10 rfl s10, look_row rfl 15 rfl s15, trivial⟩ 16 rfl rfl rfl hS (AgreeR.refl _) (t_sat (fun _ h => h) (hK () trivial))
       · -- 17
        rintro _ S hF hS D hp K hK
        try dsimp only at hF ⊢
        have s10 := hp 10 rfl
        have s14 := hp 14 rfl
        have s16 := hp 16 rfl
        refine d_need (small := [(107, (.bool false)), (111, (.int .i64 ((x1 : Nat) : Int))), (113, (.int .i64 ((stop.length : Nat) : Int)))]) ⟨look_row rfl 10 rfl s10, look_row rfl 14 rfl s14, look_row rfl 16 rfl s16, trivial⟩ ?_
        refine t_guard rfl rfl ?_
        refine tp rfl (lv_lss rfl rfl (decide_eq_false h12)) ?_
        exact d_closes ⟨look_row rfl 10 rfl s10, look_row rfl 14 rfl s14, look_row rfl 16 rfl s16, trivial⟩ 17 rfl rfl rfl hS (AgreeR.refl _) (t_sat (fun _ h => h) (hK () trivial))
       · -- 18
        rintro _ S hF hS D hp K hK
        try dsimp only at hF ⊢
        have s10 := hp 10 rfl
        have s17 := hp 17 rfl
        refine d_need (small := [(107, (.bool false)), (114, (.bool false))]) ⟨look_row rfl 10 rfl s10, look_row rfl 17 rfl s17, trivial⟩ ?_
        refine t_guard rfl rfl ?_
        refine tp rfl (lv_move rfl) ?_
        exact d_closes ⟨look_row rfl 10 rfl s10, look_row rfl 17 rfl s17, trivial⟩ 18 rfl rfl rfl hS (AgreeR.refl _) (t_sat (fun _ h => h) (hK () trivial))
       · -- 19
        rintro _ S hF hS D hp K hK
        try dsimp only at hF ⊢
        have s18 := hp 18 rfl
        refine d_need (small := [(1, (.slice bsb stop.length csb)), (115, (.bool false))]) ⟨look_b rfl rfl, look_row rfl 18 rfl s18, trivial⟩ ?_
        refine t_skip rfl rfl rfl ?_
        exact d_closes ⟨look_b rfl rfl, look_row rfl 18 rfl s18, trivial⟩ 19 rfl rfl rfl hS (AgreeR.refl _) (t_sat (fun _ h => h) (hK () trivial))
       · -- 20
        rintro _ S hF hS D hp K hK
        try dsimp only at hF ⊢
        have s18 := hp 18 rfl
        refine d_need (small := [(13, (.slice bs7 ((dueL ks ((nw : Nat) : Int)).length) cp8)), (115, (.bool false))]) ⟨look_b rfl rfl, look_row rfl 18 rfl s18, trivial⟩ ?_
        refine t_skip rfl rfl rfl ?_
        exact d_closes ⟨look_b rfl rfl, look_row rfl 18 rfl s18, trivial⟩ 20 rfl rfl rfl hS (AgreeR.refl _) (t_sat (fun _ h => h) (hK () trivial))
       · -- 21
        rintro _ S hF hS D hp K hK
        try dsimp only at hF ⊢
        have s18 := hp 18 rfl
        refine d_need (small := [(14, (.int .i64 ((i2 : Nat) : Int))), (115, (.bool false))]) ⟨look_b rfl rfl, look_row rfl 18 rfl s18, trivial⟩ ?_
        refine t_skip rfl rfl rfl ?_
        exact d_closes ⟨look_b rfl rfl, look_row rfl 18 rfl s18, trivial⟩ 21 rfl rfl rfl hS (AgreeR.refl _) (t_sat (fun _ h => h) (hK () trivial))
       · -- 22
        rintro _ S hF hS D hp K hK
        try dsimp only at hF ⊢
        have s18 := hp 18 rfl
        have s20 := hp 20 rfl
        have s21 := hp 21 rfl
        refine d_need (small := [(115, (.bool false)), (117, undef), (118, undef)]) ⟨look_row rfl 18 rfl s18, look_row rfl 20 rfl s20, look_row rfl 21 rfl s21, trivial⟩ ?_
        refine t_skip rfl rfl rfl ?_
        exact d_closes ⟨look_row rfl 18 rfl s18, look_row rfl 20 rfl s20, look_row rfl 21 rfl s21, trivial⟩ 22 rfl rfl rfl hS (AgreeR.refl _) (t_sat (fun _ h => h) (hK () trivial))
       · -- 23
        rintro _ S hF hS D hp K hK
        try dsimp only at hF ⊢
        have s18 := hp 18 rfl
        have s22 := hp 22 rfl
        refine d_need (small := [(115, (.bool false)), (119, undef)]) ⟨look_row rfl 18 rfl s18, look_row rfl 22 rfl s22, trivial⟩ ?_
        refine t_skip rfl rfl rfl ?_
        exact d_closes ⟨look_row rfl 18 rfl s18, look_row rfl 22 rfl s22, trivial⟩ 23 rfl rfl rfl hS (AgreeR.refl _) (t_sat (fun _ h => h) (hK () trivial))
       · -- 24
        rintro _ S hF hS D hp K hK
        try dsimp only at hF ⊢
        have s18 := hp 18 rfl
        have s19 := hp 19 rfl
        have s23 := hp 23 rfl
        refine d_need (small := [(115, (.bool false)), (116, undef), (120, undef)]) ⟨look_row rfl 18 rfl s18, look_row rfl 19 rfl s19, look_row rfl 23 rfl s23, trivial⟩ ?_
        refine t_skip rfl rfl rfl ?_
        exact d_closes ⟨look_row rfl 18 rfl s18, look_row rfl 19 rfl s19, look_row rfl 23 rfl s23, trivial⟩ 24 rfl rfl rfl hS (AgreeR.refl _) (t_sat (fun _ h => h) (hK () trivial))
       · -- 25
        rintro _ S hF hS D hp K hK
        try dsimp only at hF ⊢
        have s18 := hp 18 rfl
        have s24 := hp 24 rfl
        refine d_need (small := [(115, (.bool false)), (121, undef)]) ⟨look_row rfl 18 rfl s18, look_row rfl 24 rfl s24, trivial⟩ ?_
        refine t_skip rfl rfl rfl ?_
        exact d_closes ⟨look_row rfl 18 rfl s18, look_row rfl 24 rfl s24, trivial⟩ 25 rfl rfl rfl hS (AgreeR.refl _) (t_sat (fun _ h => h) (hK () trivial))
       · -- 26
        rintro _ S hF hS D hp K hK
        try dsimp only at hF ⊢
        have s10 := hp 10 rfl
        have s18 := hp 18 rfl
        have s25 := hp 25 rfl
        refine d_need (small := [(107, (.bool false)), (115, (.bool false)), (122, undef)]) ⟨look_row rfl 10 rfl s10, look_row rfl 18 rfl s18, look_row rfl 25 rfl s25, trivial⟩ ?_
        refine t_guard rfl rfl ?_
        refine tp rfl (lv_pick_f rfl rfl) ?_
        exact d_closes ⟨look_row rfl 10 rfl s10, look_row rfl 18 rfl s18, look_row rfl 25 rfl s25, trivial⟩ 26 rfl rfl rfl hS (AgreeR.refl _) (t_sat (fun _ h => h) (hK () trivial))
       · -- 27
        rintro _ S hF hS D hp K hK
        try dsimp only at hF ⊢
        have s10 := hp 10 rfl
        have s26 := hp 26 rfl
        refine d_need (small := [(107, (.bool false)), (123, (.bool false))]) ⟨look_row rfl 10 rfl s10, look_row rfl 26 rfl s26, trivial⟩ ?_
        refine tp rfl (lv_pick_f rfl rfl) ?_
        exact d_closes ⟨look_row rfl 10 rfl s10, look_row rfl 26 rfl s26, trivial⟩ 27 rfl rfl rfl hS (AgreeR.refl _) (t_sat (fun _ h => h) (hK () trivial))
       · -- 28
        rintro _ S hF hS D hp K hK
        try dsimp only at hF ⊢
        have s27 := hp 27 rfl
        refine d_need (small := [(124, (.bool false))]) ⟨look_row rfl 27 rfl s27, trivial⟩ ?_
        refine tp rfl (lv_move rfl) ?_
        exact d_closes ⟨look_row rfl 27 rfl s27, trivial⟩ 28 rfl rfl rfl hS (AgreeR.refl _) (t_sat (fun _ h => h) (hK () trivial))
       · -- 29
        rintro _ S hF hS D hp K hK
        try dsimp only at hF ⊢
        have s28 := hp 28 rfl
        refine d_need (small := [(14, (.int .i64 ((i2 : Nat) : Int))), (125, (.bool false))]) ⟨look_b rfl rfl, look_row rfl 28 rfl s28, trivial⟩ ?_
        refine t_guard rfl rfl ?_
        refine tp rfl (lv_move rfl) ?_
        exact d_closes ⟨look_b rfl rfl, look_row rfl 28 rfl s28, trivial⟩ 29 rfl rfl rfl hS (AgreeR.refl _) (t_sat (fun _ h => h) (hK () trivial))
       · -- 30
        rintro _ S hF hS D hp K hK
        try dsimp only at hF ⊢
        have s28 := hp 28 rfl
        have s29 := hp 29 rfl
        refine d_need (small := [(125, (.bool false)), (126, (.int .i64 ((i2 : Nat) : Int)))]) ⟨look_row rfl 28 rfl s28, look_row rfl 29 rfl s29, trivial⟩ ?_
        refine t_guard rfl rfl ?_
        refine tp rfl (lv_gtr rfl rfl (decide_eq_false h15)) ?_
        exact d_closes ⟨look_row rfl 28 rfl s28, look_row rfl 29 rfl s29, trivial⟩ 30 rfl rfl rfl hS (AgreeR.refl _) (t_sat (fun _ h => h) (hK () trivial))
       · -- 31
        rintro _ S hF hS D hp K hK
        try dsimp only at hF ⊢
        have s28 := hp 28 rfl
        have s30 := hp 30 rfl
        refine d_need (small := [(125, (.bool false)), (127, (.bool false))]) ⟨look_row rfl 28 rfl s28, look_row rfl 30 rfl s30, trivial⟩ ?_
        refine t_guard rfl rfl ?_
        refine tp rfl (lv_move rfl) ?_
        exact d_closes ⟨look_row rfl 28 rfl s28, look_row rfl 30 rfl s30, trivial⟩ 31 rfl rfl rfl hS (AgreeR.refl _) (t_sat (fun _ h => h) (hK () trivial))
       · -- 32
        rintro _ S hF hS D hp K hK
        try dsimp only at hF ⊢
        have s31 := hp 31 rfl
        refine d_need (small := [(0, (.slice btb times.length ctb)), (128, (.bool false))]) ⟨look_b rfl rfl, look_row rfl 31 rfl s31, trivial⟩ ?_
        refine t_skip rfl rfl rfl ?_
        exact d_closes ⟨look_b rfl rfl, look_row rfl 31 rfl s31, trivial⟩ 32 rfl rfl rfl hS (AgreeR.refl _) (t_sat (fun _ h => h) (hK () trivial))
       · -- 33
        rintro _ S hF hS D hp K hK
        try dsimp only at hF ⊢
        have s31 := hp 31 rfl
        refine d_need (small := [(13, (.slice bs7 ((dueL ks ((nw : Nat) : Int)).length) cp8)), (128, (.bool false))]) ⟨look_b rfl rfl, look_row rfl 31 rfl s31, trivial⟩ ?_
        refine t_skip rfl rfl rfl ?_
        exact d_closes ⟨look_b rfl rfl, look_row rfl 31 rfl s31, trivial⟩ 33 rfl rfl rfl hS (AgreeR.refl _) (t_sat (fun _ h => h) (hK () trivial))
       · -- 34
        rintro _ S hF hS D hp K hK
        try dsimp only at hF ⊢
        have s31 := hp 31 rfl
        refine d_need (small := [(14, (.int .i64 ((i2 : Nat) : Int))), (128, (.bool false))]) ⟨look_b rfl rfl, look_row rfl 31 rfl s31, trivial⟩ ?_
        refine t_skip rfl rfl rfl ?_
        exact d_closes ⟨look_b rfl rfl, look_row rfl 31 rfl s31, trivial⟩ 34 rfl rfl rfl hS (AgreeR.refl _) (t_sat (fun _ h => h) (hK () trivial))
       · -- 35
        rintro _ S hF hS D hp K hK
        try dsimp only at hF ⊢
        have s31 := hp 31 rfl
        have s34 := hp 34 rfl
        refine d_need (small := [(128, (.bool false)), (131, undef)]) ⟨look_row rfl 31 rfl s31, look_row rfl 34 rfl s34, trivial⟩ ?_
        refine t_skip rfl rfl rfl ?_
        exact d_closes ⟨look_row rfl 31 rfl s31, look_row rfl 34 rfl s34, trivial⟩ 35 rfl rfl rfl hS (AgreeR.refl _) (t_sat (fun _ h => h) (hK () trivial))
       · -- 36
        rintro _ S hF hS D hp K hK
        try dsimp only at hF ⊢
        have s31 := hp 31 rfl
        have s33 := hp 33 rfl
        have s35 := hp 35 rfl
        refine d_need (small := [(128, (.bool false)), (130, undef), (132, undef)]) ⟨look_row rfl 31 rfl s31, look_row rfl 33 rfl s33, look_row rfl 35 rfl s35, trivial⟩ ?_
        refine t_skip rfl rfl rfl ?_
        exact d_closes ⟨look_row rfl 31 rfl s31, look_row rfl 33 rfl s33, look_row rfl 35 rfl s35, trivial⟩ 36 rfl rfl rfl hS (AgreeR.refl _) (t_sat (fun _ h => h) (hK () trivial))
       · -- 37
        rintro _ S hF hS D hp K hK
        try dsimp only at hF ⊢
        have s31 := hp 31 rfl
        have s36 := hp 36 rfl
        refine d_need (small := [(128, (.bool false)), (133, undef)]) ⟨look_row rfl 31 rfl s31, look_row rfl 36 rfl s36, trivial⟩ ?_
        refine t_skip rfl rfl rfl ?_
        exact d_closes ⟨look_row rfl 31 rfl s31, look_row rfl 36 rfl s36, trivial⟩ 37 rfl rfl rfl hS (AgreeR.refl _) (t_sat (fun _ h => h) (hK () trivial))
       · -- 38
        rintro _ S hF hS D hp K hK
        try dsimp only at hF ⊢
        have s31 := hp 31 rfl
        have s32 := hp 32 rfl
        have s37 := hp 37 rfl
        refine d_need (small := [(128, (.bool false)), (129, undef), (134, undef)]) ⟨look_row rfl 31 rfl s31, look_row rfl 32 rfl s32, look_row rfl 37 rfl s37, trivial⟩ ?_
        refine t_skip rfl rfl rfl ?_
        exact d_closes ⟨look_row rfl 31 rfl s31, look_row rfl 32 rfl s32, look_row rfl 37 rfl s37, trivial⟩ 38 rfl rfl rfl hS (AgreeR.refl _) (t_sat (fun _ h => h) (hK () trivial))
       · -- 39
        rintro _ S hF hS D hp K hK
        try dsimp only at hF ⊢
        have s31 := hp 31 rfl
        have s38 := hp 38 rfl
        refine d_need (small := [(128, (.bool false)), (135, undef)]) ⟨look_row rfl 31 rfl s31, look_row rfl 38 rfl s38, trivial⟩ ?_
        refine t_skip rfl rfl rfl ?_
        exact d_closes ⟨look_row rfl 31 rfl s31, look_row rfl 38 rfl s38, trivial⟩ 39 rfl rfl rfl hS (AgreeR.refl _) (t_sat (fun _ h => h) (hK () trivial))
       · -- 40
        rintro _ S hF hS D hp K hK
        try dsimp only at hF ⊢
        have s31 := hp 31 rfl
        have s39 := hp 39 rfl
        refine d_need (small := [(128, (.bool false)), (136, undef)]) ⟨look_row rfl 31 rfl s31, look_row rfl 39 rfl s39, trivial⟩ ?_
        refine t_skip rfl rfl rfl ?_
        exact d_closes ⟨look_row rfl 31 rfl s31, look_row rfl 39 rfl s39, trivial⟩ 40 rfl rfl rfl hS (AgreeR.refl _) (t_sat (fun _ h => h) (hK () trivial))
       · -- 41
        rintro _ S hF hS D hp K hK
        try dsimp only at hF ⊢
        have s31 := hp 31 rfl
        have s40 := hp 40 rfl
        refine d_need (small := [(128, (.bool false)), (137, undef)]) ⟨look_row rfl 31 rfl s31, look_row rfl 40 rfl s40, trivial⟩ ?_
        refine t_skip rfl rfl rfl ?_
        exact d_closes ⟨look_row rfl 31 rfl s31, look_row rfl 40 rfl s40, trivial⟩ 41 rfl rfl rfl hS (AgreeR.refl _) (t_sat (fun _ h => h) (hK () trivial))
       · -- 42
        rintro _ S hF hS D hp K hK
        try dsimp only at hF ⊢
        have s31 := hp 31 rfl
        refine d_need (small := [(15, (.int .i64 ((tmL times).getD x1 0))), (128, (.bool false))]) ⟨look_b rfl rfl, look_row rfl 31 rfl s31, trivial⟩ ?_
        refine t_skip rfl rfl rfl ?_
        exact d_closes ⟨look_b rfl rfl, look_row rfl 31 rfl s31, trivial⟩ 42 rfl rfl rfl hS (AgreeR.refl _) (t_sat (fun _ h => h) (hK () trivial))
       · -- 43
        rintro _ S hF hS D hp K hK
        try dsimp only at hF ⊢
        have s31 := hp 31 rfl
        have s41 := hp 41 rfl
        have s42 := hp 42 rfl
        refine d_need (small := [(128, (.bool false)), (138, undef), (139, undef)]) ⟨look_row rfl 31 rfl s31, look_row rfl 41 rfl s41, look_row rfl 42 rfl s42, trivial⟩ ?_
        refine t_skip rfl rfl rfl ?_
        exact d_closes ⟨look_row rfl 31 rfl s31, look_row rfl 41 rfl s41, look_row rfl 42 rfl s42, trivial⟩ 43 rfl rfl rfl hS (AgreeR.refl _) (t_sat (fun _ h => h) (hK () trivial))
       · -- 44
        rintro _ S hF hS D hp K hK
        try dsimp only at hF ⊢
        have s31 := hp 31 rfl
        have s43 := hp 43 rfl
        refine d_need (small := [(128, (.bool false)), (140, undef)]) ⟨look_row rfl 31 rfl s31, look_row rfl 43 rfl s43, trivial⟩ ?_
        refine t_skip rfl rfl rfl ?_
        exact d_closes ⟨look_row rfl 31 rfl s31, look_row rfl 43 rfl s43, trivial⟩ 44 rfl rfl rfl hS (AgreeR.refl _) (t_sat (fun _ h => h) (hK () trivial))
       · -- 45
        rintro _ S hF hS D hp K hK
        try dsimp only at hF ⊢
        have s44 := hp 44 rfl
        refine d_need (small := [(0, (.slice btb times.length ctb)), (141, undef)]) ⟨look_b rfl rfl, look_row rfl 44 rfl s44, trivial⟩ ?_
        refine t_skipu rfl rfl rfl ?_
        exact d_closes ⟨look_b rfl rfl, look_row rfl 44 rfl s44, trivial⟩ 45 rfl rfl rfl hS (AgreeR.refl _) (t_sat (fun _ h => h) (hK () trivial))
       · -- 46
        rintro _ S hF hS D hp K hK
        try dsimp only at hF ⊢
        have s44 := hp 44 rfl
        refine d_need (small := [(13, (.slice bs7 ((dueL ks ((nw : Nat) : Int)).length) cp8)), (141, undef)]) ⟨look_b rfl rfl, look_row rfl 44 rfl s44, trivial⟩ ?_
        refine t_skipu rfl rfl rfl ?_
        exact d_closes ⟨look_b rfl rfl, look_row rfl 44 rfl s44, trivial⟩ 46 rfl rfl rfl hS (AgreeR.refl _) (t_sat (fun _ h => h) (hK () trivial))
       · -- 47
        rintro _ S hF hS D hp K hK
        try dsimp only at hF ⊢
        have s44 := hp 44 rfl
        refine d_need (small := [(14, (.int .i64 ((i2 : Nat) : Int))), (141, undef)]) ⟨look_b rfl rfl, look_row rfl 44 rfl s44, trivial⟩ ?_
        refine t_skipu rfl rfl rfl ?_
        exact d_closes ⟨look_b rfl rfl, look_row rfl 44 rfl s44, trivial⟩ 47 rfl rfl rfl hS (AgreeR.refl _) (t_sat (fun _ h => h) (hK () trivial))
       · -- 48
        rintro _ S hF hS D hp K hK
        try dsimp only at hF ⊢
        have s44 := hp 44 rfl
        have s47 := hp 47 rfl
        refine d_need (small := [(141, undef), (144, undef)]) ⟨look_row rfl 44 rfl s44, look_row rfl 47 rfl s47, trivial⟩ ?_
        refine t_skipu rfl rfl rfl ?_
        exact d_closes ⟨look_row rfl 44 rfl s44, look_row rfl 47 rfl s47, trivial⟩ 48 rfl rfl rfl hS (AgreeR.refl _) (t_sat (fun _ h => h) (hK () trivial))
       · -- 49
        rintro _ S hF hS D hp K hK
        try dsimp only at hF ⊢
        have s44 := hp 44 rfl
        have s46 := hp 46 rfl
        have s48 := hp 48 rfl
        refine d_need (small := [(141, undef), (143, undef), (145, undef)]) ⟨look_row rfl 44 rfl s44, look_row rfl 46 rfl s46, look_row rfl 48 rfl s48, trivial⟩ ?_
        refine t_skipu rfl rfl rfl ?_
        exact d_closes ⟨look_row rfl 44 rfl s44, look_row rfl 46 rfl s46, look_row rfl 48 rfl s48, trivial⟩ 49 rfl rfl rfl hS (AgreeR.refl _) (t_sat (fun _ h => h) (hK () trivial))
       · -- 50
        rintro _ S hF hS D hp K hK
        try dsimp only at hF ⊢
        have s44 := hp 44 rfl
        have s49 := hp 49 rfl
        refine d_need (small := [(141, undef), (146, undef)]) ⟨look_row rfl 44 rfl s44, look_row rfl 49 rfl s49, trivial⟩ ?_
        refine t_skipu rfl rfl rfl ?_
        exact d_closes ⟨look_row rfl 44 rfl s44, look_row rfl 49 rfl s49, trivial⟩ 50 rfl rfl rfl hS (AgreeR.refl _) (t_sat (fun _ h => h) (hK () trivial))
       · -- 51
        rintro _ S hF hS D hp K hK
        try dsimp only at hF ⊢
        have s44 := hp 44 rfl
        have s45 := hp 45 rfl
        have s50 := hp 50 rfl
        refine d_need (small := [(141, undef), (142, undef), (147, undef)]) ⟨look_row rfl 44 rfl s44, look_row rfl 45 rfl s45, look_row rfl 50 rfl s50, trivial⟩ ?_
        refine t_skipu rfl rfl rfl ?_
        exact d_closes ⟨look_row rfl 44 rfl s44, look_row rfl 45 rfl s45, look_row rfl 50 rfl s50, trivial⟩ 51 rfl rfl rfl hS (AgreeR.refl _) (t_sat (fun _ h => h) (hK () trivial))
       · -- 52
        rintro _ S hF hS D hp K hK
        try dsimp only at hF ⊢
        have s44 := hp 44 rfl
        have s51 := hp 51 rfl
        refine d_need (small := [(141, undef), (148, undef)]) ⟨look_row rfl 44 rfl s44, look_row rfl 51 rfl s51, trivial⟩ ?_
        refine t_skipu rfl rfl rfl ?_
        exact d_closes ⟨look_row rfl 44 rfl s44, look_row rfl 51 rfl s51, trivial⟩ 52 rfl rfl rfl hS (AgreeR.refl _) (t_sat (fun _ h => h) (hK () trivial))
       · -- 53
        rintro _ S hF hS D hp K hK
        try dsimp only at hF ⊢
        have s44 := hp 44 rfl
        have s52 := hp 52 rfl
        refine d_need (small := [(141, undef), (149, undef)]) ⟨look_row rfl 44 rfl s44, look_row rfl 52 rfl s52, trivial⟩ ?_
        refine t_skipu rfl rfl rfl ?_
        exact d_closes ⟨look_row rfl 44 rfl s44, look_row rfl 52 rfl s52, trivial⟩ 53 rfl rfl rfl hS (AgreeR.refl _) (t_sat (fun _ h => h) (hK () trivial))
       · -- 54
        rintro _ S hF hS D hp K hK
        try dsimp only at hF ⊢
        have s44 := hp 44 rfl
        have s53 := hp 53 rfl
        refine d_need (small := [(141, undef), (150, undef)]) ⟨look_row rfl 44 rfl s44, look_row rfl 53 rfl s53, trivial⟩ ?_
        refine t_skipu rfl rfl rfl ?_
        exact d_closes ⟨look_row rfl 44 rfl s44, look_row rfl 53 rfl s53, trivial⟩ 54 rfl rfl rfl hS (AgreeR.refl _) (t_sat (fun _ h => h) (hK () trivial))
       · -- 55
        rintro _ S hF hS D hp K hK
        try dsimp only at hF ⊢
        have s44 := hp 44 rfl
        refine d_need (small := [(15, (.int .i64 ((tmL times).getD x1 0))), (141, undef)]) ⟨look_b rfl rfl, look_row rfl 44 rfl s44, trivial⟩ ?_
        refine t_skipu rfl rfl rfl ?_
        exact d_closes ⟨look_b rfl rfl, look_row rfl 44 rfl s44, trivial⟩ 55 rfl rfl rfl hS (AgreeR.refl _) (t_sat (fun _ h => h) (hK () trivial))
       · -- 56
        rintro _ S hF hS D hp K hK
        try dsimp only at hF ⊢
        have s44 := hp 44 rfl
        have s54 := hp 54 rfl
        have s55 := hp 55 rfl
        refine d_need (small := [(141, undef), (151, undef), (152, undef)]) ⟨look_row rfl 44 rfl s44, look_row rfl 54 rfl s54, look_row rfl 55 rfl s55, trivial⟩ ?_
        refine t_skipu rfl rfl rfl ?_
        exact d_closes ⟨look_row rfl 44 rfl s44, look_row rfl 54 rfl s54, look_row rfl 55 rfl s55, trivial⟩ 56 rfl rfl rfl hS (AgreeR.refl _) (t_sat (fun _ h => h) (hK () trivial))
       · -- 57
        rintro _ S hF hS D hp K hK
        try dsimp only at hF ⊢
        have s44 := hp 44 rfl
        have s56 := hp 56 rfl
        refine d_need (small := [(141, undef), (153, undef)]) ⟨look_row rfl 44 rfl s44, look_row rfl 56 rfl s56, trivial⟩ ?_
        refine t_skipu rfl rfl rfl ?_
        exact d_closes ⟨look_row rfl 44 rfl s44, look_row rfl 56 rfl s56, trivial⟩ 57 rfl rfl rfl hS (AgreeR.refl _) (t_sat (fun _ h => h) (hK () trivial))
       · -- 58
        rintro _ S hF hS D hp K hK
        try dsimp only at hF ⊢
        have s57 := hp 57 rfl
        refine d_need (small := [(13, (.slice bs7 ((dueL ks ((nw : Nat) : Int)).length) cp8)), (154, undef)]) ⟨look_b rfl rfl, look_row rfl 57 rfl s57, trivial⟩ ?_
        refine t_skipu rfl rfl rfl ?_
        exact d_closes ⟨look_b rfl rfl, look_row rfl 57 rfl s57, trivial⟩ 58 rfl rfl rfl hS (AgreeR.refl _) (t_sat (fun _ h => h) (hK () trivial))
       · -- 59
        rintro _ S hF hS D hp K hK
        try dsimp only at hF ⊢
        have s57 := hp 57 rfl
        refine d_need (small := [(14, (.int .i64 ((i2 : Nat) : Int))), (154, undef)]) ⟨look_b rfl rfl, look_row rfl 57 rfl s57, trivial⟩ ?_
        refine t_skipu rfl rfl rfl ?_
        exact d_closes ⟨look_b rfl rfl, look_row rfl 57 rfl s57, trivial⟩ 59 rfl rfl rfl hS (AgreeR.refl _) (t_sat (fun _ h => h) (hK () trivial))
       · -- 60
        rintro _ S hF hS D hp K hK
        try dsimp only at hF ⊢
        have s57 := hp 57 rfl
        have s59 := hp 59 rfl
        refine d_need (small := [(154, undef), (156, undef)]) ⟨look_row rfl 57 rfl s57, look_row rfl 59 rfl s59, trivial⟩ ?_
        refine t_skipu rfl rfl rfl ?_
        exact d_closes ⟨look_row rfl 57 rfl s57, look_row rfl 59 rfl s59, trivial⟩ 60 rfl rfl rfl hS (AgreeR.refl _) (t_sat (fun _ h => h) (hK () trivial))
       · -- 61
        rintro _ S hF hS D hp K hK
        try dsimp only at hF ⊢
        have s57 := hp 57 rfl
        have s58 := hp 58 rfl
        have s60 := hp 60 rfl
        refine d_need (small := [(154, undef), (155, undef), (157, undef)]) ⟨look_row rfl 57 rfl s57, look_row rfl 58 rfl s58, look_row rfl 60 rfl s60, trivial⟩ ?_
        refine t_skipu rfl rfl rfl ?_
        exact d_closes ⟨look_row rfl 57 rfl s57, look_row rfl 58 rfl s58, look_row rfl 60 rfl s60, trivial⟩ 61 rfl rfl rfl hS (AgreeR.refl _) (t_sat (fun _ h => h) (hK () trivial))
       · -- 62
        rintro _ S hF hS D hp K hK
        try dsimp only at hF ⊢
        have s57 := hp 57 rfl
        have s61 := hp 61 rfl
        refine d_need (small := [(154, undef), (158, undef)]) ⟨look_row rfl 57 rfl s57, look_row rfl 61 rfl s61, trivial⟩ ?_
        refine t_skipu rfl rfl rfl ?_
        exact d_closes ⟨look_row rfl 57 rfl s57, look_row rfl 61 rfl s61, trivial⟩ 62 rfl rfl rfl hS (AgreeR.refl _) (t_sat (fun _ h => h) (hK () trivial))
       · -- 63
        rintro _ S hF hS D hp K hK
        try dsimp only at hF ⊢
        have s57 := hp 57 rfl
        refine d_need (small := [(13, (.slice bs7 ((dueL ks ((nw : Nat) : Int)).length) cp8)), (154, undef)]) ⟨look_b rfl rfl, look_row rfl 57 rfl s57, trivial⟩ ?_
        refine t_skipu rfl rfl rfl ?_
        exact d_closes ⟨look_b rfl rfl, look_row rfl 57 rfl s57, trivial⟩ 63 rfl rfl rfl hS (AgreeR.refl _) (t_sat (fun _ h => h) (hK () trivial))
       · -- 64
        rintro _ S hF hS D hp K hK
        try dsimp only at hF ⊢
        have s57 := hp 57 rfl
        refine d_need (small := [(14, (.int .i64 ((i2 : Nat) : Int))), (154, undef)]) ⟨look_b rfl rfl, look_row rfl 57 rfl s57, trivial⟩ ?_
        refine t_skipu rfl rfl rfl ?_
        exact d_closes ⟨look_b rfl rfl, look_row rfl 57 rfl s57, trivial⟩ 64 rfl rfl rfl hS (AgreeR.refl _) (t_sat (fun _ h => h) (hK () trivial))
       · -- 65
        rintro _ S hF hS D hp K hK
        try dsimp only at hF ⊢
        have s57 := hp 57 rfl
        have s63 := hp 63 rfl
        have s64 := hp 64 rfl
        refine d_need (small := [(154, undef), (160, undef), (161, undef)]) ⟨look_row rfl 57 rfl s57, look_row rfl 63 rfl s63, look_row rfl 64 rfl s64, trivial⟩ ?_
        refine t_skipu rfl rfl rfl ?_
        exact d_closes ⟨look_row rfl 57 rfl s57, look_row rfl 63 rfl s63, look_row rfl 64 rfl s64, trivial⟩ 65 rfl rfl rfl hS (AgreeR.refl _) (t_sat (fun _ h => h) (hK () trivial))
       · -- 66
        rintro _ S hF hS D hp K hK
        try dsimp only at hF ⊢
        have s57 := hp 57 rfl
        have s65 := hp 65 rfl
        refine d_need (small := [(154, undef), (162, undef)]) ⟨look_row rfl 57 rfl s57, look_row rfl 65 rfl s65, trivial⟩ ?_
        refine t_skipu rfl rfl rfl ?_
        exact d_closes ⟨look_row rfl 57 rfl s57, look_row rfl 65 rfl s65, trivial⟩ 66 rfl rfl rfl hS (AgreeR.refl _) (t_sat (fun _ h => h) (hK () trivial))
       · -- 67
        rintro _ S hF hS D hp K hK
        try dsimp only at hF ⊢
        have s57 := hp 57 rfl
        have s62 := hp 62 rfl
        have s66 := hp 66 rfl
        refine d_need (small := [(154, undef), (159, undef), (163, undef)]) ⟨look_row rfl 57 rfl s57, look_row rfl 62 rfl s62, look_row rfl 66 rfl s66, trivial⟩ ?_
        refine t_skipu rfl rfl rfl ?_
        exact d_closes ⟨look_row rfl 57 rfl s57, look_row rfl 62 rfl s62, look_row rfl 66 rfl s66, trivial⟩ 67 rfl rfl rfl hS (AgreeR.refl _) (t_sat (fun _ h => h) (hK () trivial))
       · -- 68
        rintro _ S hF hS D hp K hK
        try dsimp only at hF ⊢
        have s44 := hp 44 rfl
        have s57 := hp 57 rfl
        have s67 := hp 67 rfl
        refine d_need (small := [(141, undef), (154, undef), (164, undef)]) ⟨look_row rfl 44 rfl s44, look_row rfl 57 rfl s57, look_row rfl 67 rfl s67, trivial⟩ ?_
        refine t_skipu rfl rfl rfl ?_
        exact d_closes ⟨look_row rfl 44 rfl s44, look_row rfl 57 rfl s57, look_row rfl 67 rfl s67, trivial⟩ 68 rfl rfl rfl hS (AgreeR.refl _) (t_sat (fun _ h => h) (hK () trivial))
       · -- 69
        rintro _ S hF hS D hp K hK
        try dsimp only at hF ⊢
        have s31 := hp 31 rfl
        have s44 := hp 44 rfl
        have s68 := hp 68 rfl
        refine d_need (small := [(128, (.bool false)), (141, undef), (165, undef)]) ⟨look_row rfl 31 rfl s31, look_row rfl 44 rfl s44, look_row rfl 68 rfl s68, trivial⟩ ?_
        refine t_skip rfl rfl rfl ?_
        exact d_closes ⟨look_row rfl 31 rfl s31, look_row rfl 44 rfl s44, look_row rfl 68 rfl s68, trivial⟩ 69 rfl rfl rfl hS (AgreeR.refl _) (t_sat (fun _ h => h) (hK () trivial))
       · -- 70
        rintro _ S hF hS D hp K hK
        try dsimp only at hF ⊢
        have s28 := hp 28 rfl
        have s31 := hp 31 rfl
        have s69 := hp 69 rfl
        refine d_need (small := [(125, (.bool false)), (128, (.bool false)), (166, undef)]) ⟨look_row rfl 28 rfl s28, look_row rfl 31 rfl s31, look_row rfl 69 rfl s69, trivial⟩ ?_
        refine t_guard rfl rfl ?_
        refine tp rfl (lv_pick_f rfl rfl) ?_
        exact d_closes ⟨look_row rfl 28 rfl s28, look_row rfl 31 rfl s31, look_row rfl 69 rfl s69, trivial⟩ 70 rfl rfl rfl hS (AgreeR.refl _) (t_sat (fun _ h => h) (hK () trivial))
       · -- 71
        rintro _ S hF hS D hp K hK
        try dsimp only at hF ⊢
        have s28 := hp 28 rfl
        have s70 := hp 70 rfl
        refine d_need (small := [(125, (.bool false)), (167, (.bool false))]) ⟨look_row rfl 28 rfl s28, look_row rfl 70 rfl s70, trivial⟩ ?_
        refine tp rfl (lv_pick_f rfl rfl) ?_
        exact d_closes ⟨look_row rfl 28 rfl s28, look_row rfl 70 rfl s70, trivial⟩ 71 rfl rfl rfl hS (AgreeR.refl _) (t_sat (fun _ h => h) (hK () trivial))
      · -- behind
       rintro _ hF
       try dsimp only at hF ⊢
       refine t_weak (E' := [(0, (.slice btb times.length ctb)), (1, (.slice bsb stop.length csb)), (2, (.int .i64 ((s : Nat) : Int))), (7, (.bool true)), (8, (.int .i64 ((n : Nat) : Int))), (9, (.pointer (some ⟨p1, 0, none⟩))), (10, (.int .i64 lf)), (11, (.int .i64 ((i : Nat) : Int))), (12, (.int .i64 ((nw : Nat) : Int))), (13, (.slice bs7 ((dueL ks ((nw : Nat) : Int)).length) cp8)), (14, (.int .i64 ((i2 : Nat) : Int))), (15, (.int .i64 ((tmL times).getD x1 0))), (27, (.bool false)), (30, (.bool false)), (75, (.bool true)), (85, (.bool true)), (168, (.bool false))]) ⟨rfl, rfl, rfl, rfl, rfl, rfl, rfl, rfl, rfl, rfl, rfl, rfl, rfl, rfl, rfl, rfl, rfl, trivial⟩ ?_
       refine q_then_n (hK28 _ _ ?_)
       refine c_false rfl ?_
       refine c_skip ?_
       refine q_in_n ?_
       refine q_then_n (hK26 _ _ ?_)
       refine c_region ?_
       refine tp rfl (lv_move rfl) ?_
       refine tp rfl (lv_add (c := ((i2 + 1 : Nat) : Int)) rfl rfl (wr_i64_succ (by omega))) ?_
       refine tp rfl (lv_assign rfl) ?_
       refine t_done ?_
       refine q_then_n ?_
       exact t_weak (by exact ⟨rfl, rfl, rfl, rfl, rfl, rfl, rfl, rfl, rfl, rfl, rfl, rfl, rfl, rfl, trivial⟩) ((hK23 (i2 + 1) (by omega) (by omega)))
   · -- no
    refine tp rfl (lv_lss rfl rfl (decide_eq_false h11)) ?_
    refine t_done ?_
    refine q_then_n (hK25 _ _ ?_)
    refine c_false rfl ?_
    refine c_exit ?_
    refine q_then_x ?_
    refine q_then_x ?_
    refine q_in_x ?_
    refine q_then_n (hK21 _ _ ?_)
    refine c_region ?_
    refine tp rfl (lv_move rfl) ?_
    refine tp rfl (lv_move rfl) ?_
    refine tp rfl (lv_len Try.underlying30 rfl rfl) ?_
    refine tp rfl (lv_sub (c := lf - (((dueL ks ((nw : Nat) : Int)).length : Nat) : Int)) rfl rfl (wr_i64 (by omega) (by omega))) ?_
    refine tp rfl (lv_assign rfl) ?_
    refine t_done ?_
    refine q_in_n ?_
    refine q_then_n (hK19 _ _ ?_)
    refine c_region ?_
    refine tp rfl (lv_move rfl) ?_
    refine tp rfl (lv_move rfl) ?_
    refine tp rfl (lv_add (c := ((nw : Nat) : Int) + ((s : Nat) : Int)) rfl rfl (wr_i64 (by omega) (by omega))) ?_
    refine tp rfl (lv_assign rfl) ?_
    refine t_done ?_
    refine q_then_n ?_
    refine t_drop ?_
    exact t_weak (by exact ⟨rfl, rfl, rfl, rfl, rfl, rfl, rfl, rfl, rfl, rfl, rfl, trivial⟩) ((hK16 (nw + s, duR ks ((nw : Nat) : Int), lf - (((dueL ks ((nw : Nat) : Int)).length : Nat) : Int)) ⟨by omega, by dsimp only; omega, by dsimp only; omega, fun x k e => by have h8 := due_rest _ _ x k e; have h9 := hinv x k h8.1; exact ⟨h9.1, h9.2.1, h9.2.2.1, by dsimp only; omega⟩⟩ (by dsimp only; omega)))
  · -- no
   refine tp rfl (lv_lss rfl rfl (decide_eq_false h6)) ?_
   refine t_done ?_
   refine q_then_n (hK18 _ _ ?_)
   refine c_false rfl ?_
   refine c_exit ?_
   refine q_then_x ?_
   refine q_then_x ?_
   refine q_in_x ?_
   refine q_then_n (hK14 _ _ ?_)
   refine c_seq (fun K19 hK19 => ?_)
   refine c_region ?_
   have hc0 : cntK ks = 0 := cnt_noone fun x k e => by have h8 := hinv x k e; have h9 := tmL_get (l := times) (i := x) (by omega); omega
   refine tp rfl (lv_move rfl) ?_
   refine tp rfl (lv_move rfl) ?_
   refine t_guard rfl rfl ?_
   refine tp rfl (lv_move rfl) ?_
   refine t_guard rfl rfl ?_
   refine tp rfl (lv_eql rfl rfl (beq_iff_eq.2 (by omega))) ?_
   refine tp rfl (lv_pick_t rfl rfl) ?_
   refine tp rfl (lv_move rfl) ?_
   refine t_guard rfl rfl ?_
   refine tp rfl (lv_move rfl) ?_
   refine t_guard rfl rfl ?_
   refine tp rfl (lv_nilCheck rfl) ?_
   refine t_guard rfl rfl ?_
   refine tp rfl (lv_fieldAddr (o' := 0) Try.underlying37 rfl Try.sizeOf35 rfl rfl) ?_
   refine t_guard rfl rfl ?_
   refine tp rfl (lv_fieldAddr (o' := 0) Try.underlying35 rfl Try.sizeOf33 rfl rfl) ?_
   refine t_guard rfl rfl ?_
   refine tp rfl (lv_load Try.isAgg33 rfl (gives_blk (.head _) rfl)) ?_
   refine t_guard rfl rfl ?_
   refine t_f1 ?_
   refine tc rfl (en_fn Try.call15 rfl) (hlen_ok (n := n) (ks := ks) ) ?_
   rintro _ _ ⟨rfl, rfl⟩
   refine t_guard rfl rfl ?_
   refine tp rfl (lv_eql rfl rfl (beq_iff_eq.2 (by omega))) ?_
   refine tp rfl (lv_pick_t rfl rfl) ?_
   refine tp rfl (lv_assign rfl) ?_
   refine t_done ?_
   refine q_then_n (hK19 _ _ ?_)
   refine c_ret ?_
   refine t_drop ?_
   refine t_drop ?_
   refine q_ret rfl rfl ?_
   exact ⟨rfl, rfl⟩
end Go.Proofs.Ytombnfgkgcjihaa
