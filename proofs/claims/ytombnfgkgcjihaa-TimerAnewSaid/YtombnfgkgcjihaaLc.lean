/- TimerAnew: the law's walk. -/
import Derived.Test.YtombnfgkgcjihaaLa
import Derived.Test.YtombnfgkgcjihaaTm2
set_option maxRecDepth 100000
set_option linter.unusedVariables false
set_option linter.unusedSimpArgs false
namespace Go.Proofs.Ytombnfgkgcjihaa
open Go Go.Proofs Sp
set_option maxHeartbeats 4000000 in
theorem anew_law {R : List HP} {btb : Option Addr} {ctb : Nat} (times : List Int) (htb : Rd R btb (ints .i64 times)) (oktb : SlOk btb times.length) (ltb : times.length ≤ 9223372036854775807) (wftb : ∀ x ∈ times, (Lit.int .i64 x).wf = true) (n : Int) :
    Ok Try.prog 9 [(.slice btb times.length ctb), (.int .i64 n)] R
      (fun v M => v = .bool true ∧ M = R) := by
  obtain ⟨d, hdm⟩ : ∃ m : Nat, n % 65536 % 9 = (m : Int) := ⟨(n % 65536 % 9).toNat, by omega⟩
  have hd : d < 9 := by omega
  refine ok_of (N := 125) Try.func9 rfl rfl rfl (fun W => ?_)
  refine c_seq (fun K1 hK1 => ?_)
  refine c_region ?_
  refine tp rfl (lv_assign rfl) ?_
  refine t_done ?_
  refine q_then_n (hK1 _ _ ?_)
  refine c_seq (fun K2 hK2 => ?_)
  refine c_region ?_
  refine tc rfl (en_fn Try.call10 rfl) (shown_ok) ?_
  rintro _ _ ⟨rfl, hMR⟩
  rw [hMR]; clear hMR
  refine tp rfl (lv_assign rfl) ?_
  refine t_done ?_
  refine q_then_n (hK2 _ _ ?_)
  refine c_seq (fun K3 hK3 => ?_)
  refine c_region ?_
  refine tc rfl (en_fn Try.call11 rfl) (tnew_ok 9) ?_
  rintro _ _ ⟨p1, q2, rfl, rfl⟩
  rw [show hclamp 9 = 9 from rfl]
  refine tp rfl (lv_assign rfl) ?_
  refine t_done ?_
  refine q_then_n (hK3 _ _ ?_)
  refine c_seq (fun K4 hK4 => ?_)
  refine c_seq (fun K5 hK5 => ?_)
  refine c_region ?_
  refine tp rfl (lv_move rfl) ?_
  refine tp rfl (lv_eqnil Try.underlying25 rfl rfl) ?_
  refine t_done ?_
  refine q_then_n (hK5 _ _ ?_)
  refine c_false rfl ?_
  refine c_skip ?_
  refine q_then_n (hK4 _ _ ?_)
  refine c_seq (fun K6 hK6 => ?_)
  refine c_region ?_
  refine tp rfl (lv_move rfl) ?_
  refine tp rfl (lv_and (c := n % 65536) rfl rfl (and_pow 16 (by decide) n)) ?_
  refine tp rfl (lv_rem (c := ((d : Nat) : Int)) rfl rfl (by omega) ((Int.tmod_eq_emod_of_nonneg (by omega)).trans hdm)) ?_
  refine tp rfl (lv_assign rfl) ?_
  refine t_done ?_
  refine q_then_n (hK6 _ _ ?_)
  refine c_seq (fun K7 hK7 => ?_)
  refine c_seq (fun K8 hK8 => ?_)
  refine c_region ?_
  refine tp rfl (lv_assign rfl) ?_
  refine t_done ?_
  refine q_then_n (hK8 _ _ ?_)
  refine c_block ?_
  rw [show List.replicate (9) none = anK d 0 from anK_zero d]
  refine c_loop (γ := (Nat)) (fun (i : Nat) => i ≤ 9) (fun (i : Nat) => [(0, (.slice btb times.length ctb)), (1, (.int .i64 ((d : Nat) : Int))), (5, (.bool true)), (6, (.pointer (some ⟨p1, 0, none⟩))), (7, (.int .i64 ((i : Nat) : Int))), (18, (.bool false))]) (fun (i : Nat) => (Blk p1 [(.pointer (some ⟨q2, 0, none⟩))] 37) :: (HeapO q2 9 (anK d i)) :: R) (fun (i : Nat) => 9 - i) (0) (by omega) ⟨rfl, rfl, rfl, rfl, rfl, rfl, trivial⟩ (fun _ h => h) ?_
  rintro i K9 hF hK9
  try dsimp only at hF hK9 ⊢
  obtain hi := hF
  refine c_seq (fun K10 hK10 => ?_)
  refine c_seq (fun K11 hK11 => ?_)
  refine c_region ?_
  refine tp rfl (lv_move rfl) ?_
  by_cases h3 : ((i : Nat) : Int) < 9
  · -- yes
    refine tp rfl (lv_lss rfl rfl (decide_eq_true h3)) ?_
    refine t_done ?_
    refine q_then_n (hK11 _ _ ?_)
    refine c_true rfl ?_
    refine c_skip ?_
    refine q_then_n (hK10 _ _ ?_)
    refine c_seq (fun K12 hK12 => ?_)
    refine c_block ?_
    refine c_seq (fun K13 hK13 => ?_)
    refine c_region ?_
    refine tp rfl (lv_move rfl) ?_
    refine tp rfl (lv_move rfl) ?_
    by_cases h4 : ((i : Nat) : Int) = ((d : Nat) : Int)
    · -- yes
      refine tp rfl (lv_neq rfl rfl (bne_eq_false_iff_eq.2 h4)) ?_
      refine tp rfl (lv_move rfl) ?_
      refine t_skip rfl rfl rfl ?_
      refine t_skip rfl rfl rfl ?_
      refine t_skip rfl rfl rfl ?_
      refine t_skip rfl rfl rfl ?_
      refine tp rfl (lv_pick_f rfl rfl) ?_
      refine t_done ?_
      refine q_then_n (hK13 _ _ ?_)
      refine c_false rfl ?_
      refine c_skip ?_
      refine q_in_n ?_
      refine q_then_n (hK12 _ _ ?_)
      refine c_region ?_
      refine tp rfl (lv_move rfl) ?_
      refine tp rfl (lv_add (c := ((i + 1 : Nat) : Int)) rfl rfl (wr_i64_succ (by omega))) ?_
      refine tp rfl (lv_assign rfl) ?_
      refine t_done ?_
      refine q_then_n ?_
      rw [← anK_skip (d := d) (i := i) (by omega)]
      exact t_weak (by exact ⟨rfl, rfl, rfl, rfl, rfl, rfl, trivial⟩) ((hK9 (i + 1) (by omega) (by omega)))
    · -- no
      refine tp rfl (lv_neq rfl rfl (bne_iff_ne.2 h4)) ?_
      refine tp rfl (lv_move rfl) ?_
      refine t_guard rfl rfl ?_
      refine tp rfl (lv_move rfl) ?_
      refine t_guard rfl rfl ?_
      refine tp rfl (lv_move rfl) ?_
      refine t_guard rfl rfl ?_
      refine t_f1 ?_
      refine t_f1 ?_
      refine tc rfl (en_fn Try.call12 rfl) (tset_ok (n := 9) (ks := anK d i) ((i : Nat) : Int) 4611686018427387904) ?_
      rintro _ _ ⟨rfl, rfl⟩
      rw [show pushE (remK (anK d i) ((i : Nat) : Int)) ((i : Nat) : Int) = 0 from (anK_next (d := d) (i := i) (by omega) (by omega)).1]
      rw [show pushK (remK (anK d i) ((i : Nat) : Int)) ((i : Nat) : Int) 4611686018427387904 = anK d (i + 1) from (anK_next (d := d) (i := i) (by omega) (by omega)).2]
      refine t_guard rfl rfl ?_
      refine tp rfl (lv_neq (r := false) rfl rfl (by decide)) ?_
      refine tp rfl (lv_pick_t rfl rfl) ?_
      refine t_done ?_
      refine q_then_n (hK13 _ _ ?_)
      refine c_false rfl ?_
      refine c_skip ?_
      refine q_in_n ?_
      refine q_then_n (hK12 _ _ ?_)
      refine c_region ?_
      refine tp rfl (lv_move rfl) ?_
      refine tp rfl (lv_add (c := ((i + 1 : Nat) : Int)) rfl rfl (wr_i64_succ (by omega))) ?_
      refine tp rfl (lv_assign rfl) ?_
      refine t_done ?_
      refine q_then_n ?_
      exact t_weak (by exact ⟨rfl, rfl, rfl, rfl, rfl, rfl, trivial⟩) ((hK9 (i + 1) (by omega) (by omega)))
  · -- no
    refine tp rfl (lv_lss rfl rfl (decide_eq_false h3)) ?_
    refine t_done ?_
    refine q_then_n (hK11 _ _ ?_)
    refine c_false rfl ?_
    refine c_exit ?_
    refine q_then_x ?_
    refine q_then_x ?_
    refine q_in_x ?_
    refine q_then_n (hK7 _ _ ?_)
    refine c_seq (fun K12 hK12 => ?_)
    refine c_region ?_
    rw [show anK d i = anO d none from by rw [show i = 9 by omega, anO_none hd]]
    refine tp rfl (lv_assign rfl) ?_
    refine t_done ?_
    refine q_then_n (hK12 _ _ ?_)
    refine c_seq (fun K13 hK13 => ?_)
    refine c_region ?_
    refine tp rfl (lv_assign rfl) ?_
    refine t_done ?_
    refine q_then_n (hK13 _ _ ?_)
    refine c_seq (fun K14 hK14 => ?_)
    refine c_seq (fun K15 hK15 => ?_)
    refine c_region ?_
    refine tp rfl (lv_assign rfl) ?_
    refine t_done ?_
    refine q_then_n (hK15 _ _ ?_)
    refine c_block ?_
    refine c_loop (γ := (Nat) × (Option Int) × (Int)) (fun (j, o, last) => j ≤ times.length ∧ j ≤ 50 ∧ (j = 0 → o = none) ∧ (0 < j → o = some last) ∧ -2305843009213693952 ≤ last ∧ last ≤ 2305843009213693952) (fun (j, o, last) => [(0, (.slice btb times.length ctb)), (1, (.int .i64 ((d : Nat) : Int))), (5, (.bool true)), (6, (.pointer (some ⟨p1, 0, none⟩))), (7, (.int .i64 ((i : Nat) : Int))), (8, (.int .i64 last)), (9, (.int .i64 ((j : Nat) : Int))), (10, (.int .i64 ((j : Nat) : Int))), (18, (.bool false)), (23, (.bool false))]) (fun (j, o, last) => (Blk p1 [(.pointer (some ⟨q2, 0, none⟩))] 37) :: (HeapO q2 9 (anO d o)) :: R) (fun (j, o, last) => times.length - j) (0, none, 0) ⟨by omega, by omega, fun _ => rfl, fun hh => absurd hh (by omega), by omega, by omega⟩ ⟨rfl, rfl, rfl, rfl, rfl, rfl, rfl, rfl, rfl, rfl, trivial⟩ (fun _ h => h) ?_
    rintro ⟨j, o, last⟩ K16 hF hK16
    try dsimp only at hF hK16 ⊢
    obtain ⟨hj, hj2, ho0, ho1, hl0, hl1⟩ := hF
    refine c_seq (fun K17 hK17 => ?_)
    refine c_seq (fun K18 hK18 => ?_)
    refine c_region ?_
    by_cases hc5 : ((j : Nat) : Int) < ((times.length : Nat) : Int) ∧ ((j : Nat) : Int) < 50
    · -- both
      have hc5a := hc5.1
      have hc5b := hc5.2
      refine tp rfl (lv_move rfl) ?_
      refine tp rfl (lv_move rfl) ?_
      refine tp rfl (lv_len Try.underlying30 rfl rfl) ?_
      refine tp rfl (lv_lss rfl rfl (decide_eq_true hc5.1)) ?_
      refine tp rfl (lv_move rfl) ?_
      refine t_guard rfl rfl ?_
      refine tp rfl (lv_move rfl) ?_
      refine t_guard rfl rfl ?_
      refine tp rfl (lv_lss rfl rfl (decide_eq_true hc5.2)) ?_
      refine tp rfl (lv_pick_t rfl rfl) ?_
      refine t_done ?_
      refine q_then_n (hK18 _ _ ?_)
      refine c_true rfl ?_
      refine c_skip ?_
      refine q_then_n (hK17 _ _ ?_)
      refine c_seq (fun K19 hK19 => ?_)
      refine c_block ?_
      refine c_seq (fun K20 hK20 => ?_)
      refine c_region ?_
      have hwj : -9223372036854775808 ≤ times.getD j 0 ∧ times.getD j 0 ≤ 9223372036854775807 := by have h9 := wftb (times.getD j 0) (by simp [List.getD, show j < times.length by omega]); simpa [Lit.wf, IntKind.min, IntKind.max, IntKind.signed, IntKind.bits] using h9
      obtain ⟨q, hqe⟩ : ∃ q, q = times.getD j 0 / 4 := ⟨_, rfl⟩
      have hq : -2305843009213693952 ≤ q ∧ q ≤ 2305843009213693952 := by omega
      refine tp rfl (lv_move rfl) ?_
      refine tp rfl (lv_move rfl) ?_
      refine tp rfl (lv_indexAddr (k' := j) Try.underlying30 Try.sizeOf3 rfl rfl oktb (by omega) (by omega) (by omega)) ?_
      refine tp rfl (lv_load Try.isAgg3 rfl (Rd.gives (Rd.cons (Rd.cons htb)) (ints_get (by omega)))) ?_
      refine tp rfl (lv_shr (c := q) rfl rfl (by omega) ((shr_two _).trans hqe.symm)) ?_
      refine tp rfl (lv_assign rfl) ?_
      refine t_done ?_
      refine q_then_n (hK20 _ _ ?_)
      refine c_seq (fun K21 hK21 => ?_)
      refine c_region ?_
      refine tp rfl (lv_move rfl) ?_
      refine tp rfl (lv_add (c := ((j + 1 : Nat) : Int)) rfl rfl (wr_i64_succ (by omega))) ?_
      refine tp rfl (lv_assign rfl) ?_
      refine t_done ?_
      refine q_then_n (hK21 _ _ ?_)
      refine c_seq (fun K22 hK22 => ?_)
      refine c_seq (fun K23 hK23 => ?_)
      refine c_region ?_
      have has := anO_set hd o q
      have haa := anO_at hd q
      have hac := anO_cnt hd q
      refine tp rfl (lv_move rfl) ?_
      refine tp rfl (lv_move rfl) ?_
      refine tp rfl (lv_move rfl) ?_
      refine t_f1 ?_
      refine t_f1 ?_
      refine tc rfl (en_fn Try.call12 rfl) (tset_ok (n := 9) (ks := anO d o) ((d : Nat) : Int) q) ?_
      rintro _ _ ⟨rfl, rfl⟩
      rw [show pushE (remK (anO d o) ((d : Nat) : Int)) ((d : Nat) : Int) = 0 from has.1]
      rw [show pushK (remK (anO d o) ((d : Nat) : Int)) ((d : Nat) : Int) q = anO d (some q) from has.2]
      refine tp rfl (lv_neq (r := false) rfl rfl (by decide)) ?_
      refine t_done ?_
      refine q_then_n (hK23 _ _ ?_)
      refine c_false rfl ?_
      refine c_skip ?_
      refine q_then_n (hK22 _ _ ?_)
      refine c_seq (fun K24 hK24 => ?_)
      refine c_region ?_
      refine tp rfl (lv_move rfl) ?_
      refine tp rfl (lv_move rfl) ?_
      refine t_f1 ?_
      refine t_f1 ?_
      refine tc rfl (en_fn Try.call21 rfl) (tat_ok (n := 9) (ks := anO d (some q)) ((d : Nat) : Int)) ?_
      rintro _ _ ⟨rfl, rfl⟩
      rw [show keyK (anO d (some q)) ((d : Nat) : Int) = q from haa.1]
      rw [show hasK (anO d (some q)) ((d : Nat) : Int) = true from haa.2]
      refine tp rfl (lv_move rfl) ?_
      refine tp rfl (lv_extract rfl rfl) ?_
      refine tp rfl (lv_extract rfl rfl) ?_
      refine tp rfl (lv_assign rfl) ?_
      refine tp rfl (lv_assign rfl) ?_
      refine t_done ?_
      refine q_then_n (hK24 _ _ ?_)
      refine c_seq (fun K25 hK25 => ?_)
      refine c_region ?_
      refine tp rfl (lv_move rfl) ?_
      refine tp rfl (lv_move rfl) ?_
      refine tp rfl (lv_neq rfl rfl (bne_eq_false_iff_eq.2 rfl)) ?_
      refine tp rfl (lv_move rfl) ?_
      refine t_guard rfl rfl ?_
      refine tp rfl (lv_move rfl) ?_
      refine t_guard rfl rfl ?_
      refine tp rfl (lv_not (c := false) rfl rfl) ?_
      refine tp rfl (lv_pick_f rfl rfl) ?_
      refine tp rfl (lv_move rfl) ?_
      refine t_guard rfl rfl ?_
      refine tp rfl (lv_move rfl) ?_
      refine t_guard rfl rfl ?_
      refine tp rfl (lv_nilCheck rfl) ?_
      refine t_guard rfl rfl ?_
      refine tp rfl (lv_fieldAddr (o' := 0) Try.underlying37 rfl Try.sizeOf35 rfl rfl) ?_
      refine t_guard rfl rfl ?_
      refine tp rfl (lv_fieldAddr (o' := 0) Try.underlying35 rfl Try.sizeOf33 rfl rfl) ?_
      refine t_guard rfl rfl ?_
      refine tp rfl (lv_load Try.isAgg33 rfl (gives_blk (.head _) rfl)) ?_
      refine t_guard rfl rfl ?_
      refine t_f1 ?_
      refine tc rfl (en_fn Try.call15 rfl) (hlen_ok (n := 9) (ks := anO d (some q)) ) ?_
      rintro _ _ ⟨rfl, rfl⟩
      refine t_guard rfl rfl ?_
      refine tp rfl (lv_neq rfl rfl (bne_eq_false_iff_eq.2 (by rw [hac]; rfl))) ?_
      refine tp rfl (lv_pick_f rfl rfl) ?_
      refine t_done ?_
      refine q_then_n (hK25 _ _ ?_)
      refine c_false rfl ?_
      refine c_skip ?_
      refine q_in_n ?_
      refine q_then_n (hK19 _ _ ?_)
      refine c_region ?_
      refine tp rfl (lv_move rfl) ?_
      refine tp rfl (lv_add (c := ((j + 1 : Nat) : Int)) rfl rfl (wr_i64_succ (by omega))) ?_
      refine tp rfl (lv_assign rfl) ?_
      refine t_done ?_
      refine q_then_n ?_
      refine t_f1 ?_
      exact t_weak (by exact ⟨rfl, rfl, rfl, rfl, rfl, rfl, rfl, rfl, rfl, rfl, trivial⟩) ((hK16 (j + 1, (some q), q) ⟨by omega, by omega, fun hh => absurd hh (by omega), fun _ => rfl, hq.1, hq.2⟩ (by dsimp only; omega)))
    · -- not both
      refine t_cut0 (E' := [(0, (.slice btb times.length ctb)), (1, (.int .i64 ((d : Nat) : Int))), (5, (.bool true)), (6, (.pointer (some ⟨p1, 0, none⟩))), (7, (.int .i64 ((i : Nat) : Int))), (8, (.int .i64 last)), (9, (.int .i64 ((j : Nat) : Int))), (10, (.int .i64 ((j : Nat) : Int))), (18, (.bool false)), (23, (.bool false)), (42, (.bool false))]) ?_ (fun KK hKK => ?_)
      ·
        refine q_then_n (hK18 _ _ ?_)
        refine c_false rfl ?_
        refine c_exit ?_
        refine q_then_x ?_
        refine q_then_x ?_
        refine q_in_x ?_
        refine q_then_n (hK14 _ _ ?_)
        refine c_seq (fun K19 hK19 => ?_)
        refine c_seq (fun K20 hK20 => ?_)
        refine c_region ?_
        refine tp rfl (lv_move rfl) ?_
        by_cases h6 : ((j : Nat) : Int) = 0
        · -- yes
         refine tp rfl (lv_eql rfl rfl (beq_iff_eq.2 h6)) ?_
         refine t_done ?_
         refine q_then_n (hK20 _ _ ?_)
         refine c_true rfl ?_
         refine c_seq (fun K21 hK21 => ?_)
         refine c_region ?_
         obtain rfl : o = none := ho0 (by omega)
         have hac0 : (((cntK (anO d none)) : Nat) : Int) = 8 := by rw [anO_none hd, anK_cnt d hd]; rfl
         refine tp rfl (lv_move rfl) ?_
         refine tp rfl (lv_move rfl) ?_
         refine t_guard rfl rfl ?_
         refine tp rfl (lv_move rfl) ?_
         refine t_guard rfl rfl ?_
         refine tp rfl (lv_nilCheck rfl) ?_
         refine t_guard rfl rfl ?_
         refine tp rfl (lv_fieldAddr (o' := 0) Try.underlying37 rfl Try.sizeOf35 rfl rfl) ?_
         refine t_guard rfl rfl ?_
         refine tp rfl (lv_fieldAddr (o' := 0) Try.underlying35 rfl Try.sizeOf33 rfl rfl) ?_
         refine t_guard rfl rfl ?_
         refine tp rfl (lv_load Try.isAgg33 rfl (gives_blk (.head _) rfl)) ?_
         refine t_guard rfl rfl ?_
         refine t_f1 ?_
         refine tc rfl (en_fn Try.call15 rfl) (hlen_ok (n := 9) (ks := anO d none) ) ?_
         rintro _ _ ⟨rfl, rfl⟩
         refine t_guard rfl rfl ?_
         refine tp rfl (lv_eql rfl rfl (beq_iff_eq.2 hac0)) ?_
         refine tp rfl (lv_pick_t rfl rfl) ?_
         refine tp rfl (lv_assign rfl) ?_
         refine t_done ?_
         refine q_then_n (hK21 _ _ ?_)
         refine c_ret ?_
         refine q_then_r ?_
         refine t_drop ?_
         refine t_drop ?_
         refine q_ret rfl rfl ?_
         exact ⟨rfl, rfl⟩
        · -- no
         refine tp rfl (lv_eql rfl rfl (beq_eq_false_iff_ne.2 h6)) ?_
         refine t_done ?_
         refine q_then_n (hK20 _ _ ?_)
         refine c_false rfl ?_
         refine c_skip ?_
         refine q_then_n (hK19 _ _ ?_)
         refine c_seq (fun K21 hK21 => ?_)
         refine c_region ?_
         obtain rfl : o = some last := ho1 (by omega)
         have hea := anO_early hd (k := last) (by omega)
         have hdu := anO_due hd (k := last) (by omega)
         have hle9 : (((dueL (anO d (some last)) (last - 1)).length : Nat) : Int) = 0 := by rw [hea.1]; rfl
         have hks := anK_stop hd
         have hkc : (((cntK (anK d 9)) : Nat) : Int) = 8 := by rw [anK_cnt d hd]; rfl
         refine tp rfl (lv_move rfl) ?_
         refine tp rfl (lv_move rfl) ?_
         refine tp rfl (lv_sub (c := last - 1) rfl rfl (wr_i64 (by omega) (by omega))) ?_
         refine t_f1 ?_
         refine t_f1 ?_
         refine tc rfl (en_fn Try.call14 rfl) (tdue_ok (n := 9) (ks := anO d (some last)) (last - 1)) ?_
         rintro _ _ ⟨bs7, cp8, hok9, hle10, rfl, rfl⟩
         rw [show duR (anO d (some last)) (last - 1) = anO d (some last) from hea.2]
         refine tp rfl (lv_assign rfl) ?_
         refine t_done ?_
         refine q_then_n (hK21 _ _ ?_)
         refine c_seq (fun K22 hK22 => ?_)
         refine c_region ?_
         refine tp rfl (lv_move rfl) ?_
         refine tp rfl (lv_move rfl) ?_
         refine t_f2 ?_
         refine t_f2 ?_
         refine tc rfl (en_fn Try.call14 rfl) (tdue_ok (n := 9) (ks := anO d (some last)) last) ?_
         rintro _ _ ⟨bs11, cp12, hok13, hle14, rfl, rfl⟩
         rw [show duR (anO d (some last)) last = anK d 9 from hdu.2]
         refine tp rfl (lv_assign rfl) ?_
         refine t_done ?_
         refine q_then_n (hK22 _ _ ?_)
         refine c_seq (fun K23 hK23 => ?_)
         refine c_region ?_
         refine tp rfl (lv_move rfl) ?_
         refine tp rfl (lv_move rfl) ?_
         refine t_guard rfl rfl ?_
         refine tp rfl (lv_move rfl) ?_
         refine t_guard rfl rfl ?_
         refine tp rfl (lv_len Try.underlying30 rfl rfl) ?_
         refine t_guard rfl rfl ?_
         refine tp rfl (lv_eql rfl rfl (beq_iff_eq.2 hle9)) ?_
         refine tp rfl (lv_pick_t rfl rfl) ?_
         refine tp rfl (lv_move rfl) ?_
         refine t_guard rfl rfl ?_
         refine tp rfl (lv_move rfl) ?_
         refine t_guard rfl rfl ?_
         refine tp rfl (lv_move rfl) ?_
         refine t_guard rfl rfl ?_
         refine tm rfl (mv_buildSlice (cs := [(.int .i64 ((d : Nat) : Int))]) Try.underlying30 Try.sizeOf3 Try.zeroValue3 (by decide) rfl rfl rfl rfl) ?_
         rintro _ _ ⟨bs15, cp16, hok17, hle18, rfl, rfl⟩
         refine t_guard rfl rfl ?_
         refine tc rfl (en_fn Try.call17 rfl) (ints_ok (dueL (anO d (some last)) last) [((d : Nat) : Int)] (rd_sl (.tail _ (.head _))) (rd_sl (.head _)) hok13 hok17 (by rw [hdu.1, List.length_singleton]; omega) (by first | omega | (simp; omega) | (simp; done))) ?_
         rintro _ _ ⟨rfl, rfl⟩
         rw [show eqI (dueL (anO d (some last)) last) [((d : Nat) : Int)] = true from (by rw [hdu.1]; exact eqI_refl _)]
         refine tp rfl (lv_pick_t rfl rfl) ?_
         refine tp rfl (lv_move rfl) ?_
         refine t_guard rfl rfl ?_
         refine tp rfl (lv_move rfl) ?_
         refine t_guard rfl rfl ?_
         refine tp rfl (lv_nilCheck rfl) ?_
         refine t_guard rfl rfl ?_
         refine tp rfl (lv_fieldAddr (o' := 0) Try.underlying37 rfl Try.sizeOf35 rfl rfl) ?_
         refine t_guard rfl rfl ?_
         refine tp rfl (lv_fieldAddr (o' := 0) Try.underlying35 rfl Try.sizeOf33 rfl rfl) ?_
         refine t_guard rfl rfl ?_
         refine tp rfl (lv_load Try.isAgg33 rfl (gives_blk (.tail _ (.tail _ (.head _))) rfl)) ?_
         refine t_guard rfl rfl ?_
         refine t_f3 ?_
         refine tc rfl (en_fn Try.call15 rfl) (hlen_ok (n := 9) (ks := anK d 9) ) ?_
         rintro _ _ ⟨rfl, rfl⟩
         refine t_guard rfl rfl ?_
         refine tp rfl (lv_eql rfl rfl (beq_iff_eq.2 hkc)) ?_
         refine tp rfl (lv_pick_t rfl rfl) ?_
         refine tp rfl (lv_move rfl) ?_
         refine t_guard rfl rfl ?_
         refine tp rfl (lv_move rfl) ?_
         refine t_guard rfl rfl ?_
         refine tp rfl (lv_move rfl) ?_
         refine t_guard rfl rfl ?_
         refine t_f3 ?_
         refine tc rfl (en_fn Try.call13 rfl) (tstop_ok (n := 9) (ks := anK d 9) ((d : Nat) : Int)) ?_
         rintro _ _ ⟨rfl, rfl⟩
         rw [show stopB (anK d 9) ((d : Nat) : Int) = false from hks]
         refine t_guard rfl rfl ?_
         refine tp rfl (lv_not (c := true) rfl rfl) ?_
         refine tp rfl (lv_pick_t rfl rfl) ?_
         refine tp rfl (lv_assign rfl) ?_
         refine t_done ?_
         refine q_then_n (hK23 _ _ ?_)
         refine c_ret ?_
         refine t_drop ?_
         refine t_drop ?_
         refine t_drop ?_
         refine t_drop ?_
         refine t_drop ?_
         refine q_ret rfl rfl ?_
         exact ⟨rfl, rfl⟩
      · -- which
        by_cases hc5A : ((j : Nat) : Int) < ((times.length : Nat) : Int)
        ·
         have hc5B : ¬ (((j : Nat) : Int) < 50) := fun hh => hc5 ⟨hc5A, hh⟩
         refine tp rfl (lv_move rfl) ?_
         refine tp rfl (lv_move rfl) ?_
         refine tp rfl (lv_len Try.underlying30 rfl rfl) ?_
         refine tp rfl (lv_lss rfl rfl (decide_eq_true hc5A)) ?_
         refine tp rfl (lv_move rfl) ?_
         refine t_guard rfl rfl ?_
         refine tp rfl (lv_move rfl) ?_
         refine t_guard rfl rfl ?_
         refine tp rfl (lv_lss rfl rfl (decide_eq_false hc5B)) ?_
         refine tp rfl (lv_pick_t rfl rfl) ?_
         exact t_done (t_weak (by exact ⟨rfl, rfl, rfl, rfl, rfl, rfl, rfl, rfl, rfl, rfl, rfl, trivial⟩) hKK)
        ·
         refine tp rfl (lv_move rfl) ?_
         refine tp rfl (lv_move rfl) ?_
         refine tp rfl (lv_len Try.underlying30 rfl rfl) ?_
         refine tp rfl (lv_lss rfl rfl (decide_eq_false hc5A)) ?_
         refine tp rfl (lv_move rfl) ?_
         refine t_skip rfl rfl rfl ?_
         refine t_skip rfl rfl rfl ?_
         refine tp rfl (lv_pick_f rfl rfl) ?_
         exact t_done (t_weak (by exact ⟨rfl, rfl, rfl, rfl, rfl, rfl, rfl, rfl, rfl, rfl, rfl, trivial⟩) hKK)
end Go.Proofs.Ytombnfgkgcjihaa
