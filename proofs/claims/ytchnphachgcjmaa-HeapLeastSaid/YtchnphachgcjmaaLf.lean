/- HeapLeast: the law's walk. -/
import Derived.Test.YtchnphachgcjmaaLa
import Derived.Test.YtchnphachgcjmaaHpl3
set_option maxRecDepth 100000
set_option linter.unusedVariables false
set_option linter.unusedSimpArgs false
namespace Go.Proofs.Ytchnphachgcjmaa
open Go Go.Proofs Sp
set_option maxHeartbeats 20000000 in
theorem least_law {R : List HP} {bkb : Option Addr} {ckb : Nat} (keys : List Int) (hkb : Rd R bkb (ints .i64 keys)) (okkb : SlOk bkb keys.length) (lkb : keys.length ≤ 9223372036854775807) (wfkb : ∀ x ∈ keys, (Lit.int .i64 x).wf = true) {bib : Option Addr} {cib : Nat} (ids : List Int) (hib : Rd R bib (ints .u8 ids)) (okib : SlOk bib ids.length) (lib : ids.length ≤ 9223372036854775807) (wfib : ∀ x ∈ ids, (Lit.int .u8 x).wf = true) :
    Ok Try.prog 7 [(.slice bkb keys.length ckb), (.slice bib ids.length cib)] R
      (fun v M => v = .bool true ∧ M = R) := by
  obtain ⟨n, hn⟩ : ∃ n, n = min keys.length 60 := ⟨_, rfl⟩
  have hcm : hclamp ((n : Nat) : Int) = n := by unfold hclamp; omega
  have hkn : ∀ x : Nat, x < n → -9223372036854775808 ≤ keys.getD x 0 ∧ keys.getD x 0 ≤ 9223372036854775807 := fun x hx => by have h9 := wfkb (keys.getD x 0) (by simp [List.getD, show x < keys.length by omega]); simpa [Lit.wf, IntKind.min, IntKind.max, IntKind.signed, IntKind.bits] using h9
  refine ok_of (N := 141) Try.func7 rfl rfl rfl (fun W => ?_)
  refine c_seq (fun K1 hK1 => ?_)
  refine c_region ?_
  refine tp rfl (lv_assign rfl) ?_
  refine t_done ?_
  refine q_then_n (hK1 _ _ ?_)
  refine c_seq (fun K2 hK2 => ?_)
  refine c_region ?_
  refine tc rfl (en_fn Try.call11 rfl) (shown_ok) ?_
  rintro _ _ ⟨rfl, hMR⟩
  rw [hMR]; clear hMR
  refine tp rfl (lv_assign rfl) ?_
  refine t_done ?_
  refine q_then_n (hK2 _ _ ?_)
  refine c_seq (fun K3 hK3 => ?_)
  refine c_region ?_
  refine tp rfl (lv_move rfl) ?_
  refine tp rfl (lv_len Try.underlying22 rfl rfl) ?_
  refine tp rfl (lv_min (c := ((n : Nat) : Int)) rfl rfl (by omega)) ?_
  refine tp rfl (lv_assign rfl) ?_
  refine t_done ?_
  refine q_then_n (hK3 _ _ ?_)
  refine c_seq (fun K4 hK4 => ?_)
  refine c_region ?_
  refine tp rfl (lv_move rfl) ?_
  refine tc rfl (en_fn Try.call12 rfl) (hnew_ok ((n : Nat) : Int)) ?_
  rintro _ _ ⟨p1, rfl, rfl⟩
  rw [show hclamp ((n : Nat) : Int) = n from hcm]
  refine tp rfl (lv_assign rfl) ?_
  refine t_done ?_
  refine q_then_n (hK4 _ _ ?_)
  refine c_seq (fun K5 hK5 => ?_)
  refine c_seq (fun K6 hK6 => ?_)
  refine c_region ?_
  refine tp rfl (lv_move rfl) ?_
  refine tp rfl (lv_eqnil Try.underlying25 rfl rfl) ?_
  refine t_done ?_
  refine q_then_n (hK6 _ _ ?_)
  refine c_false rfl ?_
  refine c_skip ?_
  refine q_then_n (hK5 _ _ ?_)
  refine c_seq (fun K7 hK7 => ?_)
  refine c_seq (fun K8 hK8 => ?_)
  refine c_region ?_
  refine tp rfl (lv_assign rfl) ?_
  refine t_done ?_
  refine q_then_n (hK8 _ _ ?_)
  refine c_block ?_
  rw [show List.replicate (n) none = prtK (halK keys) n 0 from (prtK_zero ..).symm]
  refine c_loop (γ := (Nat)) (fun (i : Nat) => i ≤ n) (fun (i : Nat) => [(0, (.slice bkb keys.length ckb)), (1, (.slice bib ids.length cib)), (5, (.bool true)), (6, (.int .i64 ((n : Nat) : Int))), (7, (.pointer (some ⟨p1, 0, none⟩))), (8, (.int .i64 ((i : Nat) : Int))), (29, (.bool false))]) (fun (i : Nat) => (HeapO p1 n (prtK (halK keys) n i)) :: R) (fun (i : Nat) => n - i) (0) (by omega) ⟨rfl, rfl, rfl, rfl, rfl, rfl, rfl, trivial⟩ (fun _ h => h) ?_
  rintro i K9 hF hK9
  try dsimp only at hF hK9 ⊢
  refine c_seq (fun K10 hK10 => ?_)
  refine c_seq (fun K11 hK11 => ?_)
  refine c_region ?_
  refine tp rfl (lv_move rfl) ?_
  refine tp rfl (lv_move rfl) ?_
  by_cases h2 : ((i : Nat) : Int) < ((n : Nat) : Int)
  · -- yes
    refine tp rfl (lv_lss rfl rfl (decide_eq_true h2)) ?_
    refine t_done ?_
    refine q_then_n (hK11 _ _ ?_)
    refine c_true rfl ?_
    refine c_skip ?_
    refine q_then_n (hK10 _ _ ?_)
    refine c_seq (fun K12 hK12 => ?_)
    refine c_block ?_
    refine c_seq (fun K13 hK13 => ?_)
    refine c_region ?_
    have hpp := halK_push (keys := keys) (n := n) (i := i) (by omega) (by omega)
    refine tp rfl (lv_move rfl) ?_
    refine tp rfl (lv_move rfl) ?_
    refine tp rfl (lv_move rfl) ?_
    refine tp rfl (lv_move rfl) ?_
    refine tp rfl (lv_indexAddr (k' := i) Try.underlying22 Try.sizeOf3 rfl rfl okkb (by omega) (by omega) (by omega)) ?_
    refine tp rfl (lv_load Try.isAgg3 rfl (Rd.gives (Rd.cons hkb) (ints_get (by omega)))) ?_
    refine tp rfl (lv_shr (c := bShr .i64 ((keys).getD i 0) 1) rfl rfl (by omega) rfl) ?_
    refine tc rfl (en_fn Try.call13 rfl) (hpush_ok (n := n) (ks := prtK (halK keys) n i) ((i : Nat) : Int) (bShr .i64 ((keys).getD i 0) 1)) ?_
    rintro _ _ ⟨rfl, rfl⟩
    rw [show pushE (prtK (halK keys) n i) ((i : Nat) : Int) = 0 from hpp.1]
    rw [show pushK (prtK (halK keys) n i) ((i : Nat) : Int) (bShr .i64 (keys.getD i 0) 1) = prtK (halK keys) n (i + 1) from hpp.2]
    refine tp rfl (lv_neq (r := false) rfl rfl (by decide)) ?_
    refine t_done ?_
    refine q_then_n (hK13 _ _ ?_)
    refine c_false rfl ?_
    refine c_skip ?_
    refine q_in_n ?_
    refine q_then_n (hK12 _ _ ?_)
    refine c_region ?_
    refine tp rfl (lv_move rfl) ?_
    refine tp rfl (lv_add (c := ((i + 1 : Nat) : Int)) rfl rfl (wr_i64_succ (by omega))) ?_
    refine tp rfl (lv_assign rfl) ?_
    refine t_done ?_
    refine q_then_n ?_
    exact t_weak (by exact ⟨rfl, rfl, rfl, rfl, rfl, rfl, rfl, trivial⟩) ((hK9 (i + 1) (by omega) (by omega)))
  · -- no
    refine tp rfl (lv_lss rfl rfl (decide_eq_false h2)) ?_
    refine t_done ?_
    refine q_then_n (hK11 _ _ ?_)
    refine c_false rfl ?_
    refine c_exit ?_
    refine q_then_x ?_
    refine q_then_x ?_
    refine q_in_x ?_
    refine q_then_n (hK7 _ _ ?_)
    refine c_seq (fun K12 hK12 => ?_)
    refine c_region ?_
    rw [show prtK (halK keys) n i = leaK keys (List.replicate n 0) n from by rw [show i = n by omega]; exact prt_leaA (by omega)]
    have hkb := fun x hx => (hkn x hx).1
    refine tp rfl (lv_move rfl) ?_
    refine tm rfl (mv_makeSlice (i := Try.t3) Try.underlying22 Try.type3 rfl rfl rfl rfl rfl (by omega) (by rw [show Try.t3.bytes = 8 from rfl]; omega) (by omega)) ?_
    rintro _ _ ⟨bs3, cp4, hok5, hle6, rfl, rfl⟩
    rw [ints_rep]
    refine tp rfl (lv_assign rfl) ?_
    refine t_done ?_
    refine q_then_n (hK12 _ _ ?_)
    refine c_seq (fun K13 hK13 => ?_)
    refine c_region ?_
    refine tp rfl (lv_assign rfl) ?_
    refine t_done ?_
    refine q_then_n (hK13 _ _ ?_)
    refine c_seq (fun K14 hK14 => ?_)
    refine c_region ?_
    refine tp rfl (lv_assign rfl) ?_
    refine t_done ?_
    refine q_then_n (hK14 _ _ ?_)
    refine c_seq (fun K15 hK15 => ?_)
    refine c_seq (fun K16 hK16 => ?_)
    refine c_region ?_
    refine tp rfl (lv_assign rfl) ?_
    refine t_done ?_
    refine q_then_n (hK16 _ _ ?_)
    refine c_block ?_
    refine c_loop (γ := (Nat) × (List Int) × (Int)) (fun (t, at_, least) => t ≤ 60 ∧ AtN n at_ t ∧ least = -4611686018427387904 - (t : Int)) (fun (t, at_, least) => [(0, (.slice bkb keys.length ckb)), (1, (.slice bib ids.length cib)), (5, (.bool true)), (6, (.int .i64 ((n : Nat) : Int))), (7, (.pointer (some ⟨p1, 0, none⟩))), (8, (.int .i64 ((i : Nat) : Int))), (9, (.slice bs3 n cp4)), (10, (.int .i64 least)), (11, (.int .i64 ((t : Nat) : Int))), (12, (.int .i64 ((t : Nat) : Int))), (29, (.bool false)), (32, (.bool false))]) (fun (t, at_, least) => (SlV 3 1 (.slice bs3 n cp4) n (ints .i64 at_)) :: (HeapO p1 n (leaK keys at_ n)) :: R) (fun (t, at_, least) => 60 - t) (0, List.replicate n 0, (-4611686018427387904)) ⟨by omega, AtN.zero n, by omega⟩ ⟨rfl, rfl, rfl, rfl, rfl, rfl, rfl, rfl, rfl, rfl, rfl, rfl, trivial⟩ (fun _ h => h) ?_
    rintro ⟨t, at_, least⟩ K17 hF hK17
    try dsimp only at hF hK17 ⊢
    obtain ⟨ht, hat, hls⟩ := hF
    have hal := hat.len
    refine c_seq (fun K18 hK18 => ?_)
    refine c_seq (fun K19 hK19 => ?_)
    refine c_region ?_
    refine tp rfl (lv_move rfl) ?_
    by_cases h7 : ((n : Nat) : Int) > 0
    · -- yes
      refine tp rfl (lv_gtr rfl rfl (decide_eq_true h7)) ?_
      refine tp rfl (lv_move rfl) ?_
      refine t_guard rfl rfl ?_
      refine tp rfl (lv_move rfl) ?_
      refine t_guard rfl rfl ?_
      refine tp rfl (lv_move rfl) ?_
      refine t_guard rfl rfl ?_
      refine tp rfl (lv_len Try.underlying35 rfl rfl) ?_
      refine t_guard rfl rfl ?_
      by_cases h8 : ((t : Nat) : Int) < ((ids.length : Nat) : Int)
      · -- yes
        refine tp rfl (lv_lss rfl rfl (decide_eq_true h8)) ?_
        refine tp rfl (lv_pick_t rfl rfl) ?_
        refine tp rfl (lv_move rfl) ?_
        refine t_guard rfl rfl ?_
        refine tp rfl (lv_move rfl) ?_
        refine t_guard rfl rfl ?_
        by_cases h9 : ((t : Nat) : Int) < 60
        · -- yes
         refine tp rfl (lv_lss rfl rfl (decide_eq_true h9)) ?_
         refine tp rfl (lv_pick_t rfl rfl) ?_
         refine t_done ?_
         refine q_then_n (hK19 _ _ ?_)
         refine c_true rfl ?_
         refine c_skip ?_
         refine q_then_n (hK18 _ _ ?_)
         refine c_seq (fun K20 hK20 => ?_)
         refine c_block ?_
         refine c_seq (fun K21 hK21 => ?_)
         refine c_region ?_
         have hwib : 0 ≤ ids.getD t 0 ∧ ids.getD t 0 ≤ 255 := by have h9 := wfib (ids.getD t 0) (by simp [List.getD, show t < ids.length by omega]); simpa [Lit.wf, IntKind.min, IntKind.max, IntKind.signed, IntKind.bits] using h9
         have hq0 := Int.emod_nonneg (ids.getD t 0) (show ((n : Nat) : Int) ≠ 0 by omega)
         have hq1 := Int.emod_lt_of_pos (ids.getD t 0) (show 0 < ((n : Nat) : Int) by omega)
         obtain ⟨r0, hr0⟩ : ∃ k : Nat, ids.getD t 0 % ((n : Nat) : Int) = (k : Int) := ⟨(ids.getD t 0 % ((n : Nat) : Int)).toNat, by omega⟩
         have hrn : r0 < n := by omega
         refine tp rfl (lv_move rfl) ?_
         refine tp rfl (lv_move rfl) ?_
         refine tp rfl (lv_indexAddr (k' := t) Try.underlying35 Try.sizeOf5 rfl rfl okib (by omega) (by omega) (by omega)) ?_
         refine tp rfl (lv_load Try.isAgg5 rfl (Rd.gives (Rd.cons (Rd.cons hib)) (ints_get (by omega)))) ?_
         refine tp rfl (lv_convert (c := (ids).getD t 0) Try.underlying5 Try.underlying3 rfl (wr_i64 (by omega) (by omega))) ?_
         refine tp rfl (lv_move rfl) ?_
         refine tp rfl (lv_rem (c := ((r0 : Nat) : Int)) rfl rfl (by omega) ((Int.tmod_eq_emod_of_nonneg (by omega)).trans hr0)) ?_
         refine tp rfl (lv_assign rfl) ?_
         refine t_done ?_
         refine q_then_n (hK21 _ _ ?_)
         refine c_seq (fun K22 hK22 => ?_)
         refine c_region ?_
         refine tp rfl (lv_move rfl) ?_
         refine tp rfl (lv_sub (c := least - 1) rfl rfl (wr_i64 (by omega) (by omega))) ?_
         refine tp rfl (lv_assign rfl) ?_
         refine t_done ?_
         refine q_then_n (hK22 _ _ ?_)
         refine c_seq (fun K23 hK23 => ?_)
         refine c_region ?_
         refine tp rfl (lv_move rfl) ?_
         refine tp rfl (lv_add (c := ((t + 1 : Nat) : Int)) rfl rfl (wr_i64_succ (by omega))) ?_
         refine tp rfl (lv_assign rfl) ?_
         refine t_done ?_
         refine q_then_n (hK23 _ _ ?_)
         refine c_seq (fun K24 hK24 => ?_)
         refine c_region ?_
         refine tp rfl (lv_move rfl) ?_
         refine tp rfl (lv_move rfl) ?_
         refine tp rfl (lv_move rfl) ?_
         refine tp rfl (lv_indexAddr (k' := r0) Try.underlying22 Try.sizeOf3 rfl rfl hok5 (by omega) (by omega) (by omega)) ?_
         refine ts (sv_sl Try.sizeOf3 rfl rfl rfl (by rw [ints_length]; omega) ints_set) ?_
         refine t_done ?_
         refine q_then_n (hK24 _ _ ?_)
         refine c_seq (fun K25 hK25 => ?_)
         refine c_seq (fun K26 hK26 => ?_)
         refine c_region ?_
         have hlo : lowE (leaK keys at_ n) ((r0 : Nat) : Int) (least - 1) = 0 ∧ lowK (leaK keys at_ n) ((r0 : Nat) : Int) (least - 1) = leaK keys (at_.set r0 ((t + 1 : Nat) : Int)) n := by rw [show least - 1 = -4611686018427387904 - ((t : Int) + 1) by omega, show ((t + 1 : Nat) : Int) = (t : Int) + 1 by omega]; exact lea_low hat hkb hrn
         have hfi : fstI (leaK keys (at_.set r0 ((t + 1 : Nat) : Int)) n) = ((r0 : Nat) : Int) ∧ fstV (leaK keys (at_.set r0 ((t + 1 : Nat) : Int)) n) = least - 1 ∧ fstB (leaK keys (at_.set r0 ((t + 1 : Nat) : Int)) n) = true := by rw [show least - 1 = -4611686018427387904 - ((t : Int) + 1) by omega, show ((t + 1 : Nat) : Int) = (t : Int) + 1 by omega]; exact lea_first hat hkb hrn
         refine tp rfl (lv_move rfl) ?_
         refine tp rfl (lv_move rfl) ?_
         refine tp rfl (lv_move rfl) ?_
         refine t_f1 ?_
         refine tc rfl (en_fn Try.call16 rfl) (hlow_ok (n := n) (ks := leaK keys at_ n) ((r0 : Nat) : Int) (least - 1)) ?_
         rintro _ _ ⟨rfl, rfl⟩
         rw [show lowE (leaK keys at_ n) ((r0 : Nat) : Int) (least - 1) = 0 from hlo.1]
         rw [show lowK (leaK keys at_ n) ((r0 : Nat) : Int) (least - 1) = leaK keys (at_.set r0 ((t + 1 : Nat) : Int)) n from hlo.2]
         refine tp rfl (lv_neq (r := false) rfl rfl (by decide)) ?_
         refine t_done ?_
         refine q_then_n (hK26 _ _ ?_)
         refine c_false rfl ?_
         refine c_skip ?_
         refine q_then_n (hK25 _ _ ?_)
         refine c_seq (fun K27 hK27 => ?_)
         refine c_region ?_
         refine tp rfl (lv_move rfl) ?_
         refine tc rfl (en_fn Try.call19 rfl) (hfst_ok (n := n) (ks := leaK keys (at_.set r0 ((t + 1 : Nat) : Int)) n) ) ?_
         rintro _ _ ⟨rfl, rfl⟩
         rw [show fstI (leaK keys (at_.set r0 ((t + 1 : Nat) : Int)) n) = ((r0 : Nat) : Int) from hfi.1]
         rw [show fstV (leaK keys (at_.set r0 ((t + 1 : Nat) : Int)) n) = (least - 1) from hfi.2.1]
         rw [show fstB (leaK keys (at_.set r0 ((t + 1 : Nat) : Int)) n) = true from hfi.2.2]
         refine tp rfl (lv_move rfl) ?_
         refine tp rfl (lv_extract rfl rfl) ?_
         refine tp rfl (lv_extract rfl rfl) ?_
         refine tp rfl (lv_extract rfl rfl) ?_
         refine tp rfl (lv_assign rfl) ?_
         refine tp rfl (lv_assign rfl) ?_
         refine tp rfl (lv_assign rfl) ?_
         refine t_done ?_
         refine q_then_n (hK27 _ _ ?_)
         refine c_seq (fun K28 hK28 => ?_)
         refine c_region ?_
         refine tp rfl (lv_move rfl) ?_
         refine tp rfl (lv_move rfl) ?_
         refine tp rfl (lv_neq rfl rfl (bne_eq_false_iff_eq.2 (by omega))) ?_
         refine tp rfl (lv_move rfl) ?_
         refine t_guard rfl rfl ?_
         refine tp rfl (lv_move rfl) ?_
         refine t_guard rfl rfl ?_
         refine tp rfl (lv_move rfl) ?_
         refine t_guard rfl rfl ?_
         refine tp rfl (lv_neq rfl rfl (bne_eq_false_iff_eq.2 (by omega))) ?_
         refine tp rfl (lv_pick_f rfl rfl) ?_
         refine tp rfl (lv_move rfl) ?_
         refine t_guard rfl rfl ?_
         refine tp rfl (lv_move rfl) ?_
         refine t_guard rfl rfl ?_
         refine tp rfl (lv_not (c := false) rfl rfl) ?_
         refine tp rfl (lv_pick_f rfl rfl) ?_
         refine t_done ?_
         refine q_then_n (hK28 _ _ ?_)
         refine c_false rfl ?_
         refine c_skip ?_
         refine q_in_n ?_
         refine q_then_n (hK20 _ _ ?_)
         refine c_region ?_
         refine tp rfl (lv_move rfl) ?_
         refine tp rfl (lv_add (c := ((t + 1 : Nat) : Int)) rfl rfl (wr_i64_succ (by omega))) ?_
         refine tp rfl (lv_assign rfl) ?_
         refine t_done ?_
         refine q_then_n ?_
         refine t_f1 ?_
         exact t_weak (by exact ⟨rfl, rfl, rfl, rfl, rfl, rfl, rfl, rfl, rfl, rfl, rfl, rfl, trivial⟩) ((hK17 (t + 1, at_.set r0 ((t + 1 : Nat) : Int), (least - 1)) ⟨by omega, by dsimp only; rw [show ((t + 1 : Nat) : Int) = (t : Int) + 1 by omega]; exact hat.next hrn, by dsimp only; omega⟩ (by dsimp only; omega)))
        · -- no
         refine tp rfl (lv_lss rfl rfl (decide_eq_false h9)) ?_
         refine tp rfl (lv_pick_t rfl rfl) ?_
         refine t_done ?_
         refine q_then_n (hK19 _ _ ?_)
         refine c_false rfl ?_
         refine c_exit ?_
         refine q_then_x ?_
         refine q_then_x ?_
         refine q_in_x ?_
         refine q_then_n (hK15 _ _ ?_)
         refine c_seq (fun K20 hK20 => ?_)
         refine c_region ?_
         refine tp rfl (lv_move rfl) ?_
         refine tp rfl (lv_add (c := ((t + 1 : Nat) : Int)) rfl rfl (wr_i64_succ (by omega))) ?_
         refine tp rfl (lv_assign rfl) ?_
         refine t_done ?_
         refine q_then_n (hK20 _ _ ?_)
         refine c_seq (fun K21 hK21 => ?_)
         refine c_seq (fun K22 hK22 => ?_)
         refine c_region ?_
         refine tp rfl (lv_assign rfl) ?_
         refine t_done ?_
         refine q_then_n (hK22 _ _ ?_)
         refine c_block ?_
         have hal := hat.len
         rw [show leaK keys at_ n = lesK keys at_ (List.replicate n false) n from les_start]
         refine c_loop (γ := (Nat) × (List Bool) × (Int)) (fun (j, seen, last) => j ≤ n ∧ LesOk keys at_ n t seen last j) (fun (j, seen, last) => [(0, (.slice bkb keys.length ckb)), (1, (.slice bib ids.length cib)), (5, (.bool true)), (6, (.int .i64 ((n : Nat) : Int))), (7, (.pointer (some ⟨p1, 0, none⟩))), (8, (.int .i64 ((i : Nat) : Int))), (9, (.slice bs3 n cp4)), (10, (.int .i64 least)), (11, (.int .i64 ((t : Nat) : Int))), (12, (.int .i64 ((t : Nat) : Int))), (17, (.int .i64 last)), (18, (.int .i64 ((j : Nat) : Int))), (29, (.bool false)), (32, (.bool false)), (57, (.bool false))]) (fun (j, seen, last) => (SlV 3 1 (.slice bs3 n cp4) n (ints .i64 at_)) :: (HeapO p1 n (lesK keys at_ seen n)) :: R) (fun (j, seen, last) => n - j) (0, List.replicate n false, ((t + 1 : Nat) : Int)) ⟨by omega, by rw [show ((t + 1 : Nat) : Int) = (t : Int) + 1 by omega]; exact LesOk.start hat⟩ ⟨rfl, rfl, rfl, rfl, rfl, rfl, rfl, rfl, rfl, rfl, rfl, rfl, rfl, rfl, rfl, trivial⟩ (fun _ h => h) ?_
         rintro ⟨j, seen, last⟩ K23 hF hK23
         try dsimp only at hF hK23 ⊢
         obtain ⟨hj, hlo⟩ := hF
         refine c_seq (fun K24 hK24 => ?_)
         refine c_seq (fun K25 hK25 => ?_)
         refine c_region ?_
         refine tp rfl (lv_move rfl) ?_
         refine tp rfl (lv_move rfl) ?_
         by_cases h10 : ((j : Nat) : Int) < ((n : Nat) : Int)
         · -- yes
          refine tp rfl (lv_lss rfl rfl (decide_eq_true h10)) ?_
          refine t_done ?_
          refine q_then_n (hK25 _ _ ?_)
          refine c_true rfl ?_
          refine c_skip ?_
          refine q_then_n (hK24 _ _ ?_)
          refine c_seq (fun K26 hK26 => ?_)
          refine c_block ?_
          refine c_seq (fun K27 hK27 => ?_)
          refine c_region ?_
          obtain ⟨i0, hi0, e1, e2, e4, h5, h6, hnx⟩ := hlo.next hkb (show j < n by omega)
          refine tp rfl (lv_move rfl) ?_
          refine t_f1 ?_
          refine tc rfl (en_fn Try.call14 rfl) (hpop_ok (n := n) (ks := lesK keys at_ seen n) ) ?_
          rintro _ _ ⟨rfl, rfl⟩
          rw [show fstI (lesK keys at_ seen n) = ((i0 : Nat) : Int) from e1]
          rw [show fstB (lesK keys at_ seen n) = true from e2]
          rw [show popK (lesK keys at_ seen n) = lesK keys at_ (seen.set i0 true) n from e4]
          refine tp rfl (lv_move rfl) ?_
          refine tp rfl (lv_extract rfl rfl) ?_
          refine tp rfl (lv_extract rfl rfl) ?_
          refine tp rfl (lv_extract rfl rfl) ?_
          refine tp rfl (lv_assign rfl) ?_
          refine tp rfl (lv_assign rfl) ?_
          refine tp rfl (lv_assign rfl) ?_
          refine t_done ?_
          refine q_then_n (hK27 _ _ ?_)
          refine c_seq (fun K28 hK28 => ?_)
          refine c_seq (fun K29 hK29 => ?_)
          refine c_region ?_
          refine tp rfl (lv_move rfl) ?_
          refine tp rfl (lv_not (c := false) rfl rfl) ?_
          refine tp rfl (lv_move rfl) ?_
          refine t_guard rfl rfl ?_
          refine tp rfl (lv_move rfl) ?_
          refine t_guard rfl rfl ?_
          refine tp rfl (lv_move rfl) ?_
          refine t_guard rfl rfl ?_
          refine tp rfl (lv_indexAddr (k' := i0) Try.underlying22 Try.sizeOf3 rfl rfl hok5 (by omega) (by omega) (by omega)) ?_
          refine t_guard rfl rfl ?_
          refine tp rfl (lv_load Try.isAgg3 rfl (gives_sl (.tail _ (.head _)) (ints_get (by omega)))) ?_
          refine t_guard rfl rfl ?_
          refine tp rfl (lv_move rfl) ?_
          refine t_guard rfl rfl ?_
          by_cases h11 : ((at_).getD i0 0) ≥ last
          · -- yes
           refine tp rfl (lv_geq rfl rfl (decide_eq_true h11)) ?_
           refine t_guard rfl rfl ?_
           refine tp rfl (lv_move rfl) ?_
           refine t_guard rfl rfl ?_
           refine tp rfl (lv_move rfl) ?_
           refine t_guard rfl rfl ?_
           refine tp rfl (lv_gtr rfl rfl (decide_eq_false (by omega))) ?_
           refine t_guard rfl rfl ?_
           refine tp rfl (lv_pick_t rfl rfl) ?_
           refine tp rfl (lv_pick_f rfl rfl) ?_
           refine tp rfl (lv_move rfl) ?_
           refine t_guard rfl rfl ?_
           refine tp rfl (lv_move rfl) ?_
           refine t_guard rfl rfl ?_
           by_cases h12 : last = 0
           · -- yes
            refine tp rfl (lv_eql rfl rfl (beq_iff_eq.2 h12)) ?_
            refine t_guard rfl rfl ?_
            refine tp rfl (lv_move rfl) ?_
            refine t_guard rfl rfl ?_
            refine tp rfl (lv_move rfl) ?_
            refine t_guard rfl rfl ?_
            refine tp rfl (lv_move rfl) ?_
            refine t_guard rfl rfl ?_
            refine tp rfl (lv_indexAddr (k' := i0) Try.underlying22 Try.sizeOf3 rfl rfl hok5 (by omega) (by omega) (by omega)) ?_
            refine t_guard rfl rfl ?_
            refine tp rfl (lv_load Try.isAgg3 rfl (gives_sl (.tail _ (.head _)) (ints_get (by omega)))) ?_
            refine t_guard rfl rfl ?_
            refine tp rfl (lv_neq rfl rfl (bne_eq_false_iff_eq.2 (by omega))) ?_
            refine t_guard rfl rfl ?_
            refine tp rfl (lv_pick_t rfl rfl) ?_
            refine tp rfl (lv_pick_f rfl rfl) ?_
            refine t_done ?_
            refine q_then_n (hK29 _ _ ?_)
            refine c_false rfl ?_
            refine c_skip ?_
            refine q_then_n (hK28 _ _ ?_)
            refine c_region ?_
            refine tp rfl (lv_move rfl) ?_
            refine tp rfl (lv_move rfl) ?_
            refine tp rfl (lv_indexAddr (k' := i0) Try.underlying22 Try.sizeOf3 rfl rfl hok5 (by omega) (by omega) (by omega)) ?_
            refine tp rfl (lv_load Try.isAgg3 rfl (gives_sl (.tail _ (.head _)) (ints_get (by omega)))) ?_
            refine tp rfl (lv_assign rfl) ?_
            refine t_done ?_
            refine q_in_n ?_
            refine q_then_n (hK26 _ _ ?_)
            refine c_region ?_
            refine tp rfl (lv_move rfl) ?_
            refine tp rfl (lv_add (c := ((j + 1 : Nat) : Int)) rfl rfl (wr_i64_succ (by omega))) ?_
            refine tp rfl (lv_assign rfl) ?_
            refine t_done ?_
            refine q_then_n ?_
            refine t_f1 ?_
            exact t_weak (by exact ⟨rfl, rfl, rfl, rfl, rfl, rfl, rfl, rfl, rfl, rfl, rfl, rfl, rfl, rfl, rfl, trivial⟩) ((hK23 (j + 1, seen.set i0 true, (at_.getD i0 0)) ⟨by omega, hnx⟩ (by dsimp only; omega)))
           · -- no
            refine tp rfl (lv_eql rfl rfl (beq_eq_false_iff_ne.2 h12)) ?_
            refine t_guard rfl rfl ?_
            refine tp rfl (lv_move rfl) ?_
            refine t_skip rfl rfl rfl ?_
            refine t_skip rfl rfl rfl ?_
            refine t_skip rfl rfl rfl ?_
            refine t_skip rfl rfl rfl ?_
            refine t_skip rfl rfl rfl ?_
            refine t_guard rfl rfl ?_
            refine tp rfl (lv_pick_f rfl rfl) ?_
            refine tp rfl (lv_pick_f rfl rfl) ?_
            refine t_done ?_
            refine q_then_n (hK29 _ _ ?_)
            refine c_false rfl ?_
            refine c_skip ?_
            refine q_then_n (hK28 _ _ ?_)
            refine c_region ?_
            refine tp rfl (lv_move rfl) ?_
            refine tp rfl (lv_move rfl) ?_
            refine tp rfl (lv_indexAddr (k' := i0) Try.underlying22 Try.sizeOf3 rfl rfl hok5 (by omega) (by omega) (by omega)) ?_
            refine tp rfl (lv_load Try.isAgg3 rfl (gives_sl (.tail _ (.head _)) (ints_get (by omega)))) ?_
            refine tp rfl (lv_assign rfl) ?_
            refine t_done ?_
            refine q_in_n ?_
            refine q_then_n (hK26 _ _ ?_)
            refine c_region ?_
            refine tp rfl (lv_move rfl) ?_
            refine tp rfl (lv_add (c := ((j + 1 : Nat) : Int)) rfl rfl (wr_i64_succ (by omega))) ?_
            refine tp rfl (lv_assign rfl) ?_
            refine t_done ?_
            refine q_then_n ?_
            refine t_f1 ?_
            exact t_weak (by exact ⟨rfl, rfl, rfl, rfl, rfl, rfl, rfl, rfl, rfl, rfl, rfl, rfl, rfl, rfl, rfl, trivial⟩) ((hK23 (j + 1, seen.set i0 true, (at_.getD i0 0)) ⟨by omega, hnx⟩ (by dsimp only; omega)))
          · -- no
           refine tp rfl (lv_geq rfl rfl (decide_eq_false h11)) ?_
           refine t_guard rfl rfl ?_
           refine tp rfl (lv_move rfl) ?_
           refine t_skip rfl rfl rfl ?_
           refine t_skip rfl rfl rfl ?_
           refine t_guard rfl rfl ?_
           refine tp rfl (lv_pick_f rfl rfl) ?_
           refine tp rfl (lv_pick_f rfl rfl) ?_
           refine tp rfl (lv_move rfl) ?_
           refine t_guard rfl rfl ?_
           refine tp rfl (lv_move rfl) ?_
           refine t_guard rfl rfl ?_
           by_cases h13 : last = 0
           · -- yes
            refine tp rfl (lv_eql rfl rfl (beq_iff_eq.2 h13)) ?_
            refine t_guard rfl rfl ?_
            refine tp rfl (lv_move rfl) ?_
            refine t_guard rfl rfl ?_
            refine tp rfl (lv_move rfl) ?_
            refine t_guard rfl rfl ?_
            refine tp rfl (lv_move rfl) ?_
            refine t_guard rfl rfl ?_
            refine tp rfl (lv_indexAddr (k' := i0) Try.underlying22 Try.sizeOf3 rfl rfl hok5 (by omega) (by omega) (by omega)) ?_
            refine t_guard rfl rfl ?_
            refine tp rfl (lv_load Try.isAgg3 rfl (gives_sl (.tail _ (.head _)) (ints_get (by omega)))) ?_
            refine t_guard rfl rfl ?_
            refine tp rfl (lv_neq rfl rfl (bne_eq_false_iff_eq.2 (by omega))) ?_
            refine t_guard rfl rfl ?_
            refine tp rfl (lv_pick_t rfl rfl) ?_
            refine tp rfl (lv_pick_f rfl rfl) ?_
            refine t_done ?_
            refine q_then_n (hK29 _ _ ?_)
            refine c_false rfl ?_
            refine c_skip ?_
            refine q_then_n (hK28 _ _ ?_)
            refine c_region ?_
            refine tp rfl (lv_move rfl) ?_
            refine tp rfl (lv_move rfl) ?_
            refine tp rfl (lv_indexAddr (k' := i0) Try.underlying22 Try.sizeOf3 rfl rfl hok5 (by omega) (by omega) (by omega)) ?_
            refine tp rfl (lv_load Try.isAgg3 rfl (gives_sl (.tail _ (.head _)) (ints_get (by omega)))) ?_
            refine tp rfl (lv_assign rfl) ?_
            refine t_done ?_
            refine q_in_n ?_
            refine q_then_n (hK26 _ _ ?_)
            refine c_region ?_
            refine tp rfl (lv_move rfl) ?_
            refine tp rfl (lv_add (c := ((j + 1 : Nat) : Int)) rfl rfl (wr_i64_succ (by omega))) ?_
            refine tp rfl (lv_assign rfl) ?_
            refine t_done ?_
            refine q_then_n ?_
            refine t_f1 ?_
            exact t_weak (by exact ⟨rfl, rfl, rfl, rfl, rfl, rfl, rfl, rfl, rfl, rfl, rfl, rfl, rfl, rfl, rfl, trivial⟩) ((hK23 (j + 1, seen.set i0 true, (at_.getD i0 0)) ⟨by omega, hnx⟩ (by dsimp only; omega)))
           · -- no
            refine tp rfl (lv_eql rfl rfl (beq_eq_false_iff_ne.2 h13)) ?_
            refine t_guard rfl rfl ?_
            refine tp rfl (lv_move rfl) ?_
            refine t_skip rfl rfl rfl ?_
            refine t_skip rfl rfl rfl ?_
            refine t_skip rfl rfl rfl ?_
            refine t_skip rfl rfl rfl ?_
            refine t_skip rfl rfl rfl ?_
            refine t_guard rfl rfl ?_
            refine tp rfl (lv_pick_f rfl rfl) ?_
            refine tp rfl (lv_pick_f rfl rfl) ?_
            refine t_done ?_
            refine q_then_n (hK29 _ _ ?_)
            refine c_false rfl ?_
            refine c_skip ?_
            refine q_then_n (hK28 _ _ ?_)
            refine c_region ?_
            refine tp rfl (lv_move rfl) ?_
            refine tp rfl (lv_move rfl) ?_
            refine tp rfl (lv_indexAddr (k' := i0) Try.underlying22 Try.sizeOf3 rfl rfl hok5 (by omega) (by omega) (by omega)) ?_
            refine tp rfl (lv_load Try.isAgg3 rfl (gives_sl (.tail _ (.head _)) (ints_get (by omega)))) ?_
            refine tp rfl (lv_assign rfl) ?_
            refine t_done ?_
            refine q_in_n ?_
            refine q_then_n (hK26 _ _ ?_)
            refine c_region ?_
            refine tp rfl (lv_move rfl) ?_
            refine tp rfl (lv_add (c := ((j + 1 : Nat) : Int)) rfl rfl (wr_i64_succ (by omega))) ?_
            refine tp rfl (lv_assign rfl) ?_
            refine t_done ?_
            refine q_then_n ?_
            refine t_f1 ?_
            exact t_weak (by exact ⟨rfl, rfl, rfl, rfl, rfl, rfl, rfl, rfl, rfl, rfl, rfl, rfl, rfl, rfl, rfl, trivial⟩) ((hK23 (j + 1, seen.set i0 true, (at_.getD i0 0)) ⟨by omega, hnx⟩ (by dsimp only; omega)))
         · -- no
          refine tp rfl (lv_lss rfl rfl (decide_eq_false h10)) ?_
          refine t_done ?_
          refine q_then_n (hK25 _ _ ?_)
          refine c_false rfl ?_
          refine c_exit ?_
          refine q_then_x ?_
          refine q_then_x ?_
          refine q_in_x ?_
          refine q_then_n (hK21 _ _ ?_)
          refine c_seq (fun K26 hK26 => ?_)
          refine c_region ?_
          refine tp rfl (lv_move rfl) ?_
          refine tp rfl (lv_assign rfl) ?_
          refine t_done ?_
          refine q_then_n (hK26 _ _ ?_)
          refine c_ret ?_
          refine t_drop ?_
          refine t_drop ?_
          refine q_ret rfl rfl ?_
          exact ⟨rfl, rfl⟩
      · -- no
        refine tp rfl (lv_lss rfl rfl (decide_eq_false h8)) ?_
        refine tp rfl (lv_pick_t rfl rfl) ?_
        refine tp rfl (lv_move rfl) ?_
        refine t_skip rfl rfl rfl ?_
        refine t_skip rfl rfl rfl ?_
        refine tp rfl (lv_pick_f rfl rfl) ?_
        refine t_done ?_
        refine q_then_n (hK19 _ _ ?_)
        refine c_false rfl ?_
        refine c_exit ?_
        refine q_then_x ?_
        refine q_then_x ?_
        refine q_in_x ?_
        refine q_then_n (hK15 _ _ ?_)
        refine c_seq (fun K20 hK20 => ?_)
        refine c_region ?_
        refine tp rfl (lv_move rfl) ?_
        refine tp rfl (lv_add (c := ((t + 1 : Nat) : Int)) rfl rfl (wr_i64_succ (by omega))) ?_
        refine tp rfl (lv_assign rfl) ?_
        refine t_done ?_
        refine q_then_n (hK20 _ _ ?_)
        refine c_seq (fun K21 hK21 => ?_)
        refine c_seq (fun K22 hK22 => ?_)
        refine c_region ?_
        refine tp rfl (lv_assign rfl) ?_
        refine t_done ?_
        refine q_then_n (hK22 _ _ ?_)
        refine c_block ?_
        have hal := hat.len
        rw [show leaK keys at_ n = lesK keys at_ (List.replicate n false) n from les_start]
        refine c_loop (γ := (Nat) × (List Bool) × (Int)) (fun (j, seen, last) => j ≤ n ∧ LesOk keys at_ n t seen last j) (fun (j, seen, last) => [(0, (.slice bkb keys.length ckb)), (1, (.slice bib ids.length cib)), (5, (.bool true)), (6, (.int .i64 ((n : Nat) : Int))), (7, (.pointer (some ⟨p1, 0, none⟩))), (8, (.int .i64 ((i : Nat) : Int))), (9, (.slice bs3 n cp4)), (10, (.int .i64 least)), (11, (.int .i64 ((t : Nat) : Int))), (12, (.int .i64 ((t : Nat) : Int))), (17, (.int .i64 last)), (18, (.int .i64 ((j : Nat) : Int))), (29, (.bool false)), (32, (.bool false)), (57, (.bool false))]) (fun (j, seen, last) => (SlV 3 1 (.slice bs3 n cp4) n (ints .i64 at_)) :: (HeapO p1 n (lesK keys at_ seen n)) :: R) (fun (j, seen, last) => n - j) (0, List.replicate n false, ((t + 1 : Nat) : Int)) ⟨by omega, by rw [show ((t + 1 : Nat) : Int) = (t : Int) + 1 by omega]; exact LesOk.start hat⟩ ⟨rfl, rfl, rfl, rfl, rfl, rfl, rfl, rfl, rfl, rfl, rfl, rfl, rfl, rfl, rfl, trivial⟩ (fun _ h => h) ?_
        rintro ⟨j, seen, last⟩ K23 hF hK23
        try dsimp only at hF hK23 ⊢
        obtain ⟨hj, hlo⟩ := hF
        refine c_seq (fun K24 hK24 => ?_)
        refine c_seq (fun K25 hK25 => ?_)
        refine c_region ?_
        refine tp rfl (lv_move rfl) ?_
        refine tp rfl (lv_move rfl) ?_
        by_cases h14 : ((j : Nat) : Int) < ((n : Nat) : Int)
        · -- yes
         refine tp rfl (lv_lss rfl rfl (decide_eq_true h14)) ?_
         refine t_done ?_
         refine q_then_n (hK25 _ _ ?_)
         refine c_true rfl ?_
         refine c_skip ?_
         refine q_then_n (hK24 _ _ ?_)
         refine c_seq (fun K26 hK26 => ?_)
         refine c_block ?_
         refine c_seq (fun K27 hK27 => ?_)
         refine c_region ?_
         obtain ⟨i0, hi0, e1, e2, e4, h5, h6, hnx⟩ := hlo.next hkb (show j < n by omega)
         refine tp rfl (lv_move rfl) ?_
         refine t_f1 ?_
         refine tc rfl (en_fn Try.call14 rfl) (hpop_ok (n := n) (ks := lesK keys at_ seen n) ) ?_
         rintro _ _ ⟨rfl, rfl⟩
         rw [show fstI (lesK keys at_ seen n) = ((i0 : Nat) : Int) from e1]
         rw [show fstB (lesK keys at_ seen n) = true from e2]
         rw [show popK (lesK keys at_ seen n) = lesK keys at_ (seen.set i0 true) n from e4]
         refine tp rfl (lv_move rfl) ?_
         refine tp rfl (lv_extract rfl rfl) ?_
         refine tp rfl (lv_extract rfl rfl) ?_
         refine tp rfl (lv_extract rfl rfl) ?_
         refine tp rfl (lv_assign rfl) ?_
         refine tp rfl (lv_assign rfl) ?_
         refine tp rfl (lv_assign rfl) ?_
         refine t_done ?_
         refine q_then_n (hK27 _ _ ?_)
         refine c_seq (fun K28 hK28 => ?_)
         refine c_seq (fun K29 hK29 => ?_)
         refine c_region ?_
         refine tp rfl (lv_move rfl) ?_
         refine tp rfl (lv_not (c := false) rfl rfl) ?_
         refine tp rfl (lv_move rfl) ?_
         refine t_guard rfl rfl ?_
         refine tp rfl (lv_move rfl) ?_
         refine t_guard rfl rfl ?_
         refine tp rfl (lv_move rfl) ?_
         refine t_guard rfl rfl ?_
         refine tp rfl (lv_indexAddr (k' := i0) Try.underlying22 Try.sizeOf3 rfl rfl hok5 (by omega) (by omega) (by omega)) ?_
         refine t_guard rfl rfl ?_
         refine tp rfl (lv_load Try.isAgg3 rfl (gives_sl (.tail _ (.head _)) (ints_get (by omega)))) ?_
         refine t_guard rfl rfl ?_
         refine tp rfl (lv_move rfl) ?_
         refine t_guard rfl rfl ?_
         by_cases h15 : ((at_).getD i0 0) ≥ last
         · -- yes
          refine tp rfl (lv_geq rfl rfl (decide_eq_true h15)) ?_
          refine t_guard rfl rfl ?_
          refine tp rfl (lv_move rfl) ?_
          refine t_guard rfl rfl ?_
          refine tp rfl (lv_move rfl) ?_
          refine t_guard rfl rfl ?_
          refine tp rfl (lv_gtr rfl rfl (decide_eq_false (by omega))) ?_
          refine t_guard rfl rfl ?_
          refine tp rfl (lv_pick_t rfl rfl) ?_
          refine tp rfl (lv_pick_f rfl rfl) ?_
          refine tp rfl (lv_move rfl) ?_
          refine t_guard rfl rfl ?_
          refine tp rfl (lv_move rfl) ?_
          refine t_guard rfl rfl ?_
          by_cases h16 : last = 0
          · -- yes
           refine tp rfl (lv_eql rfl rfl (beq_iff_eq.2 h16)) ?_
           refine t_guard rfl rfl ?_
           refine tp rfl (lv_move rfl) ?_
           refine t_guard rfl rfl ?_
           refine tp rfl (lv_move rfl) ?_
           refine t_guard rfl rfl ?_
           refine tp rfl (lv_move rfl) ?_
           refine t_guard rfl rfl ?_
           refine tp rfl (lv_indexAddr (k' := i0) Try.underlying22 Try.sizeOf3 rfl rfl hok5 (by omega) (by omega) (by omega)) ?_
           refine t_guard rfl rfl ?_
           refine tp rfl (lv_load Try.isAgg3 rfl (gives_sl (.tail _ (.head _)) (ints_get (by omega)))) ?_
           refine t_guard rfl rfl ?_
           refine tp rfl (lv_neq rfl rfl (bne_eq_false_iff_eq.2 (by omega))) ?_
           refine t_guard rfl rfl ?_
           refine tp rfl (lv_pick_t rfl rfl) ?_
           refine tp rfl (lv_pick_f rfl rfl) ?_
           refine t_done ?_
           refine q_then_n (hK29 _ _ ?_)
           refine c_false rfl ?_
           refine c_skip ?_
           refine q_then_n (hK28 _ _ ?_)
           refine c_region ?_
           refine tp rfl (lv_move rfl) ?_
           refine tp rfl (lv_move rfl) ?_
           refine tp rfl (lv_indexAddr (k' := i0) Try.underlying22 Try.sizeOf3 rfl rfl hok5 (by omega) (by omega) (by omega)) ?_
           refine tp rfl (lv_load Try.isAgg3 rfl (gives_sl (.tail _ (.head _)) (ints_get (by omega)))) ?_
           refine tp rfl (lv_assign rfl) ?_
           refine t_done ?_
           refine q_in_n ?_
           refine q_then_n (hK26 _ _ ?_)
           refine c_region ?_
           refine tp rfl (lv_move rfl) ?_
           refine tp rfl (lv_add (c := ((j + 1 : Nat) : Int)) rfl rfl (wr_i64_succ (by omega))) ?_
           refine tp rfl (lv_assign rfl) ?_
           refine t_done ?_
           refine q_then_n ?_
           refine t_f1 ?_
           exact t_weak (by exact ⟨rfl, rfl, rfl, rfl, rfl, rfl, rfl, rfl, rfl, rfl, rfl, rfl, rfl, rfl, rfl, trivial⟩) ((hK23 (j + 1, seen.set i0 true, (at_.getD i0 0)) ⟨by omega, hnx⟩ (by dsimp only; omega)))
          · -- no
           refine tp rfl (lv_eql rfl rfl (beq_eq_false_iff_ne.2 h16)) ?_
           refine t_guard rfl rfl ?_
           refine tp rfl (lv_move rfl) ?_
           refine t_skip rfl rfl rfl ?_
           refine t_skip rfl rfl rfl ?_
           refine t_skip rfl rfl rfl ?_
           refine t_skip rfl rfl rfl ?_
           refine t_skip rfl rfl rfl ?_
           refine t_guard rfl rfl ?_
           refine tp rfl (lv_pick_f rfl rfl) ?_
           refine tp rfl (lv_pick_f rfl rfl) ?_
           refine t_done ?_
           refine q_then_n (hK29 _ _ ?_)
           refine c_false rfl ?_
           refine c_skip ?_
           refine q_then_n (hK28 _ _ ?_)
           refine c_region ?_
           refine tp rfl (lv_move rfl) ?_
           refine tp rfl (lv_move rfl) ?_
           refine tp rfl (lv_indexAddr (k' := i0) Try.underlying22 Try.sizeOf3 rfl rfl hok5 (by omega) (by omega) (by omega)) ?_
           refine tp rfl (lv_load Try.isAgg3 rfl (gives_sl (.tail _ (.head _)) (ints_get (by omega)))) ?_
           refine tp rfl (lv_assign rfl) ?_
           refine t_done ?_
           refine q_in_n ?_
           refine q_then_n (hK26 _ _ ?_)
           refine c_region ?_
           refine tp rfl (lv_move rfl) ?_
           refine tp rfl (lv_add (c := ((j + 1 : Nat) : Int)) rfl rfl (wr_i64_succ (by omega))) ?_
           refine tp rfl (lv_assign rfl) ?_
           refine t_done ?_
           refine q_then_n ?_
           refine t_f1 ?_
           exact t_weak (by exact ⟨rfl, rfl, rfl, rfl, rfl, rfl, rfl, rfl, rfl, rfl, rfl, rfl, rfl, rfl, rfl, trivial⟩) ((hK23 (j + 1, seen.set i0 true, (at_.getD i0 0)) ⟨by omega, hnx⟩ (by dsimp only; omega)))
         · -- no
          refine tp rfl (lv_geq rfl rfl (decide_eq_false h15)) ?_
          refine t_guard rfl rfl ?_
          refine tp rfl (lv_move rfl) ?_
          refine t_skip rfl rfl rfl ?_
          refine t_skip rfl rfl rfl ?_
          refine t_guard rfl rfl ?_
          refine tp rfl (lv_pick_f rfl rfl) ?_
          refine tp rfl (lv_pick_f rfl rfl) ?_
          refine tp rfl (lv_move rfl) ?_
          refine t_guard rfl rfl ?_
          refine tp rfl (lv_move rfl) ?_
          refine t_guard rfl rfl ?_
          by_cases h17 : last = 0
          · -- yes
           refine tp rfl (lv_eql rfl rfl (beq_iff_eq.2 h17)) ?_
           refine t_guard rfl rfl ?_
           refine tp rfl (lv_move rfl) ?_
           refine t_guard rfl rfl ?_
           refine tp rfl (lv_move rfl) ?_
           refine t_guard rfl rfl ?_
           refine tp rfl (lv_move rfl) ?_
           refine t_guard rfl rfl ?_
           refine tp rfl (lv_indexAddr (k' := i0) Try.underlying22 Try.sizeOf3 rfl rfl hok5 (by omega) (by omega) (by omega)) ?_
           refine t_guard rfl rfl ?_
           refine tp rfl (lv_load Try.isAgg3 rfl (gives_sl (.tail _ (.head _)) (ints_get (by omega)))) ?_
           refine t_guard rfl rfl ?_
           refine tp rfl (lv_neq rfl rfl (bne_eq_false_iff_eq.2 (by omega))) ?_
           refine t_guard rfl rfl ?_
           refine tp rfl (lv_pick_t rfl rfl) ?_
           refine tp rfl (lv_pick_f rfl rfl) ?_
           refine t_done ?_
           refine q_then_n (hK29 _ _ ?_)
           refine c_false rfl ?_
           refine c_skip ?_
           refine q_then_n (hK28 _ _ ?_)
           refine c_region ?_
           refine tp rfl (lv_move rfl) ?_
           refine tp rfl (lv_move rfl) ?_
           refine tp rfl (lv_indexAddr (k' := i0) Try.underlying22 Try.sizeOf3 rfl rfl hok5 (by omega) (by omega) (by omega)) ?_
           refine tp rfl (lv_load Try.isAgg3 rfl (gives_sl (.tail _ (.head _)) (ints_get (by omega)))) ?_
           refine tp rfl (lv_assign rfl) ?_
           refine t_done ?_
           refine q_in_n ?_
           refine q_then_n (hK26 _ _ ?_)
           refine c_region ?_
           refine tp rfl (lv_move rfl) ?_
           refine tp rfl (lv_add (c := ((j + 1 : Nat) : Int)) rfl rfl (wr_i64_succ (by omega))) ?_
           refine tp rfl (lv_assign rfl) ?_
           refine t_done ?_
           refine q_then_n ?_
           refine t_f1 ?_
           exact t_weak (by exact ⟨rfl, rfl, rfl, rfl, rfl, rfl, rfl, rfl, rfl, rfl, rfl, rfl, rfl, rfl, rfl, trivial⟩) ((hK23 (j + 1, seen.set i0 true, (at_.getD i0 0)) ⟨by omega, hnx⟩ (by dsimp only; omega)))
          · -- no
           refine tp rfl (lv_eql rfl rfl (beq_eq_false_iff_ne.2 h17)) ?_
           refine t_guard rfl rfl ?_
           refine tp rfl (lv_move rfl) ?_
           refine t_skip rfl rfl rfl ?_
           refine t_skip rfl rfl rfl ?_
           refine t_skip rfl rfl rfl ?_
           refine t_skip rfl rfl rfl ?_
           refine t_skip rfl rfl rfl ?_
           refine t_guard rfl rfl ?_
           refine tp rfl (lv_pick_f rfl rfl) ?_
           refine tp rfl (lv_pick_f rfl rfl) ?_
           refine t_done ?_
           refine q_then_n (hK29 _ _ ?_)
           refine c_false rfl ?_
           refine c_skip ?_
           refine q_then_n (hK28 _ _ ?_)
           refine c_region ?_
           refine tp rfl (lv_move rfl) ?_
           refine tp rfl (lv_move rfl) ?_
           refine tp rfl (lv_indexAddr (k' := i0) Try.underlying22 Try.sizeOf3 rfl rfl hok5 (by omega) (by omega) (by omega)) ?_
           refine tp rfl (lv_load Try.isAgg3 rfl (gives_sl (.tail _ (.head _)) (ints_get (by omega)))) ?_
           refine tp rfl (lv_assign rfl) ?_
           refine t_done ?_
           refine q_in_n ?_
           refine q_then_n (hK26 _ _ ?_)
           refine c_region ?_
           refine tp rfl (lv_move rfl) ?_
           refine tp rfl (lv_add (c := ((j + 1 : Nat) : Int)) rfl rfl (wr_i64_succ (by omega))) ?_
           refine tp rfl (lv_assign rfl) ?_
           refine t_done ?_
           refine q_then_n ?_
           refine t_f1 ?_
           exact t_weak (by exact ⟨rfl, rfl, rfl, rfl, rfl, rfl, rfl, rfl, rfl, rfl, rfl, rfl, rfl, rfl, rfl, trivial⟩) ((hK23 (j + 1, seen.set i0 true, (at_.getD i0 0)) ⟨by omega, hnx⟩ (by dsimp only; omega)))
        · -- no
         refine tp rfl (lv_lss rfl rfl (decide_eq_false h14)) ?_
         refine t_done ?_
         refine q_then_n (hK25 _ _ ?_)
         refine c_false rfl ?_
         refine c_exit ?_
         refine q_then_x ?_
         refine q_then_x ?_
         refine q_in_x ?_
         refine q_then_n (hK21 _ _ ?_)
         refine c_seq (fun K26 hK26 => ?_)
         refine c_region ?_
         refine tp rfl (lv_move rfl) ?_
         refine tp rfl (lv_assign rfl) ?_
         refine t_done ?_
         refine q_then_n (hK26 _ _ ?_)
         refine c_ret ?_
         refine t_drop ?_
         refine t_drop ?_
         refine q_ret rfl rfl ?_
         exact ⟨rfl, rfl⟩
    · -- no
      refine tp rfl (lv_gtr rfl rfl (decide_eq_false h7)) ?_
      refine tp rfl (lv_move rfl) ?_
      refine t_skip rfl rfl rfl ?_
      refine t_skip rfl rfl rfl ?_
      refine t_skip rfl rfl rfl ?_
      refine t_skip rfl rfl rfl ?_
      refine tp rfl (lv_pick_f rfl rfl) ?_
      refine tp rfl (lv_move rfl) ?_
      refine t_skip rfl rfl rfl ?_
      refine t_skip rfl rfl rfl ?_
      refine tp rfl (lv_pick_f rfl rfl) ?_
      refine t_done ?_
      refine q_then_n (hK19 _ _ ?_)
      refine c_false rfl ?_
      refine c_exit ?_
      refine q_then_x ?_
      refine q_then_x ?_
      refine q_in_x ?_
      refine q_then_n (hK15 _ _ ?_)
      refine c_seq (fun K20 hK20 => ?_)
      refine c_region ?_
      refine tp rfl (lv_move rfl) ?_
      refine tp rfl (lv_add (c := ((t + 1 : Nat) : Int)) rfl rfl (wr_i64_succ (by omega))) ?_
      refine tp rfl (lv_assign rfl) ?_
      refine t_done ?_
      refine q_then_n (hK20 _ _ ?_)
      refine c_seq (fun K21 hK21 => ?_)
      refine c_seq (fun K22 hK22 => ?_)
      refine c_region ?_
      refine tp rfl (lv_assign rfl) ?_
      refine t_done ?_
      refine q_then_n (hK22 _ _ ?_)
      refine c_block ?_
      have hal := hat.len
      rw [show leaK keys at_ n = lesK keys at_ (List.replicate n false) n from les_start]
      refine c_loop (γ := (Nat) × (List Bool) × (Int)) (fun (j, seen, last) => j ≤ n ∧ LesOk keys at_ n t seen last j) (fun (j, seen, last) => [(0, (.slice bkb keys.length ckb)), (1, (.slice bib ids.length cib)), (5, (.bool true)), (6, (.int .i64 ((n : Nat) : Int))), (7, (.pointer (some ⟨p1, 0, none⟩))), (8, (.int .i64 ((i : Nat) : Int))), (9, (.slice bs3 n cp4)), (10, (.int .i64 least)), (11, (.int .i64 ((t : Nat) : Int))), (12, (.int .i64 ((t : Nat) : Int))), (17, (.int .i64 last)), (18, (.int .i64 ((j : Nat) : Int))), (29, (.bool false)), (32, (.bool false)), (57, (.bool false))]) (fun (j, seen, last) => (SlV 3 1 (.slice bs3 n cp4) n (ints .i64 at_)) :: (HeapO p1 n (lesK keys at_ seen n)) :: R) (fun (j, seen, last) => n - j) (0, List.replicate n false, ((t + 1 : Nat) : Int)) ⟨by omega, by rw [show ((t + 1 : Nat) : Int) = (t : Int) + 1 by omega]; exact LesOk.start hat⟩ ⟨rfl, rfl, rfl, rfl, rfl, rfl, rfl, rfl, rfl, rfl, rfl, rfl, rfl, rfl, rfl, trivial⟩ (fun _ h => h) ?_
      rintro ⟨j, seen, last⟩ K23 hF hK23
      try dsimp only at hF hK23 ⊢
      obtain ⟨hj, hlo⟩ := hF
      refine c_seq (fun K24 hK24 => ?_)
      refine c_seq (fun K25 hK25 => ?_)
      refine c_region ?_
      refine tp rfl (lv_move rfl) ?_
      refine tp rfl (lv_move rfl) ?_
      by_cases h18 : ((j : Nat) : Int) < ((n : Nat) : Int)
      · -- yes
        refine tp rfl (lv_lss rfl rfl (decide_eq_true h18)) ?_
        refine t_done ?_
        refine q_then_n (hK25 _ _ ?_)
        refine c_true rfl ?_
        refine c_skip ?_
        refine q_then_n (hK24 _ _ ?_)
        refine c_seq (fun K26 hK26 => ?_)
        refine c_block ?_
        refine c_seq (fun K27 hK27 => ?_)
        refine c_region ?_
        obtain ⟨i0, hi0, e1, e2, e4, h5, h6, hnx⟩ := hlo.next hkb (show j < n by omega)
        refine tp rfl (lv_move rfl) ?_
        refine t_f1 ?_
        refine tc rfl (en_fn Try.call14 rfl) (hpop_ok (n := n) (ks := lesK keys at_ seen n) ) ?_
        rintro _ _ ⟨rfl, rfl⟩
        rw [show fstI (lesK keys at_ seen n) = ((i0 : Nat) : Int) from e1]
        rw [show fstB (lesK keys at_ seen n) = true from e2]
        rw [show popK (lesK keys at_ seen n) = lesK keys at_ (seen.set i0 true) n from e4]
        refine tp rfl (lv_move rfl) ?_
        refine tp rfl (lv_extract rfl rfl) ?_
        refine tp rfl (lv_extract rfl rfl) ?_
        refine tp rfl (lv_extract rfl rfl) ?_
        refine tp rfl (lv_assign rfl) ?_
        refine tp rfl (lv_assign rfl) ?_
        refine tp rfl (lv_assign rfl) ?_
        refine t_done ?_
        refine q_then_n (hK27 _ _ ?_)
        refine c_seq (fun K28 hK28 => ?_)
        refine c_seq (fun K29 hK29 => ?_)
        refine c_region ?_
        refine tp rfl (lv_move rfl) ?_
        refine tp rfl (lv_not (c := false) rfl rfl) ?_
        refine tp rfl (lv_move rfl) ?_
        refine t_guard rfl rfl ?_
        refine tp rfl (lv_move rfl) ?_
        refine t_guard rfl rfl ?_
        refine tp rfl (lv_move rfl) ?_
        refine t_guard rfl rfl ?_
        refine tp rfl (lv_indexAddr (k' := i0) Try.underlying22 Try.sizeOf3 rfl rfl hok5 (by omega) (by omega) (by omega)) ?_
        refine t_guard rfl rfl ?_
        refine tp rfl (lv_load Try.isAgg3 rfl (gives_sl (.tail _ (.head _)) (ints_get (by omega)))) ?_
        refine t_guard rfl rfl ?_
        refine tp rfl (lv_move rfl) ?_
        refine t_guard rfl rfl ?_
        by_cases h19 : ((at_).getD i0 0) ≥ last
        · -- yes
         refine tp rfl (lv_geq rfl rfl (decide_eq_true h19)) ?_
         refine t_guard rfl rfl ?_
         refine tp rfl (lv_move rfl) ?_
         refine t_guard rfl rfl ?_
         refine tp rfl (lv_move rfl) ?_
         refine t_guard rfl rfl ?_
         refine tp rfl (lv_gtr rfl rfl (decide_eq_false (by omega))) ?_
         refine t_guard rfl rfl ?_
         refine tp rfl (lv_pick_t rfl rfl) ?_
         refine tp rfl (lv_pick_f rfl rfl) ?_
         refine tp rfl (lv_move rfl) ?_
         refine t_guard rfl rfl ?_
         refine tp rfl (lv_move rfl) ?_
         refine t_guard rfl rfl ?_
         by_cases h20 : last = 0
         · -- yes
          refine tp rfl (lv_eql rfl rfl (beq_iff_eq.2 h20)) ?_
          refine t_guard rfl rfl ?_
          refine tp rfl (lv_move rfl) ?_
          refine t_guard rfl rfl ?_
          refine tp rfl (lv_move rfl) ?_
          refine t_guard rfl rfl ?_
          refine tp rfl (lv_move rfl) ?_
          refine t_guard rfl rfl ?_
          refine tp rfl (lv_indexAddr (k' := i0) Try.underlying22 Try.sizeOf3 rfl rfl hok5 (by omega) (by omega) (by omega)) ?_
          refine t_guard rfl rfl ?_
          refine tp rfl (lv_load Try.isAgg3 rfl (gives_sl (.tail _ (.head _)) (ints_get (by omega)))) ?_
          refine t_guard rfl rfl ?_
          refine tp rfl (lv_neq rfl rfl (bne_eq_false_iff_eq.2 (by omega))) ?_
          refine t_guard rfl rfl ?_
          refine tp rfl (lv_pick_t rfl rfl) ?_
          refine tp rfl (lv_pick_f rfl rfl) ?_
          refine t_done ?_
          refine q_then_n (hK29 _ _ ?_)
          refine c_false rfl ?_
          refine c_skip ?_
          refine q_then_n (hK28 _ _ ?_)
          refine c_region ?_
          refine tp rfl (lv_move rfl) ?_
          refine tp rfl (lv_move rfl) ?_
          refine tp rfl (lv_indexAddr (k' := i0) Try.underlying22 Try.sizeOf3 rfl rfl hok5 (by omega) (by omega) (by omega)) ?_
          refine tp rfl (lv_load Try.isAgg3 rfl (gives_sl (.tail _ (.head _)) (ints_get (by omega)))) ?_
          refine tp rfl (lv_assign rfl) ?_
          refine t_done ?_
          refine q_in_n ?_
          refine q_then_n (hK26 _ _ ?_)
          refine c_region ?_
          refine tp rfl (lv_move rfl) ?_
          refine tp rfl (lv_add (c := ((j + 1 : Nat) : Int)) rfl rfl (wr_i64_succ (by omega))) ?_
          refine tp rfl (lv_assign rfl) ?_
          refine t_done ?_
          refine q_then_n ?_
          refine t_f1 ?_
          exact t_weak (by exact ⟨rfl, rfl, rfl, rfl, rfl, rfl, rfl, rfl, rfl, rfl, rfl, rfl, rfl, rfl, rfl, trivial⟩) ((hK23 (j + 1, seen.set i0 true, (at_.getD i0 0)) ⟨by omega, hnx⟩ (by dsimp only; omega)))
         · -- no
          refine tp rfl (lv_eql rfl rfl (beq_eq_false_iff_ne.2 h20)) ?_
          refine t_guard rfl rfl ?_
          refine tp rfl (lv_move rfl) ?_
          refine t_skip rfl rfl rfl ?_
          refine t_skip rfl rfl rfl ?_
          refine t_skip rfl rfl rfl ?_
          refine t_skip rfl rfl rfl ?_
          refine t_skip rfl rfl rfl ?_
          refine t_guard rfl rfl ?_
          refine tp rfl (lv_pick_f rfl rfl) ?_
          refine tp rfl (lv_pick_f rfl rfl) ?_
          refine t_done ?_
          refine q_then_n (hK29 _ _ ?_)
          refine c_false rfl ?_
          refine c_skip ?_
          refine q_then_n (hK28 _ _ ?_)
          refine c_region ?_
          refine tp rfl (lv_move rfl) ?_
          refine tp rfl (lv_move rfl) ?_
          refine tp rfl (lv_indexAddr (k' := i0) Try.underlying22 Try.sizeOf3 rfl rfl hok5 (by omega) (by omega) (by omega)) ?_
          refine tp rfl (lv_load Try.isAgg3 rfl (gives_sl (.tail _ (.head _)) (ints_get (by omega)))) ?_
          refine tp rfl (lv_assign rfl) ?_
          refine t_done ?_
          refine q_in_n ?_
          refine q_then_n (hK26 _ _ ?_)
          refine c_region ?_
          refine tp rfl (lv_move rfl) ?_
          refine tp rfl (lv_add (c := ((j + 1 : Nat) : Int)) rfl rfl (wr_i64_succ (by omega))) ?_
          refine tp rfl (lv_assign rfl) ?_
          refine t_done ?_
          refine q_then_n ?_
          refine t_f1 ?_
          exact t_weak (by exact ⟨rfl, rfl, rfl, rfl, rfl, rfl, rfl, rfl, rfl, rfl, rfl, rfl, rfl, rfl, rfl, trivial⟩) ((hK23 (j + 1, seen.set i0 true, (at_.getD i0 0)) ⟨by omega, hnx⟩ (by dsimp only; omega)))
        · -- no
         refine tp rfl (lv_geq rfl rfl (decide_eq_false h19)) ?_
         refine t_guard rfl rfl ?_
         refine tp rfl (lv_move rfl) ?_
         refine t_skip rfl rfl rfl ?_
         refine t_skip rfl rfl rfl ?_
         refine t_guard rfl rfl ?_
         refine tp rfl (lv_pick_f rfl rfl) ?_
         refine tp rfl (lv_pick_f rfl rfl) ?_
         refine tp rfl (lv_move rfl) ?_
         refine t_guard rfl rfl ?_
         refine tp rfl (lv_move rfl) ?_
         refine t_guard rfl rfl ?_
         by_cases h21 : last = 0
         · -- yes
          refine tp rfl (lv_eql rfl rfl (beq_iff_eq.2 h21)) ?_
          refine t_guard rfl rfl ?_
          refine tp rfl (lv_move rfl) ?_
          refine t_guard rfl rfl ?_
          refine tp rfl (lv_move rfl) ?_
          refine t_guard rfl rfl ?_
          refine tp rfl (lv_move rfl) ?_
          refine t_guard rfl rfl ?_
          refine tp rfl (lv_indexAddr (k' := i0) Try.underlying22 Try.sizeOf3 rfl rfl hok5 (by omega) (by omega) (by omega)) ?_
          refine t_guard rfl rfl ?_
          refine tp rfl (lv_load Try.isAgg3 rfl (gives_sl (.tail _ (.head _)) (ints_get (by omega)))) ?_
          refine t_guard rfl rfl ?_
          refine tp rfl (lv_neq rfl rfl (bne_eq_false_iff_eq.2 (by omega))) ?_
          refine t_guard rfl rfl ?_
          refine tp rfl (lv_pick_t rfl rfl) ?_
          refine tp rfl (lv_pick_f rfl rfl) ?_
          refine t_done ?_
          refine q_then_n (hK29 _ _ ?_)
          refine c_false rfl ?_
          refine c_skip ?_
          refine q_then_n (hK28 _ _ ?_)
          refine c_region ?_
          refine tp rfl (lv_move rfl) ?_
          refine tp rfl (lv_move rfl) ?_
          refine tp rfl (lv_indexAddr (k' := i0) Try.underlying22 Try.sizeOf3 rfl rfl hok5 (by omega) (by omega) (by omega)) ?_
          refine tp rfl (lv_load Try.isAgg3 rfl (gives_sl (.tail _ (.head _)) (ints_get (by omega)))) ?_
          refine tp rfl (lv_assign rfl) ?_
          refine t_done ?_
          refine q_in_n ?_
          refine q_then_n (hK26 _ _ ?_)
          refine c_region ?_
          refine tp rfl (lv_move rfl) ?_
          refine tp rfl (lv_add (c := ((j + 1 : Nat) : Int)) rfl rfl (wr_i64_succ (by omega))) ?_
          refine tp rfl (lv_assign rfl) ?_
          refine t_done ?_
          refine q_then_n ?_
          refine t_f1 ?_
          exact t_weak (by exact ⟨rfl, rfl, rfl, rfl, rfl, rfl, rfl, rfl, rfl, rfl, rfl, rfl, rfl, rfl, rfl, trivial⟩) ((hK23 (j + 1, seen.set i0 true, (at_.getD i0 0)) ⟨by omega, hnx⟩ (by dsimp only; omega)))
         · -- no
          refine tp rfl (lv_eql rfl rfl (beq_eq_false_iff_ne.2 h21)) ?_
          refine t_guard rfl rfl ?_
          refine tp rfl (lv_move rfl) ?_
          refine t_skip rfl rfl rfl ?_
          refine t_skip rfl rfl rfl ?_
          refine t_skip rfl rfl rfl ?_
          refine t_skip rfl rfl rfl ?_
          refine t_skip rfl rfl rfl ?_
          refine t_guard rfl rfl ?_
          refine tp rfl (lv_pick_f rfl rfl) ?_
          refine tp rfl (lv_pick_f rfl rfl) ?_
          refine t_done ?_
          refine q_then_n (hK29 _ _ ?_)
          refine c_false rfl ?_
          refine c_skip ?_
          refine q_then_n (hK28 _ _ ?_)
          refine c_region ?_
          refine tp rfl (lv_move rfl) ?_
          refine tp rfl (lv_move rfl) ?_
          refine tp rfl (lv_indexAddr (k' := i0) Try.underlying22 Try.sizeOf3 rfl rfl hok5 (by omega) (by omega) (by omega)) ?_
          refine tp rfl (lv_load Try.isAgg3 rfl (gives_sl (.tail _ (.head _)) (ints_get (by omega)))) ?_
          refine tp rfl (lv_assign rfl) ?_
          refine t_done ?_
          refine q_in_n ?_
          refine q_then_n (hK26 _ _ ?_)
          refine c_region ?_
          refine tp rfl (lv_move rfl) ?_
          refine tp rfl (lv_add (c := ((j + 1 : Nat) : Int)) rfl rfl (wr_i64_succ (by omega))) ?_
          refine tp rfl (lv_assign rfl) ?_
          refine t_done ?_
          refine q_then_n ?_
          refine t_f1 ?_
          exact t_weak (by exact ⟨rfl, rfl, rfl, rfl, rfl, rfl, rfl, rfl, rfl, rfl, rfl, rfl, rfl, rfl, rfl, trivial⟩) ((hK23 (j + 1, seen.set i0 true, (at_.getD i0 0)) ⟨by omega, hnx⟩ (by dsimp only; omega)))
      · -- no
        refine tp rfl (lv_lss rfl rfl (decide_eq_false h18)) ?_
        refine t_done ?_
        refine q_then_n (hK25 _ _ ?_)
        refine c_false rfl ?_
        refine c_exit ?_
        refine q_then_x ?_
        refine q_then_x ?_
        refine q_in_x ?_
        refine q_then_n (hK21 _ _ ?_)
        refine c_seq (fun K26 hK26 => ?_)
        refine c_region ?_
        refine tp rfl (lv_move rfl) ?_
        refine tp rfl (lv_assign rfl) ?_
        refine t_done ?_
        refine q_then_n (hK26 _ _ ?_)
        refine c_ret ?_
        refine t_drop ?_
        refine t_drop ?_
        refine q_ret rfl rfl ?_
        exact ⟨rfl, rfl⟩
end Go.Proofs.Ytchnphachgcjmaa
